import Derived.Test.YtjdjljgbfpkbdaaGreatDoorZQ0
namespace Go.Proofs.YtjdjljgbfpkbdaaGreatDoor.Q
open Go.RowKit Go.Proofs.YtjdjljgbfpkbdaaGreatDoorW.PrintWords Go.Proofs.YtjdjljgbfpkbdaaGreatDoorW.PrintLast Go.Proofs.YtjdjljgbfpkbdaaGreatDoorW.PrintMore
attribute [local go_sem] max2_int min2_int max_two min_two max_three min_three max_four min_four
set_option linter.unusedVariables false
set_option linter.unusedSimpArgs false
def transhumanceref6_Key.l0:Nat→ByteArray→List ByteArray→Int→Option (Int)
 | 0,_,_,_ => none
 | k+1,x0,x3,x4 => if x4<5 then (if 0≤x4 then (if x4<(x3.length:Int) then (if (rdOf ByteArray.empty x3 x4).toList=x0.toList then (some x4) else (transhumanceref6_Key.l0 k x0 x3 (wrap64 (x4+1)))) else (none)) else (none)) else (some (-1))
def transhumanceref6_Key.f (k:Nat) (a0:ByteArray):Option (Int):=transhumanceref6_Key.l0 k a0 (([(⟨#[114,111,111,116]⟩:ByteArray),(⟨#[118,101,114,115,105,111,110]⟩:ByteArray),(⟨#[114,101,118,105,115,105,111,110]⟩:ByteArray),(⟨#[119,105,116,104,105,110]⟩:ByteArray),(⟨#[115,111,117,114,99,101]⟩:ByteArray)]:List ByteArray)) 0
set_option maxHeartbeats 8000000 in
set_option maxRecDepth 100000 in
theorem transhumanceref6_Key.calls (k:Nat) (a0:ByteArray) (r:Int) (w:World) (h:transhumanceref6_Key.f k a0=some r) :
  Calls Tryz.prog 95 #[.string a0] w fun e w' => e=.returned (.int .i64 r)∧Below w.heap.size w w':=by
 have HB:=Aside0.mk (Below.refl w.heap.size w)
 have H:(transhumanceref6_Key.l0 k a0 (([(⟨#[114,111,111,116]⟩:ByteArray),(⟨#[118,101,114,115,105,111,110]⟩:ByteArray),(⟨#[114,101,118,105,115,105,111,110]⟩:ByteArray),(⟨#[119,105,116,104,105,110]⟩:ByteArray),(⟨#[115,111,117,114,99,101]⟩:ByteArray)]:List ByteArray)) 0)=some r:=h
 clear h
 obtain ⟨y130,hy130⟩:∃ y_:List ByteArray,y_=(([(⟨#[114,111,111,116]⟩:ByteArray),(⟨#[118,101,114,115,105,111,110]⟩:ByteArray),(⟨#[114,101,118,105,115,105,111,110]⟩:ByteArray),(⟨#[119,105,116,104,105,110]⟩:ByteArray),(⟨#[115,111,117,114,99,101]⟩:ByteArray)]:List ByteArray)):=⟨_,rfl⟩
 replace H:(transhumanceref6_Key.l0 k a0 y130 0)=some r:=by first|(rw [hy130];with_reducible exact H)|(have H2_:=(Option.bind_some _ _).symm.trans H;rw [hy130];with_reducible exact H2_)|(have H2_:=(Option.bind_some _ _).symm.trans H;with_reducible exact H2_)|with_reducible exact H|(rw [hy130];exact H)|exact H
 have Ny130:=Aside0.mk hy130
 clear hy130
 have H':=Aside0.mk H
 clear H
 go_enter Tryz.func95,Tryz.ntmps95
 go_wp2_with (first|((with_reducible refine gate_dst (N:=5) rfl ?_);refine Kd.R_lit Kd.string _ 9 ?hg (N:=5) ?hd (xs:=([(⟨#[114,111,111,116]⟩:ByteArray),(⟨#[118,101,114,115,105,111,110]⟩:ByteArray),(⟨#[114,101,118,105,115,105,111,110]⟩:ByteArray),(⟨#[119,105,116,104,105,110]⟩:ByteArray),(⟨#[115,111,117,114,99,101]⟩:ByteArray)]:List ByteArray)) (inner:=[.string (⟨#[114,111,111,116]⟩:ByteArray),.string (⟨#[118,101,114,115,105,111,110]⟩:ByteArray),.string (⟨#[114,101,118,105,115,105,111,110]⟩:ByteArray),.string (⟨#[119,105,116,104,105,110]⟩:ByteArray),.string (⟨#[115,111,117,114,99,101]⟩:ByteArray)]) (ok:=fun _ => True) (okp:=fun _ => True) ?hr ?hp (fun _ hk => hk) trivial (Below.refl _ _) (Nat.le_refl _) (by simp) ?_;(case hd => rfl);(case hg => rfl);(case hr => first|(go_simp;done)|(go_simp;rfl));(case hp => exact (Reps.one (show Kd.M Kd.string _ _ _ (⟨#[114,111,111,116]⟩:ByteArray) [.string (⟨#[114,111,111,116]⟩:ByteArray)] from rfl) (Reps.one (show Kd.M Kd.string _ _ _ (⟨#[118,101,114,115,105,111,110]⟩:ByteArray) [.string (⟨#[118,101,114,115,105,111,110]⟩:ByteArray)] from rfl) (Reps.one (show Kd.M Kd.string _ _ _ (⟨#[114,101,118,105,115,105,111,110]⟩:ByteArray) [.string (⟨#[114,101,118,105,115,105,111,110]⟩:ByteArray)] from rfl) (Reps.one (show Kd.M Kd.string _ _ _ (⟨#[119,105,116,104,105,110]⟩:ByteArray) [.string (⟨#[119,105,116,104,105,110]⟩:ByteArray)] from rfl) (Reps.one (show Kd.M Kd.string _ _ _ (⟨#[115,111,117,114,99,101]⟩:ByteArray) [.string (⟨#[115,111,117,114,99,101]⟩:ByteArray)] from rfl) (Reps.none _ _)))))));intro v131 w2 ho3 hb hg_ hnew_;clear hg_ hnew_;(first|rw [← Ny130.out] at ho3|(simp only [Int.reduceToNat] at ho3;rw [← Ny130.out] at ho3));have n0_:=Aside0.mk (Kd.R_lower ho3 (below_size (by repeat (first|(with_reducible first|exact HB.out|apply below_alloc|apply pw_below_drewN|apply below_drew1)|exact HB.out))));have n1_:=Aside0.mk (below_step (by repeat (first|(with_reducible first|exact HB.out|apply below_alloc|apply pw_below_drewN|apply below_drew1)|exact HB.out)) hb);clear HB;have HO132:=n0_;have HB:=n1_;clear n0_ n1_;clear hb ho3))
 go_loopg [4] k (fun kq v4 w' => ∃ (x4_1:Int),v4=.int .i64 x4_1∧Aside0 (transhumanceref6_Key.l0 kq a0 y130 x4_1=some r)∧Aside0 (kq≤k)∧Aside0 (Kd.R Kd.string 9 w' w.heap.size (fun _ => True) v131 y130)∧Aside0 (Below w.heap.size w w'))
 case atStart => exact ⟨(0),(by first|rfl|(simp;done)|(simp [*];done)|(simp;exact (fun l_:List UInt8 => by cases l_ <;> rfl:∀ l_:List UInt8,l_.isEmpty=!(l_ != [])) _)),H',⟨Nat.le_refl _⟩,⟨by (with_reducible repeat (first|apply Kd.R_alloc|apply Kd.R_drewN|apply Kd.R_drew));exact HO132.out⟩,⟨by repeat (first|(with_reducible first|exact HB.out|apply below_alloc|apply pw_below_drewN|apply below_drew1)|exact HB.out)⟩⟩
 case round =>
  clear H'
  try clear p2
  obtain ⟨x4_1,rfl,HA,HK1,HO_3,HB⟩:=hrel
  cases gk with
  | zero => exact absurd HA.out (by simp [transhumanceref6_Key.l0])
  | succ k1 =>
   have H:=HA.out
   clear HA
   simp only [transhumanceref6_Key.l0] at H
   by_cases c4:x4_1<5
   ·rw [if_pos c4] at H
    have c4b0:decide (x4_1<5)=true:=decide_eq_true c4
    clear c4
    by_cases c5:0≤x4_1
    ·rw [if_pos c5] at H
     have c5b0:decide (0≤x4_1)=true:=decide_eq_true c5
     clear c5
     by_cases c6:x4_1<(y130.length:Int)
     ·rw [if_pos c6] at H
      have c6b0:decide (x4_1<(y130.length:Int))=true:=decide_eq_true c6
      clear c6
      by_cases c7:(rdOf ByteArray.empty y130 x4_1).toList=a0.toList
      ·rw [if_pos c7] at H
       have c7b0:((rdOf ByteArray.empty y130 x4_1).toList == a0.toList)=true:=beq_iff_eq.mpr c7
       have c7b1:((rdOf ByteArray.empty y130 x4_1).toList != a0.toList)=false:=bne_eq_false_iff_eq.mpr c7
       clear c7
       obtain rfl:=Option.some.inj H
       obtain ⟨Ao8,co8,eo8⟩:=Kd.R_slice HO_3.out
       subst eo8
       have p133:0≤(x4_1:Int):=of_decide_eq_true (by first|(with_reducible assumption)|assumption)
       have q133:x4_1<(y130.length:Int):=of_decide_eq_true (by first|(with_reducible assumption)|assumption)
       obtain ⟨ad133,e133,hx133_0⟩:=Kd.at_string (Kd.R_reads' HO_3.out).2.2 x4_1 p133 q133
       cases e133
       replace p133:=eq_true p133
       replace q133:=eq_true q133
       go_wp2
       go_ret
       exact ⟨by first|rfl|(simp [errW_none,errW_some] <;> rfl)|(simp [*,errW_none,errW_some] <;> rfl),by repeat (first|(with_reducible first|exact HB.out|apply below_alloc|apply pw_below_drewN|apply below_drew1)|exact HB.out)⟩
      ·rw [if_neg c7] at H
       have c7b0:((rdOf ByteArray.empty y130 x4_1).toList == a0.toList)=false:=beq_eq_false_iff_ne.mpr c7
       have c7b1:((rdOf ByteArray.empty y130 x4_1).toList != a0.toList)=true:=bne_iff_ne.mpr c7
       have H':=Aside0.mk H
       clear H
       obtain ⟨Ao9,co9,eo9⟩:=Kd.R_slice HO_3.out
       subst eo9
       have p133:0≤(x4_1:Int):=of_decide_eq_true (by first|(with_reducible assumption)|assumption)
       have q133:x4_1<(y130.length:Int):=of_decide_eq_true (by first|(with_reducible assumption)|assumption)
       obtain ⟨ad133,e133,hx133_0⟩:=Kd.at_string (Kd.R_reads' HO_3.out).2.2 x4_1 p133 q133
       cases e133
       replace p133:=eq_true p133
       replace q133:=eq_true q133
       go_wp2
       go_roundg k1
       case measure => have:=HK1.out;omega
       case rel => exact ⟨(wrap64 (x4_1+1)),(by first|rfl|(simp;done)|(simp [*];done)|(simp;exact (fun l_:List UInt8 => by cases l_ <;> rfl:∀ l_:List UInt8,l_.isEmpty=!(l_ != [])) _)),H',⟨by have:=HK1.out;omega⟩,⟨by (with_reducible repeat (first|apply Kd.R_alloc|apply Kd.R_drewN|apply Kd.R_drew));exact HO_3.out⟩,⟨by repeat (first|(with_reducible first|exact HB.out|apply below_alloc|apply pw_below_drewN|apply below_drew1)|exact HB.out)⟩⟩
     ·rw [if_neg c6] at H
      exact absurd H (by simp)
    ·rw [if_neg c5] at H
     exact absurd H (by simp)
   ·rw [if_neg c4] at H
    have c4b0:decide (x4_1<5)=false:=decide_eq_false c4
    clear c4
    obtain rfl:=Option.some.inj H
    go_wp2
    go_ret
    exact ⟨by first|rfl|(simp [errW_none,errW_some] <;> rfl)|(simp [*,errW_none,errW_some] <;> rfl),by repeat (first|(with_reducible first|exact HB.out|apply below_alloc|apply pw_below_drewN|apply below_drew1)|exact HB.out)⟩
end Go.Proofs.YtjdjljgbfpkbdaaGreatDoor.Q
