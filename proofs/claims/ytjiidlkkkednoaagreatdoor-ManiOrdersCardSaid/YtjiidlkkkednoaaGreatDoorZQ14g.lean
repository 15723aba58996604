import Derived.Test.YtjiidlkkkednoaaGreatDoorZBaseg
section
namespace Go.Proofs.YtjiidlkkkednoaaGreatDoor.Q
open Go.RowKit Go.Proofs.YtjiidlkkkednoaaGreatDoorW.PrintWords Go.Proofs.YtjiidlkkkednoaaGreatDoorW.PrintLast Go.Proofs.YtjiidlkkkednoaaGreatDoorW.PrintMore
attribute [local go_sem] max2_int min2_int max_two min_two max_three min_three max_four min_four
set_option linter.unusedVariables false
set_option linter.unusedSimpArgs false
def transhumanceref4_words.l0:Nat→ByteArray→List ByteArray→Int→Int→Option (List ByteArray)
 | 0,_,_,_,_ => none
 | k+1,x0,x3,x4,x5 => if x5≤(x0.size:Int) then (if x5=(x0.size:Int) then (if 0≤x4 then (if x4≤x5 then (if x3.length<8796093022208 then (transhumanceref4_words.l0 k x0 (x3++[x0.extract (x4:Int).toNat (x5:Int).toNat]) (wrap64 (x5+1)) (wrap64 (x5+1))) else (none)) else (none)) else (none)) else (if 0≤x5 then (if x5<(x0.size:Int) then (if (bt x0 x5)=47 then (if 0≤x4 then (if x4≤x5 then (if x3.length<8796093022208 then (transhumanceref4_words.l0 k x0 (x3++[x0.extract (x4:Int).toNat (x5:Int).toNat]) (wrap64 (x5+1)) (wrap64 (x5+1))) else (none)) else (none)) else (none)) else (transhumanceref4_words.l0 k x0 x3 x4 (wrap64 (x5+1)))) else (none)) else (none))) else (some x3)
def transhumanceref4_words.f (k:Nat) (a0:ByteArray):Option (List ByteArray):=transhumanceref4_words.l0 k a0 ([]:List ByteArray) 0 0
theorem transhumanceref4_words.mono_l:∀ k,(∀ y0 y1 y2 y3,LeO (transhumanceref4_words.l0 k y0 y1 y2 y3) (transhumanceref4_words.l0 (k+1) y0 y1 y2 y3))
 | 0 => fun _ _ _ _ r h => by simp [transhumanceref4_words.l0] at h
 | k+1 => by
  have ih0:=transhumanceref4_words.mono_l k
  ·intro y0 y1 y2 y3
   unfold transhumanceref4_words.l0
   repeat' first
   | (with_reducible exact ih0 _ _ _ _)
   | (with_reducible exact LeO.refl _)
   | (with_reducible exact LeO.none _)
   | (with_reducible refine LeO.ite ?_ ?_)
   | (with_reducible refine LeO.bind ?_ (fun _ => ?_))
   | exact ih0 _ _ _ _
   | exact LeO.none _
   | refine LeO.ite ?_ ?_
   | refine LeO.bind ?_ (fun _ => ?_)
theorem transhumanceref4_words.mono:∀ a0 k,LeO (transhumanceref4_words.f k a0) (transhumanceref4_words.f (k+1) a0):=by
 intro a0 k
 have ih0:=transhumanceref4_words.mono_l k
 unfold transhumanceref4_words.f
 repeat' first
   | (with_reducible exact ih0 _ _ _ _)
   | (with_reducible exact LeO.refl _)
   | (with_reducible exact LeO.none _)
   | (with_reducible refine LeO.ite ?_ ?_)
   | (with_reducible refine LeO.bind ?_ (fun _ => ?_))
   | exact ih0 _ _ _ _
   | exact LeO.none _
   | refine LeO.ite ?_ ?_
   | refine LeO.bind ?_ (fun _ => ?_)
set_option maxHeartbeats 8000000 in
set_option maxRecDepth 100000 in
theorem transhumanceref4_words.calls (k:Nat) (a0:ByteArray) (r:List ByteArray) (w:World) (h:transhumanceref4_words.f k a0=some r) :
  Calls Tryz.prog 89 #[.string a0] w fun e w' => ∃ v0_:Value,e=.returned (v0_)∧Kd.R Kd.string 9 w' w.heap.size (fun _ => True) v0_ r∧Below w.heap.size w w':=by
 have HB:=Aside0.mk (Below.refl w.heap.size w)
 have H:(transhumanceref4_words.l0 k a0 ([]:List ByteArray) 0 0)=some r:=h
 clear h
 have H':=Aside0.mk H
 clear H
 go_enter Tryz.func89,Tryz.ntmps89
 go_wp2
 go_loopg [3,4,5] k (fun kq v3 v4 v5 w' => ∃ (x3_1:List ByteArray) (x4_1:Int) (x5_1:Int),v4=.int .i64 x4_1∧v5=.int .i64 x5_1∧Aside0 (transhumanceref4_words.l0 kq a0 x3_1 x4_1 x5_1=some r)∧Aside0 (kq≤k)∧Aside0 (Kd.R Kd.string 9 w' w.heap.size (fun _ => True) v3 x3_1)∧Aside0 (Below w.heap.size w w'))
 case atStart => exact ⟨(([]:List ByteArray)),(0),(0),(by first|rfl|(simp;done)|(simp [*];done)|(simp;exact (fun l_:List UInt8 => by cases l_ <;> rfl:∀ l_:List UInt8,l_.isEmpty=!(l_ != [])) _)),(by first|rfl|(simp;done)|(simp [*];done)|(simp;exact (fun l_:List UInt8 => by cases l_ <;> rfl:∀ l_:List UInt8,l_.isEmpty=!(l_ != [])) _)),H',⟨Nat.le_refl _⟩,⟨by first|exact Kd.R_nil _ _ _ _ _|exact Kd.N_nil _ _ _ _ _|exact Kd.V_nil _ _ _ _ _|exact Kd.Q_nil _ _ _ _ _|exact Kd.S_nil _ _ _ _ _⟩,⟨by repeat (first|(with_reducible first|exact HB.out|apply below_alloc|apply pw_below_drewN|apply below_drew1)|exact HB.out)⟩⟩
 case round =>
  clear H'
  obtain ⟨x3_1,x4_1,x5_1,rfl,rfl,HA,HK1,HO_3,HB⟩:=hrel
  cases gk with
  | zero => exact absurd HA.out (by simp [transhumanceref4_words.l0])
  | succ k1 =>
   have H:=HA.out
   clear HA
   simp only [transhumanceref4_words.l0] at H
   by_cases c2:x5_1≤(a0.size:Int)
   ·rw [if_pos c2] at H
    have c2b0:decide (x5_1≤(a0.size:Int))=true:=decide_eq_true c2
    clear c2
    by_cases c3:x5_1=(a0.size:Int)
    ·rw [if_pos c3] at H
     have c3b0:(x5_1 == (a0.size:Int))=true:=beq_iff_eq.mpr c3
     have c3b1:(x5_1 != (a0.size:Int))=false:=bne_eq_false_iff_eq.mpr c3
     clear c3
     by_cases c4:0≤x4_1
     ·rw [if_pos c4] at H
      have c4b0:=eq_true c4
      have c4b1:decide (0≤x4_1)=true:=decide_eq_true c4
      clear c4
      by_cases c5:x4_1≤x5_1
      ·rw [if_pos c5] at H
       have c5b0:=eq_true c5
       have c5b1:decide (x4_1≤x5_1)=true:=decide_eq_true c5
       clear c5
       have c6b0:=eq_true (of_decide_eq_true (by first|(with_reducible assumption)|assumption):x5_1≤(a0.size:Int))
       by_cases c7:x3_1.length<8796093022208
       ·rw [if_pos c7] at H
        have LMc7:=Aside0.mk c7
        clear c7
        obtain ⟨y168,hy168⟩:∃ y_:List ByteArray,y_=(x3_1++[a0.extract (x4_1:Int).toNat (x5_1:Int).toNat]):=⟨_,rfl⟩
        replace H:(transhumanceref4_words.l0 k1 a0 y168 (wrap64 (x5_1+1)) (wrap64 (x5_1+1)))=some r:=by first|(rw [hy168];with_reducible exact H)|(have H2_:=(Option.bind_some _ _).symm.trans H;rw [hy168];with_reducible exact H2_)|(have H2_:=(Option.bind_some _ _).symm.trans H;with_reducible exact H2_)|with_reducible exact H|(rw [hy168];exact H)|exact H
        have Ny168:=Aside0.mk hy168
        clear hy168
        have H':=Aside0.mk H
        clear H
        go_wp2_with (first|((with_reducible refine gate_builtin (b:=.append) (xs:=#[.tmp 22,.tmp 27]) rfl ?_);at_builtin;refine Kd.R_append Kd.string (w0:=w) w.heap.size rfl (.tmp 22) (.tmp 27) 41 9 (.string ⟨#[]⟩) 16 rfl Tryz.underlying41 info9 rfl (by decide) (by omega) u3 x3_1 (a0.extract (x4_1:Int).toNat (x5_1:Int).toNat) [.string (a0.extract (x4_1:Int).toNat (x5_1:Int).toNat)] (fun _ => True) (fun _ => False) rfl rfl ?aP (fun _ hk => hk.elim) ?aF ?aO ?aB ?aS ?aL ?_;(case aP => exact rfl);(case aB => exact (by repeat (first|(with_reducible first|exact HB.out|apply below_alloc|apply pw_below_drewN|apply below_drew1)|exact HB.out)));(case aF => exact (fun _ _ => trivial));(case aO => exact (by (with_reducible repeat (first|apply Kd.R_alloc|apply Kd.R_drewN|apply Kd.R_drew));exact HO_3.out));(case aS => exact (below_size (by repeat (first|(with_reducible first|exact HB.out|apply below_alloc|apply pw_below_drewN|apply below_drew1)|exact HB.out))));(case aL => have:=LMc7.out;omega);intro v169 w8 ho hb hg hat;rw [← Ny168.out] at ho;have n0_:=Aside0.mk (hb);have n1_:=Aside0.mk (ho);clear HB;clear HO_3;have HB:=n0_;have HO170:=n1_;clear n0_ n1_;clear ho hb hg hat))
        go_roundg k1
        case measure => have:=HK1.out;omega
        case rel => exact ⟨(y168),(wrap64 (x5_1+1)),(wrap64 (x5_1+1)),(by first|rfl|(simp;done)|(simp [*];done)|(simp;exact (fun l_:List UInt8 => by cases l_ <;> rfl:∀ l_:List UInt8,l_.isEmpty=!(l_ != [])) _)),(by first|rfl|(simp;done)|(simp [*];done)|(simp;exact (fun l_:List UInt8 => by cases l_ <;> rfl:∀ l_:List UInt8,l_.isEmpty=!(l_ != [])) _)),H',⟨by have:=HK1.out;omega⟩,⟨by (with_reducible repeat (first|apply Kd.R_alloc|apply Kd.R_drewN|apply Kd.R_drew));exact HO170.out⟩,⟨by repeat (first|(with_reducible first|exact HB.out|apply below_alloc|apply pw_below_drewN|apply below_drew1)|exact HB.out)⟩⟩
       ·rw [if_neg c7] at H
        exact absurd H (by simp)
      ·rw [if_neg c5] at H
       exact absurd H (by simp)
     ·rw [if_neg c4] at H
      exact absurd H (by simp)
    ·rw [if_neg c3] at H
     have c3b0:(x5_1 == (a0.size:Int))=false:=beq_eq_false_iff_ne.mpr c3
     have c3b1:(x5_1 != (a0.size:Int))=true:=bne_iff_ne.mpr c3
     by_cases c9:0≤x5_1
     ·rw [if_pos c9] at H
      have c9b0:decide (0≤x5_1)=true:=decide_eq_true c9
      clear c9
      by_cases c10:x5_1<(a0.size:Int)
      ·rw [if_pos c10] at H
       have c10b0:decide (x5_1<(a0.size:Int))=true:=decide_eq_true c10
       clear c10
       by_cases c12:(bt a0 x5_1)=47
       ·rw [if_pos c12] at H
        have c12b0:((bt a0 x5_1) == 47)=true:=beq_iff_eq.mpr c12
        have c12b1:((bt a0 x5_1) != 47)=false:=bne_eq_false_iff_eq.mpr c12
        clear c12
        by_cases c13:0≤x4_1
        ·rw [if_pos c13] at H
         have c13b0:=eq_true c13
         have c13b1:decide (0≤x4_1)=true:=decide_eq_true c13
         clear c13
         by_cases c14:x4_1≤x5_1
         ·rw [if_pos c14] at H
          have c14b0:=eq_true c14
          have c14b1:decide (x4_1≤x5_1)=true:=decide_eq_true c14
          clear c14
          have c15b0:=eq_true (of_decide_eq_true (by first|(with_reducible assumption)|assumption):x5_1≤(a0.size:Int))
          by_cases c16:x3_1.length<8796093022208
          ·rw [if_pos c16] at H
           have LMc16:=Aside0.mk c16
           clear c16
           obtain ⟨y171,hy171⟩:∃ y_:List ByteArray,y_=(x3_1++[a0.extract (x4_1:Int).toNat (x5_1:Int).toNat]):=⟨_,rfl⟩
           replace H:(transhumanceref4_words.l0 k1 a0 y171 (wrap64 (x5_1+1)) (wrap64 (x5_1+1)))=some r:=by first|(rw [hy171];with_reducible exact H)|(have H2_:=(Option.bind_some _ _).symm.trans H;rw [hy171];with_reducible exact H2_)|(have H2_:=(Option.bind_some _ _).symm.trans H;with_reducible exact H2_)|with_reducible exact H|(rw [hy171];exact H)|exact H
           have Ny171:=Aside0.mk hy171
           clear hy171
           have H':=Aside0.mk H
           clear H
           have p11:0≤(x5_1:Int):=of_decide_eq_true (by first|(with_reducible assumption)|assumption)
           have q11:x5_1<(a0.size:Int):=of_decide_eq_true (by first|(with_reducible assumption)|assumption)
           have hx11:=bt_at a0 x5_1
           replace p11:=eq_true p11
           replace q11:=eq_true q11
           go_wp2_with (first|((with_reducible refine gate_builtin (b:=.append) (xs:=#[.tmp 22,.tmp 27]) rfl ?_);at_builtin;refine Kd.R_append Kd.string (w0:=w) w.heap.size rfl (.tmp 22) (.tmp 27) 41 9 (.string ⟨#[]⟩) 16 rfl Tryz.underlying41 info9 rfl (by decide) (by omega) u3 x3_1 (a0.extract (x4_1:Int).toNat (x5_1:Int).toNat) [.string (a0.extract (x4_1:Int).toNat (x5_1:Int).toNat)] (fun _ => True) (fun _ => False) rfl rfl ?aP (fun _ hk => hk.elim) ?aF ?aO ?aB ?aS ?aL ?_;(case aP => exact rfl);(case aB => exact (by repeat (first|(with_reducible first|exact HB.out|apply below_alloc|apply pw_below_drewN|apply below_drew1)|exact HB.out)));(case aF => exact (fun _ _ => trivial));(case aO => exact (by (with_reducible repeat (first|apply Kd.R_alloc|apply Kd.R_drewN|apply Kd.R_drew));exact HO_3.out));(case aS => exact (below_size (by repeat (first|(with_reducible first|exact HB.out|apply below_alloc|apply pw_below_drewN|apply below_drew1)|exact HB.out))));(case aL => have:=LMc16.out;omega);intro v172 w17 ho hb hg hat;rw [← Ny171.out] at ho;have n0_:=Aside0.mk (hb);have n1_:=Aside0.mk (ho);clear HB;clear HO_3;have HB:=n0_;have HO173:=n1_;clear n0_ n1_;clear ho hb hg hat))
           go_roundg k1
           case measure => have:=HK1.out;omega
           case rel => exact ⟨(y171),(wrap64 (x5_1+1)),(wrap64 (x5_1+1)),(by first|rfl|(simp;done)|(simp [*];done)|(simp;exact (fun l_:List UInt8 => by cases l_ <;> rfl:∀ l_:List UInt8,l_.isEmpty=!(l_ != [])) _)),(by first|rfl|(simp;done)|(simp [*];done)|(simp;exact (fun l_:List UInt8 => by cases l_ <;> rfl:∀ l_:List UInt8,l_.isEmpty=!(l_ != [])) _)),H',⟨by have:=HK1.out;omega⟩,⟨by (with_reducible repeat (first|apply Kd.R_alloc|apply Kd.R_drewN|apply Kd.R_drew));exact HO173.out⟩,⟨by repeat (first|(with_reducible first|exact HB.out|apply below_alloc|apply pw_below_drewN|apply below_drew1)|exact HB.out)⟩⟩
          ·rw [if_neg c16] at H
           exact absurd H (by simp)
         ·rw [if_neg c14] at H
          exact absurd H (by simp)
        ·rw [if_neg c13] at H
         exact absurd H (by simp)
       ·rw [if_neg c12] at H
        have c12b0:((bt a0 x5_1) == 47)=false:=beq_eq_false_iff_ne.mpr c12
        have c12b1:((bt a0 x5_1) != 47)=true:=bne_iff_ne.mpr c12
        have H':=Aside0.mk H
        clear H
        have p11:0≤(x5_1:Int):=of_decide_eq_true (by first|(with_reducible assumption)|assumption)
        have q11:x5_1<(a0.size:Int):=of_decide_eq_true (by first|(with_reducible assumption)|assumption)
        have hx11:=bt_at a0 x5_1
        replace p11:=eq_true p11
        replace q11:=eq_true q11
        go_wp2
        go_roundg k1
        case measure => have:=HK1.out;omega
        case rel => exact ⟨(x3_1),(x4_1),(wrap64 (x5_1+1)),(by first|rfl|(simp;done)|(simp [*];done)|(simp;exact (fun l_:List UInt8 => by cases l_ <;> rfl:∀ l_:List UInt8,l_.isEmpty=!(l_ != [])) _)),(by first|rfl|(simp;done)|(simp [*];done)|(simp;exact (fun l_:List UInt8 => by cases l_ <;> rfl:∀ l_:List UInt8,l_.isEmpty=!(l_ != [])) _)),H',⟨by have:=HK1.out;omega⟩,⟨by (with_reducible repeat (first|apply Kd.R_alloc|apply Kd.R_drewN|apply Kd.R_drew));exact HO_3.out⟩,⟨by repeat (first|(with_reducible first|exact HB.out|apply below_alloc|apply pw_below_drewN|apply below_drew1)|exact HB.out)⟩⟩
      ·rw [if_neg c10] at H
       exact absurd H (by simp)
     ·rw [if_neg c9] at H
      exact absurd H (by simp)
   ·rw [if_neg c2] at H
    have c2b0:decide (x5_1≤(a0.size:Int))=false:=decide_eq_false c2
    clear c2
    obtain rfl:=Option.some.inj H
    go_wp2
    go_ret
    exact ⟨_,by first|rfl|(simp [errW_none,errW_some] <;> rfl)|(simp [*,errW_none,errW_some] <;> rfl),by (with_reducible repeat (first|apply Kd.R_alloc|apply Kd.R_drewN|apply Kd.R_drew));exact HO_3.out,by repeat (first|(with_reducible first|exact HB.out|apply below_alloc|apply pw_below_drewN|apply below_drew1)|exact HB.out)⟩
end Go.Proofs.YtjiidlkkkednoaaGreatDoor.Q
end
section
namespace Go.Proofs.YtjiidlkkkednoaaGreatDoor.Q
open Go.RowKit Go.Proofs.YtjiidlkkkednoaaGreatDoorW.PrintWords Go.Proofs.YtjiidlkkkednoaaGreatDoorW.PrintLast Go.Proofs.YtjiidlkkkednoaaGreatDoorW.PrintMore
attribute [local go_sem] max2_int min2_int max_two min_two max_three min_three max_four min_four
set_option linter.unusedVariables false
set_option linter.unusedSimpArgs false
mutual
def transhumanceref1_Number.j0:Nat→ByteArray→Bool→Option (Int × Bool)
 | 0,_,_ => none
 | k+1,x0,x23 => if x23=true then (some (0,false)) else (transhumanceref1_Number.l0 k x0 0 0)
def transhumanceref1_Number.l0:Nat→ByteArray→Int→Int→Option (Int × Bool)
 | 0,_,_,_ => none
 | k+1,x0,x4,x5 => if x5<(x0.size:Int) then (if 0≤x5 then (if (bt x0 x5)<48 then (some (0,false)) else (if (bt x0 x5) > 57 then (some (0,false)) else (transhumanceref1_Number.l0 k x0 (wrap64 ((wrap64 (10 * x4))+(((bt x0 x5) - 48) % 256))) (wrap64 (x5+1))))) else (none)) else (some (x4,true))
end
def transhumanceref1_Number.f (k:Nat) (a0:ByteArray):Option (Int × Bool):=if (a0.size:Int)<1 then (transhumanceref1_Number.j0 k a0 true) else (if (a0.size:Int) > 9 then (transhumanceref1_Number.j0 k a0 true) else (if (a0.size:Int) > 1 then (if 0<(a0.size:Int) then (transhumanceref1_Number.j0 k a0 ((bt a0 0) == 48)) else (none)) else (transhumanceref1_Number.j0 k a0 false)))
theorem transhumanceref1_Number.mono_l:∀ k,(∀ y0 y1,LeO (transhumanceref1_Number.j0 k y0 y1) (transhumanceref1_Number.j0 (k+1) y0 y1))∧(∀ y0 y1 y2,LeO (transhumanceref1_Number.l0 k y0 y1 y2) (transhumanceref1_Number.l0 (k+1) y0 y1 y2))
 | 0 => ⟨fun _ _ r h => by simp [transhumanceref1_Number.j0] at h,fun _ _ _ r h => by simp [transhumanceref1_Number.l0] at h⟩
 | k+1 => by
  obtain ⟨ih0,ih1⟩:=transhumanceref1_Number.mono_l k
  refine ⟨?_,?_⟩
  ·intro y0 y1
   unfold transhumanceref1_Number.j0
   repeat' first
   | (with_reducible exact ih0 _ _)
   | (with_reducible exact ih1 _ _ _)
   | (with_reducible exact LeO.refl _)
   | (with_reducible exact LeO.none _)
   | (with_reducible refine LeO.ite ?_ ?_)
   | (with_reducible refine LeO.bind ?_ (fun _ => ?_))
   | exact ih0 _ _
   | exact ih1 _ _ _
   | exact LeO.none _
   | refine LeO.ite ?_ ?_
   | refine LeO.bind ?_ (fun _ => ?_)
  ·intro y0 y1 y2
   unfold transhumanceref1_Number.l0
   repeat' first
   | (with_reducible exact ih0 _ _)
   | (with_reducible exact ih1 _ _ _)
   | (with_reducible exact LeO.refl _)
   | (with_reducible exact LeO.none _)
   | (with_reducible refine LeO.ite ?_ ?_)
   | (with_reducible refine LeO.bind ?_ (fun _ => ?_))
   | exact ih0 _ _
   | exact ih1 _ _ _
   | exact LeO.none _
   | refine LeO.ite ?_ ?_
   | refine LeO.bind ?_ (fun _ => ?_)
theorem transhumanceref1_Number.mono:∀ a0 k,LeO (transhumanceref1_Number.f k a0) (transhumanceref1_Number.f (k+1) a0):=by
 intro a0 k
 obtain ⟨ih0,ih1⟩:=transhumanceref1_Number.mono_l k
 unfold transhumanceref1_Number.f
 repeat' first
   | (with_reducible exact ih0 _ _)
   | (with_reducible exact ih1 _ _ _)
   | (with_reducible exact LeO.refl _)
   | (with_reducible exact LeO.none _)
   | (with_reducible refine LeO.ite ?_ ?_)
   | (with_reducible refine LeO.bind ?_ (fun _ => ?_))
   | exact ih0 _ _
   | exact ih1 _ _ _
   | exact LeO.none _
   | refine LeO.ite ?_ ?_
   | refine LeO.bind ?_ (fun _ => ?_)
set_option maxHeartbeats 8000000 in
set_option maxRecDepth 100000 in
theorem transhumanceref1_Number.calls (k:Nat) (a0:ByteArray) (r1:Int) (r2:Bool) (w:World) (h:transhumanceref1_Number.f k a0=some (r1,r2)) :
  Calls Tryz.prog 118 #[.string a0] w fun e w' => e=.returned (.tuple #[.int .i64 r1,.bool r2])∧Drawn0 w w':=by
 have H:(if (a0.size:Int)<1 then (transhumanceref1_Number.j0 k a0 true) else (if (a0.size:Int) > 9 then (transhumanceref1_Number.j0 k a0 true) else (if (a0.size:Int) > 1 then (if 0<(a0.size:Int) then (transhumanceref1_Number.j0 k a0 ((bt a0 0) == 48)) else (none)) else (transhumanceref1_Number.j0 k a0 false))))=some (r1,r2):=h
 clear h
 have HC2:=Aside0.mk H
 clear H
 go_enter Tryz.func118,Tryz.ntmps118
 go_upto_region 1 with (fail)
 go_cut [23] (fun v23 wc => ∃ (kq:Nat) (x23_1:Bool),v23=.bool x23_1∧Aside0 (transhumanceref1_Number.j0 kq a0 x23_1=some (r1,r2))∧Aside0 (kq≤k)∧Drawn0 w wc)
 case first =>
  have H:=HC2.out
  clear HC2
  by_cases c3:(a0.size:Int)<1
  ·rw [if_pos c3] at H
   have c3b0:decide ((a0.size:Int)<1)=true:=decide_eq_true c3
   have c3b1:decide (a0.size<1)=true:=decide_eq_true (by omega)
   clear c3
   (first|rw [c3b0]|(simp only [i64_w,i32_w];rw [c3b0])|skip)
   have H':=Aside0.mk H
   clear H
   go_wp2
   go_meet
   case rel => exact ⟨_,(true),(by first|rfl|(simp;done)|(simp [*];done)|(simp;exact (fun l_:List UInt8 => by cases l_ <;> rfl:∀ l_:List UInt8,l_.isEmpty=!(l_ != [])) _)),H',⟨by first|omega|exact Nat.le_refl _⟩,by repeat (first|exact Drawn0.refl _|apply Drawn0.step)⟩
  ·rw [if_neg c3] at H
   have c3b0:decide ((a0.size:Int)<1)=false:=decide_eq_false c3
   have c3b1:decide (a0.size<1)=false:=decide_eq_false (by omega)
   clear c3
   (first|rw [c3b0]|(simp only [i64_w,i32_w];rw [c3b0])|skip)
   by_cases c4:(a0.size:Int) > 9
   ·rw [if_pos c4] at H
    have c4b0:decide (9<(a0.size:Int))=true:=decide_eq_true c4
    have c4b1:decide (9<a0.size)=true:=decide_eq_true (by omega)
    clear c4
    have H':=Aside0.mk H
    clear H
    go_wp2
    go_meet
    case rel => exact ⟨_,(true),(by first|rfl|(simp;done)|(simp [*];done)|(simp;exact (fun l_:List UInt8 => by cases l_ <;> rfl:∀ l_:List UInt8,l_.isEmpty=!(l_ != [])) _)),H',⟨by first|omega|exact Nat.le_refl _⟩,by repeat (first|exact Drawn0.refl _|apply Drawn0.step)⟩
   ·rw [if_neg c4] at H
    have c4b0:decide (9<(a0.size:Int))=false:=decide_eq_false c4
    have c4b1:decide (9<a0.size)=false:=decide_eq_false (by omega)
    clear c4
    by_cases c5:(a0.size:Int) > 1
    ·rw [if_pos c5] at H
     have c5b0:decide (1<(a0.size:Int))=true:=decide_eq_true c5
     have c5b1:decide (1<a0.size)=true:=decide_eq_true (by omega)
     clear c5
     by_cases c6:0<(a0.size:Int)
     ·rw [if_pos c6] at H
      have c6b0:decide (0<(a0.size:Int))=true:=decide_eq_true c6
      have c6b1:decide (0<a0.size)=true:=decide_eq_true (by omega)
      clear c6
      have H':=Aside0.mk H
      clear H
      have p7:0≤(0:Int):=(by omega)
      have q7:0<a0.size:=(by have:(0:Int)<(a0.size:Int):=of_decide_eq_true (by first|(with_reducible assumption)|assumption);omega)
      have hx7:∀ h:0<a0.size,((a0[0]'h).toNat:Int)=bt a0 0:=bt_at a0 0
      clear p7
      have qi7:(0<(a0.size:Int))=True:=eq_true (of_decide_eq_true (by first|(with_reducible assumption)|assumption))
      replace q7:=eq_true q7
      go_wp2
      go_meet
      case rel => exact ⟨_,(((bt a0 0) == 48)),(by first|rfl|(simp;done)|(simp [*];done)|(simp;exact (fun l_:List UInt8 => by cases l_ <;> rfl:∀ l_:List UInt8,l_.isEmpty=!(l_ != [])) _)),H',⟨by first|omega|exact Nat.le_refl _⟩,by repeat (first|exact Drawn0.refl _|apply Drawn0.step)⟩
     ·rw [if_neg c6] at H
      exact absurd H (by simp)
    ·rw [if_neg c5] at H
     have c5b0:decide (1<(a0.size:Int))=false:=decide_eq_false c5
     have c5b1:decide (1<a0.size)=false:=decide_eq_false (by omega)
     clear c5
     have H':=Aside0.mk H
     clear H
     go_wp2
     go_meet
     case rel => exact ⟨_,(false),(by first|rfl|(simp;done)|(simp [*];done)|(simp;exact (fun l_:List UInt8 => by cases l_ <;> rfl:∀ l_:List UInt8,l_.isEmpty=!(l_ != [])) _)),H',⟨by first|omega|exact Nat.le_refl _⟩,by repeat (first|exact Drawn0.refl _|apply Drawn0.step)⟩
 case rest =>
  clear HC2
  try clear c1
  try clear p2
  try clear c3
  try clear c3b0
  try clear c3b1
  try clear c4
  try clear c4b0
  try clear c4b1
  try clear c5
  try clear c5b0
  try clear c5b1
  try clear c6
  try clear c6b0
  try clear c6b1
  try clear p7
  try clear q7
  try clear hx7
  try clear qi7
  try clear p7
  try clear q7
  obtain ⟨kq,x23_1,rfl,HA,HJ1,⟨mc1,rfl⟩⟩:=hcut
  cases kq with
  | zero => exact absurd HA.out (by simp [transhumanceref1_Number.j0])
  | succ kj1 =>
   have H:=HA.out
   clear HA
   simp only [transhumanceref1_Number.j0] at H
   by_cases c8:x23_1=true
   ·subst c8
    have H1:(some (0,false))=some (r1,r2):=by rw [if_pos rfl] at H;exact H
    clear H
    have H:=H1
    clear H1
    simp only [Option.some.injEq,Prod.mk.injEq] at H
    obtain ⟨rfl,rfl⟩:=H
    go_wp2
    go_ret2
    exact ⟨by first|rfl|(simp;done)|(simp [*];done)|(simp;exact (fun l_:List UInt8 => by cases l_ <;> rfl:∀ l_:List UInt8,l_.isEmpty=!(l_ != [])) _),by repeat (first|exact Drawn0.refl _|apply Drawn0.step)⟩
   ·replace c8:=Bool.eq_false_iff.mpr c8
    subst c8
    have H1:(transhumanceref1_Number.l0 kj1 a0 0 0)=some (r1,r2):=by rw [if_neg (show ¬ (false=true) by decide)] at H;exact H
    clear H
    have H:=H1
    clear H1
    have H':=Aside0.mk H
    clear H
    go_wp2
    go_loopg [4,5] kj1 (fun kq v4 v5 w' => ∃ (x4_2:Int) (x5_2:Int),v4=.int .i64 x4_2∧v5=.int .i64 x5_2∧Aside0 (transhumanceref1_Number.l0 kq a0 x4_2 x5_2=some (r1,r2))∧Aside0 (kq≤kj1)∧Drawn0 w w')
    case atStart => exact ⟨(0),(0),(by first|rfl|(simp;done)|(simp [*];done)|(simp;exact (fun l_:List UInt8 => by cases l_ <;> rfl:∀ l_:List UInt8,l_.isEmpty=!(l_ != [])) _)),(by first|rfl|(simp;done)|(simp [*];done)|(simp;exact (fun l_:List UInt8 => by cases l_ <;> rfl:∀ l_:List UInt8,l_.isEmpty=!(l_ != [])) _)),H',⟨Nat.le_refl _⟩,by repeat (first|exact Drawn0.refl _|apply Drawn0.step)⟩
    case round =>
     clear H'
     try clear c1
     try clear p2
     try clear c3
     try clear c3b0
     try clear c3b1
     try clear c4
     try clear c4b0
     try clear c4b1
     try clear c5
     try clear c5b0
     try clear c5b1
     try clear c6
     try clear c6b0
     try clear c6b1
     try clear p7
     try clear q7
     try clear hx7
     try clear qi7
     try clear c8
     try clear p2
     try clear p7
     try clear q7
     obtain ⟨x4_2,x5_2,rfl,rfl,HA,HK2,⟨m2,rfl⟩⟩:=hrel
     cases gk with
     | zero => exact absurd HA.out (by simp [transhumanceref1_Number.l0])
     | succ k2 =>
      have H:=HA.out
      clear HA
      simp only [transhumanceref1_Number.l0] at H
      by_cases c9:x5_2<(a0.size:Int)
      ·rw [if_pos c9] at H
       have c9b0:decide (x5_2<(a0.size:Int))=true:=decide_eq_true c9
       clear c9
       by_cases c10:0≤x5_2
       ·rw [if_pos c10] at H
        have c10b0:decide (0≤x5_2)=true:=decide_eq_true c10
        clear c10
        by_cases c12:(bt a0 x5_2)<48
        ·rw [if_pos c12] at H
         have c12b0:decide ((bt a0 x5_2)<48)=true:=decide_eq_true c12
         clear c12
         simp only [Option.some.injEq,Prod.mk.injEq] at H
         obtain ⟨rfl,rfl⟩:=H
         have p11:0≤(x5_2:Int):=of_decide_eq_true (by first|(with_reducible assumption)|assumption)
         have q11:x5_2<(a0.size:Int):=of_decide_eq_true (by first|(with_reducible assumption)|assumption)
         have hx11:=bt_at a0 x5_2
         replace p11:=eq_true p11
         replace q11:=eq_true q11
         go_wp2
         go_ret2
         exact ⟨by first|rfl|(simp;done)|(simp [*];done)|(simp;exact (fun l_:List UInt8 => by cases l_ <;> rfl:∀ l_:List UInt8,l_.isEmpty=!(l_ != [])) _),by repeat (first|exact Drawn0.refl _|apply Drawn0.step)⟩
        ·rw [if_neg c12] at H
         have c12b0:decide ((bt a0 x5_2)<48)=false:=decide_eq_false c12
         clear c12
         by_cases c14:(bt a0 x5_2) > 57
         ·rw [if_pos c14] at H
          have c14b0:decide (57<(bt a0 x5_2))=true:=decide_eq_true c14
          clear c14
          simp only [Option.some.injEq,Prod.mk.injEq] at H
          obtain ⟨rfl,rfl⟩:=H
          have p11:0≤(x5_2:Int):=of_decide_eq_true (by first|(with_reducible assumption)|assumption)
          have q11:x5_2<(a0.size:Int):=of_decide_eq_true (by first|(with_reducible assumption)|assumption)
          have hx11:=bt_at a0 x5_2
          replace p11:=eq_true p11
          replace q11:=eq_true q11
          have p13:0≤(x5_2:Int):=of_decide_eq_true (by first|(with_reducible assumption)|assumption)
          have q13:x5_2<(a0.size:Int):=of_decide_eq_true (by first|(with_reducible assumption)|assumption)
          have hx13:=bt_at a0 x5_2
          replace p13:=eq_true p13
          replace q13:=eq_true q13
          go_wp2
          go_ret2
          exact ⟨by first|rfl|(simp;done)|(simp [*];done)|(simp;exact (fun l_:List UInt8 => by cases l_ <;> rfl:∀ l_:List UInt8,l_.isEmpty=!(l_ != [])) _),by repeat (first|exact Drawn0.refl _|apply Drawn0.step)⟩
         ·rw [if_neg c14] at H
          have c14b0:decide (57<(bt a0 x5_2))=false:=decide_eq_false c14
          clear c14
          have H':=Aside0.mk H
          clear H
          have p11:0≤(x5_2:Int):=of_decide_eq_true (by first|(with_reducible assumption)|assumption)
          have q11:x5_2<(a0.size:Int):=of_decide_eq_true (by first|(with_reducible assumption)|assumption)
          have hx11:=bt_at a0 x5_2
          replace p11:=eq_true p11
          replace q11:=eq_true q11
          have p13:0≤(x5_2:Int):=of_decide_eq_true (by first|(with_reducible assumption)|assumption)
          have q13:x5_2<(a0.size:Int):=of_decide_eq_true (by first|(with_reducible assumption)|assumption)
          have hx13:=bt_at a0 x5_2
          replace p13:=eq_true p13
          replace q13:=eq_true q13
          have p15:0≤(x5_2:Int):=of_decide_eq_true (by first|(with_reducible assumption)|assumption)
          have q15:x5_2<(a0.size:Int):=of_decide_eq_true (by first|(with_reducible assumption)|assumption)
          have hx15:=bt_at a0 x5_2
          replace p15:=eq_true p15
          replace q15:=eq_true q15
          go_wp2
          go_roundg k2
          case measure => have:=HJ1.out;have:=HK2.out;omega
          case rel => exact ⟨(wrap64 ((wrap64 (10 * x4_2))+(((bt a0 x5_2) - 48) % 256))),(wrap64 (x5_2+1)),(by first|rfl|(simp;done)|(simp [*];done)|(simp;exact (fun l_:List UInt8 => by cases l_ <;> rfl:∀ l_:List UInt8,l_.isEmpty=!(l_ != [])) _)),(by first|rfl|(simp;done)|(simp [*];done)|(simp;exact (fun l_:List UInt8 => by cases l_ <;> rfl:∀ l_:List UInt8,l_.isEmpty=!(l_ != [])) _)),H',⟨by have:=HJ1.out;have:=HK2.out;omega⟩,by repeat (first|exact Drawn0.refl _|apply Drawn0.step)⟩
       ·rw [if_neg c10] at H
        exact absurd H (by simp)
      ·rw [if_neg c9] at H
       have c9b0:decide (x5_2<(a0.size:Int))=false:=decide_eq_false c9
       clear c9
       simp only [Option.some.injEq,Prod.mk.injEq] at H
       obtain ⟨rfl,rfl⟩:=H
       go_wp2
       go_ret2
       exact ⟨by first|rfl|(simp;done)|(simp [*];done)|(simp;exact (fun l_:List UInt8 => by cases l_ <;> rfl:∀ l_:List UInt8,l_.isEmpty=!(l_ != [])) _),by repeat (first|exact Drawn0.refl _|apply Drawn0.step)⟩
end Go.Proofs.YtjiidlkkkednoaaGreatDoor.Q
end
