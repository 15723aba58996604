import Derived.Test.YtjdjljgbfpkbdaaGreatDoorZQ0
section
namespace Go.Proofs.YtjdjljgbfpkbdaaGreatDoor.Q
open Go.RowKit Go.Proofs.YtjdjljgbfpkbdaaGreatDoorW.PrintWords Go.Proofs.YtjdjljgbfpkbdaaGreatDoorW.PrintLast Go.Proofs.YtjdjljgbfpkbdaaGreatDoorW.PrintMore
attribute [local go_sem] max2_int min2_int max_two min_two max_three min_three max_four min_four
set_option linter.unusedVariables false
set_option linter.unusedSimpArgs false
def transhumanceref4_words.l0:Nat→ByteArray→List ByteArray→Int→Int→Option (List ByteArray)
 | 0,_,_,_,_ => none
 | k+1,x0,x3,x4,x5 => if x5≤(x0.size:Int) then (if x5=(x0.size:Int) then (if 0≤x4 then (if x4≤x5 then (if x3.length<8796093022208 then (transhumanceref4_words.l0 k x0 (x3++[x0.extract (x4:Int).toNat (x5:Int).toNat]) (wrap64 (x5+1)) (wrap64 (x5+1))) else (none)) else (none)) else (none)) else (if 0≤x5 then (if x5<(x0.size:Int) then (if (bt x0 x5)=47 then (if 0≤x4 then (if x4≤x5 then (if x3.length<8796093022208 then (transhumanceref4_words.l0 k x0 (x3++[x0.extract (x4:Int).toNat (x5:Int).toNat]) (wrap64 (x5+1)) (wrap64 (x5+1))) else (none)) else (none)) else (none)) else (transhumanceref4_words.l0 k x0 x3 x4 (wrap64 (x5+1)))) else (none)) else (none))) else (some x3)
def transhumanceref4_words.f (k:Nat) (a0:ByteArray):Option (List ByteArray):=transhumanceref4_words.l0 k a0 ([]:List ByteArray) 0 0
set_option maxHeartbeats 8000000 in
set_option maxRecDepth 100000 in
theorem transhumanceref4_words.calls (k:Nat) (a0:ByteArray) (r:List ByteArray) (w:World) (h:transhumanceref4_words.f k a0=some r) :
  Calls Tryz.prog 97 #[.string a0] w fun e w' => ∃ v0_:Value,e=.returned (v0_)∧Kd.R Kd.string 9 w' w.heap.size (fun _ => True) v0_ r∧Below w.heap.size w w':=by
 have HB:=Aside0.mk (Below.refl w.heap.size w)
 have H:(transhumanceref4_words.l0 k a0 ([]:List ByteArray) 0 0)=some r:=h
 clear h
 have H':=Aside0.mk H
 clear H
 go_enter Tryz.func97,Tryz.ntmps97
 go_wp2
 go_loopg [3,4,5] k (fun kq v3 v4 v5 w' => ∃ (x3_1:List ByteArray) (x4_1:Int) (x5_1:Int),v4=.int .i64 x4_1∧v5=.int .i64 x5_1∧Aside0 (transhumanceref4_words.l0 kq a0 x3_1 x4_1 x5_1=some r)∧Aside0 (kq≤k)∧Aside0 (Kd.R Kd.string 9 w' w.heap.size (fun _ => True) v3 x3_1)∧Aside0 (Below w.heap.size w w'))
 case atStart => exact ⟨(([]:List ByteArray)),(0),(0),(by first|rfl|(simp;done)|(simp [*];done)|(simp;exact (fun l_:List UInt8 => by cases l_ <;> rfl:∀ l_:List UInt8,l_.isEmpty=!(l_ != [])) _)),(by first|rfl|(simp;done)|(simp [*];done)|(simp;exact (fun l_:List UInt8 => by cases l_ <;> rfl:∀ l_:List UInt8,l_.isEmpty=!(l_ != [])) _)),H',⟨Nat.le_refl _⟩,⟨by first|exact Kd.R_nil _ _ _ _ _|exact Kd.N_nil _ _ _ _ _|exact Kd.V_nil _ _ _ _ _|exact Kd.Q_nil _ _ _ _ _|exact Kd.S_nil _ _ _ _ _⟩,⟨by repeat (first|(with_reducible first|exact HB.out|apply below_alloc|apply pw_below_drewN|apply below_drew1)|exact HB.out)⟩⟩
 case round =>
  clear H'
  obtain ⟨x3_1,x4_1,x5_1,rfl,rfl,HA,HK1,HO_3,HB⟩:=hrel
  cases gk with
  | zero => exact absurd HA.out (by simp [transhumanceref4_words.l0])
  | succ k1 =>
   have H:=HA.out
   clear HA
   simp only [transhumanceref4_words.l0] at H
   by_cases c2:x5_1≤(a0.size:Int)
   ·rw [if_pos c2] at H
    have c2b0:decide (x5_1≤(a0.size:Int))=true:=decide_eq_true c2
    clear c2
    by_cases c3:x5_1=(a0.size:Int)
    ·rw [if_pos c3] at H
     have c3b0:(x5_1 == (a0.size:Int))=true:=beq_iff_eq.mpr c3
     have c3b1:(x5_1 != (a0.size:Int))=false:=bne_eq_false_iff_eq.mpr c3
     clear c3
     by_cases c4:0≤x4_1
     ·rw [if_pos c4] at H
      have c4b0:=eq_true c4
      have c4b1:decide (0≤x4_1)=true:=decide_eq_true c4
      clear c4
      by_cases c5:x4_1≤x5_1
      ·rw [if_pos c5] at H
       have c5b0:=eq_true c5
       have c5b1:decide (x4_1≤x5_1)=true:=decide_eq_true c5
       clear c5
       have c6b0:=eq_true (of_decide_eq_true (by first|(with_reducible assumption)|assumption):x5_1≤(a0.size:Int))
       by_cases c7:x3_1.length<8796093022208
       ·rw [if_pos c7] at H
        have LMc7:=Aside0.mk c7
        clear c7
        obtain ⟨y142,hy142⟩:∃ y_:List ByteArray,y_=(x3_1++[a0.extract (x4_1:Int).toNat (x5_1:Int).toNat]):=⟨_,rfl⟩
        replace H:(transhumanceref4_words.l0 k1 a0 y142 (wrap64 (x5_1+1)) (wrap64 (x5_1+1)))=some r:=by first|(rw [hy142];with_reducible exact H)|(have H2_:=(Option.bind_some _ _).symm.trans H;rw [hy142];with_reducible exact H2_)|(have H2_:=(Option.bind_some _ _).symm.trans H;with_reducible exact H2_)|with_reducible exact H|(rw [hy142];exact H)|exact H
        have Ny142:=Aside0.mk hy142
        clear hy142
        have H':=Aside0.mk H
        clear H
        go_wp2_with (first|((with_reducible refine gate_builtin (b:=.append) (xs:=#[.tmp 22,.tmp 27]) rfl ?_);at_builtin;refine Kd.R_append Kd.string (w0:=w) w.heap.size rfl (.tmp 22) (.tmp 27) 36 9 (.string ⟨#[]⟩) 16 rfl Tryz.underlying36 info9 rfl (by decide) (by omega) u3 x3_1 (a0.extract (x4_1:Int).toNat (x5_1:Int).toNat) [.string (a0.extract (x4_1:Int).toNat (x5_1:Int).toNat)] (fun _ => True) (fun _ => False) rfl rfl ?aP (fun _ hk => hk.elim) ?aF ?aO ?aB ?aS ?aL ?_;(case aP => exact rfl);(case aB => exact (by repeat (first|(with_reducible first|exact HB.out|apply below_alloc|apply pw_below_drewN|apply below_drew1)|exact HB.out)));(case aF => exact (fun _ _ => trivial));(case aO => exact (by (with_reducible repeat (first|apply Kd.R_alloc|apply Kd.R_drewN|apply Kd.R_drew));exact HO_3.out));(case aS => exact (below_size (by repeat (first|(with_reducible first|exact HB.out|apply below_alloc|apply pw_below_drewN|apply below_drew1)|exact HB.out))));(case aL => have:=LMc7.out;omega);intro v143 w8 ho hb hg hat;rw [← Ny142.out] at ho;have n0_:=Aside0.mk (hb);have n1_:=Aside0.mk (ho);clear HB;clear HO_3;have HB:=n0_;have HO144:=n1_;clear n0_ n1_;clear ho hb hg hat))
        go_roundg k1
        case measure => have:=HK1.out;omega
        case rel => exact ⟨(y142),(wrap64 (x5_1+1)),(wrap64 (x5_1+1)),(by first|rfl|(simp;done)|(simp [*];done)|(simp;exact (fun l_:List UInt8 => by cases l_ <;> rfl:∀ l_:List UInt8,l_.isEmpty=!(l_ != [])) _)),(by first|rfl|(simp;done)|(simp [*];done)|(simp;exact (fun l_:List UInt8 => by cases l_ <;> rfl:∀ l_:List UInt8,l_.isEmpty=!(l_ != [])) _)),H',⟨by have:=HK1.out;omega⟩,⟨by (with_reducible repeat (first|apply Kd.R_alloc|apply Kd.R_drewN|apply Kd.R_drew));exact HO144.out⟩,⟨by repeat (first|(with_reducible first|exact HB.out|apply below_alloc|apply pw_below_drewN|apply below_drew1)|exact HB.out)⟩⟩
       ·rw [if_neg c7] at H
        exact absurd H (by simp)
      ·rw [if_neg c5] at H
       exact absurd H (by simp)
     ·rw [if_neg c4] at H
      exact absurd H (by simp)
    ·rw [if_neg c3] at H
     have c3b0:(x5_1 == (a0.size:Int))=false:=beq_eq_false_iff_ne.mpr c3
     have c3b1:(x5_1 != (a0.size:Int))=true:=bne_iff_ne.mpr c3
     by_cases c9:0≤x5_1
     ·rw [if_pos c9] at H
      have c9b0:decide (0≤x5_1)=true:=decide_eq_true c9
      clear c9
      by_cases c10:x5_1<(a0.size:Int)
      ·rw [if_pos c10] at H
       have c10b0:decide (x5_1<(a0.size:Int))=true:=decide_eq_true c10
       clear c10
       by_cases c12:(bt a0 x5_1)=47
       ·rw [if_pos c12] at H
        have c12b0:((bt a0 x5_1) == 47)=true:=beq_iff_eq.mpr c12
        have c12b1:((bt a0 x5_1) != 47)=false:=bne_eq_false_iff_eq.mpr c12
        clear c12
        by_cases c13:0≤x4_1
        ·rw [if_pos c13] at H
         have c13b0:=eq_true c13
         have c13b1:decide (0≤x4_1)=true:=decide_eq_true c13
         clear c13
         by_cases c14:x4_1≤x5_1
         ·rw [if_pos c14] at H
          have c14b0:=eq_true c14
          have c14b1:decide (x4_1≤x5_1)=true:=decide_eq_true c14
          clear c14
          have c15b0:=eq_true (of_decide_eq_true (by first|(with_reducible assumption)|assumption):x5_1≤(a0.size:Int))
          by_cases c16:x3_1.length<8796093022208
          ·rw [if_pos c16] at H
           have LMc16:=Aside0.mk c16
           clear c16
           obtain ⟨y145,hy145⟩:∃ y_:List ByteArray,y_=(x3_1++[a0.extract (x4_1:Int).toNat (x5_1:Int).toNat]):=⟨_,rfl⟩
           replace H:(transhumanceref4_words.l0 k1 a0 y145 (wrap64 (x5_1+1)) (wrap64 (x5_1+1)))=some r:=by first|(rw [hy145];with_reducible exact H)|(have H2_:=(Option.bind_some _ _).symm.trans H;rw [hy145];with_reducible exact H2_)|(have H2_:=(Option.bind_some _ _).symm.trans H;with_reducible exact H2_)|with_reducible exact H|(rw [hy145];exact H)|exact H
           have Ny145:=Aside0.mk hy145
           clear hy145
           have H':=Aside0.mk H
           clear H
           have p11:0≤(x5_1:Int):=of_decide_eq_true (by first|(with_reducible assumption)|assumption)
           have q11:x5_1<(a0.size:Int):=of_decide_eq_true (by first|(with_reducible assumption)|assumption)
           have hx11:=bt_at a0 x5_1
           replace p11:=eq_true p11
           replace q11:=eq_true q11
           go_wp2_with (first|((with_reducible refine gate_builtin (b:=.append) (xs:=#[.tmp 22,.tmp 27]) rfl ?_);at_builtin;refine Kd.R_append Kd.string (w0:=w) w.heap.size rfl (.tmp 22) (.tmp 27) 36 9 (.string ⟨#[]⟩) 16 rfl Tryz.underlying36 info9 rfl (by decide) (by omega) u3 x3_1 (a0.extract (x4_1:Int).toNat (x5_1:Int).toNat) [.string (a0.extract (x4_1:Int).toNat (x5_1:Int).toNat)] (fun _ => True) (fun _ => False) rfl rfl ?aP (fun _ hk => hk.elim) ?aF ?aO ?aB ?aS ?aL ?_;(case aP => exact rfl);(case aB => exact (by repeat (first|(with_reducible first|exact HB.out|apply below_alloc|apply pw_below_drewN|apply below_drew1)|exact HB.out)));(case aF => exact (fun _ _ => trivial));(case aO => exact (by (with_reducible repeat (first|apply Kd.R_alloc|apply Kd.R_drewN|apply Kd.R_drew));exact HO_3.out));(case aS => exact (below_size (by repeat (first|(with_reducible first|exact HB.out|apply below_alloc|apply pw_below_drewN|apply below_drew1)|exact HB.out))));(case aL => have:=LMc16.out;omega);intro v146 w17 ho hb hg hat;rw [← Ny145.out] at ho;have n0_:=Aside0.mk (hb);have n1_:=Aside0.mk (ho);clear HB;clear HO_3;have HB:=n0_;have HO147:=n1_;clear n0_ n1_;clear ho hb hg hat))
           go_roundg k1
           case measure => have:=HK1.out;omega
           case rel => exact ⟨(y145),(wrap64 (x5_1+1)),(wrap64 (x5_1+1)),(by first|rfl|(simp;done)|(simp [*];done)|(simp;exact (fun l_:List UInt8 => by cases l_ <;> rfl:∀ l_:List UInt8,l_.isEmpty=!(l_ != [])) _)),(by first|rfl|(simp;done)|(simp [*];done)|(simp;exact (fun l_:List UInt8 => by cases l_ <;> rfl:∀ l_:List UInt8,l_.isEmpty=!(l_ != [])) _)),H',⟨by have:=HK1.out;omega⟩,⟨by (with_reducible repeat (first|apply Kd.R_alloc|apply Kd.R_drewN|apply Kd.R_drew));exact HO147.out⟩,⟨by repeat (first|(with_reducible first|exact HB.out|apply below_alloc|apply pw_below_drewN|apply below_drew1)|exact HB.out)⟩⟩
          ·rw [if_neg c16] at H
           exact absurd H (by simp)
         ·rw [if_neg c14] at H
          exact absurd H (by simp)
        ·rw [if_neg c13] at H
         exact absurd H (by simp)
       ·rw [if_neg c12] at H
        have c12b0:((bt a0 x5_1) == 47)=false:=beq_eq_false_iff_ne.mpr c12
        have c12b1:((bt a0 x5_1) != 47)=true:=bne_iff_ne.mpr c12
        have H':=Aside0.mk H
        clear H
        have p11:0≤(x5_1:Int):=of_decide_eq_true (by first|(with_reducible assumption)|assumption)
        have q11:x5_1<(a0.size:Int):=of_decide_eq_true (by first|(with_reducible assumption)|assumption)
        have hx11:=bt_at a0 x5_1
        replace p11:=eq_true p11
        replace q11:=eq_true q11
        go_wp2
        go_roundg k1
        case measure => have:=HK1.out;omega
        case rel => exact ⟨(x3_1),(x4_1),(wrap64 (x5_1+1)),(by first|rfl|(simp;done)|(simp [*];done)|(simp;exact (fun l_:List UInt8 => by cases l_ <;> rfl:∀ l_:List UInt8,l_.isEmpty=!(l_ != [])) _)),(by first|rfl|(simp;done)|(simp [*];done)|(simp;exact (fun l_:List UInt8 => by cases l_ <;> rfl:∀ l_:List UInt8,l_.isEmpty=!(l_ != [])) _)),H',⟨by have:=HK1.out;omega⟩,⟨by (with_reducible repeat (first|apply Kd.R_alloc|apply Kd.R_drewN|apply Kd.R_drew));exact HO_3.out⟩,⟨by repeat (first|(with_reducible first|exact HB.out|apply below_alloc|apply pw_below_drewN|apply below_drew1)|exact HB.out)⟩⟩
      ·rw [if_neg c10] at H
       exact absurd H (by simp)
     ·rw [if_neg c9] at H
      exact absurd H (by simp)
   ·rw [if_neg c2] at H
    have c2b0:decide (x5_1≤(a0.size:Int))=false:=decide_eq_false c2
    clear c2
    obtain rfl:=Option.some.inj H
    go_wp2
    go_ret
    exact ⟨_,by first|rfl|(simp [errW_none,errW_some] <;> rfl)|(simp [*,errW_none,errW_some] <;> rfl),by (with_reducible repeat (first|apply Kd.R_alloc|apply Kd.R_drewN|apply Kd.R_drew));exact HO_3.out,by repeat (first|(with_reducible first|exact HB.out|apply below_alloc|apply pw_below_drewN|apply below_drew1)|exact HB.out)⟩
end Go.Proofs.YtjdjljgbfpkbdaaGreatDoor.Q
end
section
namespace Go.Proofs.YtjdjljgbfpkbdaaGreatDoor.Q
open Go.RowKit Go.Proofs.YtjdjljgbfpkbdaaGreatDoorW.PrintWords Go.Proofs.YtjdjljgbfpkbdaaGreatDoorW.PrintLast Go.Proofs.YtjdjljgbfpkbdaaGreatDoorW.PrintMore
attribute [local go_sem] max2_int min2_int max_two min_two max_three min_three max_four min_four
set_option linter.unusedVariables false
set_option linter.unusedSimpArgs false
mutual
def transhumanceref6_Check.j0:Nat→List (S43)→Int→Bool→ByteArray→ByteArray→ByteArray→ByteArray→ByteArray→Option (Int)
 | 0,_,_,_,_,_,_,_,_ => none
 | k+1,x0,x3,x28,x141000,x141001,x141002,x141003,x141004 => if x28=true then (some 1) else (transhumanceref6_Check.l0 k x0 x3 0 x141000 x141001 x141002 x141003 x141004)
def transhumanceref6_Check.l0:Nat→List (S43)→Int→Int→ByteArray→ByteArray→ByteArray→ByteArray→ByteArray→Option (Int)
 | 0,_,_,_,_,_,_,_,_ => none
 | k+1,x0,x3,x5,x141000,x141001,x141002,x141003,x141004 => if x5<x3 then (if 0≤x5 then (if x5<(x0.length:Int) then (if ((rd_T43 x0 x5).f0).toList=x141000.toList then (some 4) else (transhumanceref6_Check.l0 k x0 x3 (wrap64 (x5+1)) x141000 x141001 x141002 x141003 x141004)) else (none)) else (none)) else (some 0)
end
def transhumanceref6_Check.f (k:Nat) (l0:List (S43)):Option (Int):=if (l0.length:Int)=0 then (some 0) else (if 0≤(wrap64 ((l0.length:Int) - 1)) then (if (wrap64 ((l0.length:Int) - 1))<(l0.length:Int) then (if ((rd_T43 l0 (wrap64 ((l0.length:Int) - 1))).f0).toList=([]:List UInt8) then (transhumanceref6_Check.j0 k l0 (wrap64 ((l0.length:Int) - 1)) true ((rd_T43 l0 (wrap64 ((l0.length:Int) - 1))).f0) ((rd_T43 l0 (wrap64 ((l0.length:Int) - 1))).f1) ((rd_T43 l0 (wrap64 ((l0.length:Int) - 1))).f2) ((rd_T43 l0 (wrap64 ((l0.length:Int) - 1))).f3) ((rd_T43 l0 (wrap64 ((l0.length:Int) - 1))).f4)) else (if ((rd_T43 l0 (wrap64 ((l0.length:Int) - 1))).f1).toList=([]:List UInt8) then (transhumanceref6_Check.j0 k l0 (wrap64 ((l0.length:Int) - 1)) (((rd_T43 l0 (wrap64 ((l0.length:Int) - 1))).f2).toList == ([]:List UInt8)) ((rd_T43 l0 (wrap64 ((l0.length:Int) - 1))).f0) ((rd_T43 l0 (wrap64 ((l0.length:Int) - 1))).f1) ((rd_T43 l0 (wrap64 ((l0.length:Int) - 1))).f2) ((rd_T43 l0 (wrap64 ((l0.length:Int) - 1))).f3) ((rd_T43 l0 (wrap64 ((l0.length:Int) - 1))).f4)) else (transhumanceref6_Check.j0 k l0 (wrap64 ((l0.length:Int) - 1)) false ((rd_T43 l0 (wrap64 ((l0.length:Int) - 1))).f0) ((rd_T43 l0 (wrap64 ((l0.length:Int) - 1))).f1) ((rd_T43 l0 (wrap64 ((l0.length:Int) - 1))).f2) ((rd_T43 l0 (wrap64 ((l0.length:Int) - 1))).f3) ((rd_T43 l0 (wrap64 ((l0.length:Int) - 1))).f4)))) else (none)) else (none))
set_option maxHeartbeats 8000000 in
set_option maxRecDepth 100000 in
theorem transhumanceref6_Check.calls (k:Nat) (A0:Option Addr) (c0:Nat) (l0:List (S43)) (r:Int) (w:World) (hr0:Kd.C k43 w A0 l0.length l0) (hc0:l0.length≤c0) (h:transhumanceref6_Check.f k l0=some r) :
  Calls Tryz.prog 39 #[.slice A0 l0.length c0] w fun e w' => e=.returned (.int .i64 r)∧Below w.heap.size w w':=by
 have hu43:=Tryz.underlying43
 have HR0:=Aside0.mk hr0
 have HC0:=Aside0.mk hc0
 clear hr0 hc0
 have HB:=Aside0.mk (Below.refl w.heap.size w)
 have H:(if (l0.length:Int)=0 then (some 0) else (if 0≤(wrap64 ((l0.length:Int) - 1)) then (if (wrap64 ((l0.length:Int) - 1))<(l0.length:Int) then (if ((rd_T43 l0 (wrap64 ((l0.length:Int) - 1))).f0).toList=([]:List UInt8) then (transhumanceref6_Check.j0 k l0 (wrap64 ((l0.length:Int) - 1)) true ((rd_T43 l0 (wrap64 ((l0.length:Int) - 1))).f0) ((rd_T43 l0 (wrap64 ((l0.length:Int) - 1))).f1) ((rd_T43 l0 (wrap64 ((l0.length:Int) - 1))).f2) ((rd_T43 l0 (wrap64 ((l0.length:Int) - 1))).f3) ((rd_T43 l0 (wrap64 ((l0.length:Int) - 1))).f4)) else (if ((rd_T43 l0 (wrap64 ((l0.length:Int) - 1))).f1).toList=([]:List UInt8) then (transhumanceref6_Check.j0 k l0 (wrap64 ((l0.length:Int) - 1)) (((rd_T43 l0 (wrap64 ((l0.length:Int) - 1))).f2).toList == ([]:List UInt8)) ((rd_T43 l0 (wrap64 ((l0.length:Int) - 1))).f0) ((rd_T43 l0 (wrap64 ((l0.length:Int) - 1))).f1) ((rd_T43 l0 (wrap64 ((l0.length:Int) - 1))).f2) ((rd_T43 l0 (wrap64 ((l0.length:Int) - 1))).f3) ((rd_T43 l0 (wrap64 ((l0.length:Int) - 1))).f4)) else (transhumanceref6_Check.j0 k l0 (wrap64 ((l0.length:Int) - 1)) false ((rd_T43 l0 (wrap64 ((l0.length:Int) - 1))).f0) ((rd_T43 l0 (wrap64 ((l0.length:Int) - 1))).f1) ((rd_T43 l0 (wrap64 ((l0.length:Int) - 1))).f2) ((rd_T43 l0 (wrap64 ((l0.length:Int) - 1))).f3) ((rd_T43 l0 (wrap64 ((l0.length:Int) - 1))).f4)))) else (none)) else (none)))=some r:=h
 clear h
 by_cases c2:(l0.length:Int)=0
 ·rw [if_pos c2] at H
  have c2b0:((l0.length:Int) == 0)=true:=beq_iff_eq.mpr c2
  have c2b1:((l0.length:Int) != 0)=false:=bne_eq_false_iff_eq.mpr c2
  clear c2
  obtain rfl:=Option.some.inj H
  go_enter Tryz.func39,Tryz.ntmps39
  go_wp2
  repeat (go_quiet (fail);try go_wp2)
  go_ret
  exact ⟨by first|rfl|(simp [errW_none,errW_some] <;> rfl)|(simp [*,errW_none,errW_some] <;> rfl),by repeat (first|(with_reducible first|exact HB.out|apply below_alloc|apply pw_below_drewN|apply below_drew1)|exact HB.out)⟩
 ·rw [if_neg c2] at H
  have c2b0:((l0.length:Int) == 0)=false:=beq_eq_false_iff_ne.mpr c2
  have c2b1:((l0.length:Int) != 0)=true:=bne_iff_ne.mpr c2
  have c2b2:¬ (l0=[]):=fun h_ => c2 (by rw [h_];rfl)
  obtain ⟨ji3,hji3⟩:∃ j_:Int,(wrap64 ((l0.length:Int) - 1))=j_:=⟨_,rfl⟩
  replace H:(if 0≤(ji3) then (if (ji3)<(l0.length:Int) then (if ((rd_T43 l0 (ji3)).f0).toList=([]:List UInt8) then (transhumanceref6_Check.j0 k l0 ji3 true ((rd_T43 l0 (ji3)).f0) ((rd_T43 l0 (ji3)).f1) ((rd_T43 l0 (ji3)).f2) ((rd_T43 l0 (ji3)).f3) ((rd_T43 l0 (ji3)).f4)) else (if ((rd_T43 l0 (ji3)).f1).toList=([]:List UInt8) then (transhumanceref6_Check.j0 k l0 ji3 (((rd_T43 l0 (ji3)).f2).toList == ([]:List UInt8)) ((rd_T43 l0 (ji3)).f0) ((rd_T43 l0 (ji3)).f1) ((rd_T43 l0 (ji3)).f2) ((rd_T43 l0 (ji3)).f3) ((rd_T43 l0 (ji3)).f4)) else (transhumanceref6_Check.j0 k l0 ji3 false ((rd_T43 l0 (ji3)).f0) ((rd_T43 l0 (ji3)).f1) ((rd_T43 l0 (ji3)).f2) ((rd_T43 l0 (ji3)).f3) ((rd_T43 l0 (ji3)).f4)))) else (none)) else (none))=some r:=by first|(rw [hji3] at H;exact H)|(simp only [hji3] at H ⊢;exact H)
  have hji3w:(IntKind.i64.wrap ((l0.length:Int) - 1))=ji3:=(i64_w _).trans hji3
  by_cases c4:0≤(ji3)
  ·rw [if_pos c4] at H
   have c4b0:decide (0≤(ji3))=true:=decide_eq_true c4
   clear c4
   by_cases c5:(ji3)<(l0.length:Int)
   ·rw [if_pos c5] at H
    have c5b0:decide ((ji3)<(l0.length:Int))=true:=decide_eq_true c5
    clear c5
    have HC6:=Aside0.mk H
    clear H
    have p139:0≤((ji3):Int):=of_decide_eq_true (by first|(with_reducible assumption)|assumption)
    have q139:(ji3)<(l0.length:Int):=of_decide_eq_true (by first|(with_reducible assumption)|assumption)
    obtain ⟨ad139,e139,hx139_0,hx139_1,hx139_2,hx139_3,hx139_4⟩:=at_T43 HR0.out (ji3) p139 q139
    cases e139
    replace p139:=eq_true p139
    replace q139:=eq_true q139
    go_enter Tryz.func39,Tryz.ntmps39
    go_upto_region 5 with (first|((with_reducible refine gate_dst (N:=4) rfl ?_);refine box_event ?hg (N:=4) ?hd (cs:=#[.string (⟨#[]⟩:ByteArray),.string (⟨#[]⟩:ByteArray),.string (⟨#[]⟩:ByteArray),.string (⟨#[]⟩:ByteArray),.string (⟨#[]⟩:ByteArray)]) (t:=43) ?hr ?_;(case hd => rfl);(case hg => rfl);(case hr => first|(go_simp;done)|(go_simp;rfl));intro gb140 hg w7 hbox hb;have n0_:=Aside0.mk (below_step (by repeat (first|(with_reducible first|exact HB.out|apply below_alloc|apply pw_below_drewN|apply below_drew1)|exact HB.out)) hb);have n1_:=Aside0.mk (hbox);have n2_:=Aside0.mk ((by rw [hg];exact (below_size (by repeat (first|(with_reducible first|exact HB.out|apply below_alloc|apply pw_below_drewN|apply below_drew1)|exact HB.out))):w.heap.size≤gb140));have n3_:=Aside0.mk ((by rw [hg];exact (below_size (by repeat (first|(with_reducible first|exact HB.out|apply below_alloc|apply pw_below_drewN|apply below_drew1)|exact HB.out))):w.heap.size≤gb140));clear HB;have HB:=n0_;have BK140:=n1_;have GW140:=n2_;have GE140:=n3_;clear n0_ n1_ n2_ n3_;clear hb hbox hg;have hcz8_0:w7.cell? ⟨gb140,0,none⟩=some (.string (⟨#[]⟩:ByteArray)):=(blk_cell BK140.out 0).trans rfl;have hcz8_1:w7.cell? ⟨gb140,1,none⟩=some (.string (⟨#[]⟩:ByteArray)):=(blk_cell BK140.out 1).trans rfl;have hcz8_2:w7.cell? ⟨gb140,2,none⟩=some (.string (⟨#[]⟩:ByteArray)):=(blk_cell BK140.out 2).trans rfl;have hcz8_3:w7.cell? ⟨gb140,3,none⟩=some (.string (⟨#[]⟩:ByteArray)):=(blk_cell BK140.out 3).trans rfl;have hcz8_4:w7.cell? ⟨gb140,4,none⟩=some (.string (⟨#[]⟩:ByteArray)):=(blk_cell BK140.out 4).trans rfl;have hfz8_0:=blk_frozen BK140.out 0;have hfz8_1:=blk_frozen BK140.out 1;have hfz8_2:=blk_frozen BK140.out 2;have hfz8_3:=blk_frozen BK140.out 3;have hfz8_4:=blk_frozen BK140.out 4))
    repeat (go_quiet (first|((with_reducible refine gate_dst (N:=4) rfl ?_);refine box_event ?hg (N:=4) ?hd (cs:=#[.string (⟨#[]⟩:ByteArray),.string (⟨#[]⟩:ByteArray),.string (⟨#[]⟩:ByteArray),.string (⟨#[]⟩:ByteArray),.string (⟨#[]⟩:ByteArray)]) (t:=43) ?hr ?_;(case hd => rfl);(case hg => rfl);(case hr => first|(go_simp;done)|(go_simp;rfl));intro gb140 hg w7 hbox hb;have n0_:=Aside0.mk (below_step (by repeat (first|(with_reducible first|exact HB.out|apply below_alloc|apply pw_below_drewN|apply below_drew1)|exact HB.out)) hb);have n1_:=Aside0.mk (hbox);have n2_:=Aside0.mk ((by rw [hg];exact (below_size (by repeat (first|(with_reducible first|exact HB.out|apply below_alloc|apply pw_below_drewN|apply below_drew1)|exact HB.out))):w.heap.size≤gb140));have n3_:=Aside0.mk ((by rw [hg];exact (below_size (by repeat (first|(with_reducible first|exact HB.out|apply below_alloc|apply pw_below_drewN|apply below_drew1)|exact HB.out))):w.heap.size≤gb140));clear HB;have HB:=n0_;have BK140:=n1_;have GW140:=n2_;have GE140:=n3_;clear n0_ n1_ n2_ n3_;clear hb hbox hg;have hcz8_0:w7.cell? ⟨gb140,0,none⟩=some (.string (⟨#[]⟩:ByteArray)):=(blk_cell BK140.out 0).trans rfl;have hcz8_1:w7.cell? ⟨gb140,1,none⟩=some (.string (⟨#[]⟩:ByteArray)):=(blk_cell BK140.out 1).trans rfl;have hcz8_2:w7.cell? ⟨gb140,2,none⟩=some (.string (⟨#[]⟩:ByteArray)):=(blk_cell BK140.out 2).trans rfl;have hcz8_3:w7.cell? ⟨gb140,3,none⟩=some (.string (⟨#[]⟩:ByteArray)):=(blk_cell BK140.out 3).trans rfl;have hcz8_4:w7.cell? ⟨gb140,4,none⟩=some (.string (⟨#[]⟩:ByteArray)):=(blk_cell BK140.out 4).trans rfl;have hfz8_0:=blk_frozen BK140.out 0;have hfz8_1:=blk_frozen BK140.out 1;have hfz8_2:=blk_frozen BK140.out 2;have hfz8_3:=blk_frozen BK140.out 3;have hfz8_4:=blk_frozen BK140.out 4));go_upto_region 5 with (first|((with_reducible refine gate_dst (N:=4) rfl ?_);refine box_event ?hg (N:=4) ?hd (cs:=#[.string (⟨#[]⟩:ByteArray),.string (⟨#[]⟩:ByteArray),.string (⟨#[]⟩:ByteArray),.string (⟨#[]⟩:ByteArray),.string (⟨#[]⟩:ByteArray)]) (t:=43) ?hr ?_;(case hd => rfl);(case hg => rfl);(case hr => first|(go_simp;done)|(go_simp;rfl));intro gb140 hg w7 hbox hb;have n0_:=Aside0.mk (below_step (by repeat (first|(with_reducible first|exact HB.out|apply below_alloc|apply pw_below_drewN|apply below_drew1)|exact HB.out)) hb);have n1_:=Aside0.mk (hbox);have n2_:=Aside0.mk ((by rw [hg];exact (below_size (by repeat (first|(with_reducible first|exact HB.out|apply below_alloc|apply pw_below_drewN|apply below_drew1)|exact HB.out))):w.heap.size≤gb140));have n3_:=Aside0.mk ((by rw [hg];exact (below_size (by repeat (first|(with_reducible first|exact HB.out|apply below_alloc|apply pw_below_drewN|apply below_drew1)|exact HB.out))):w.heap.size≤gb140));clear HB;have HB:=n0_;have BK140:=n1_;have GW140:=n2_;have GE140:=n3_;clear n0_ n1_ n2_ n3_;clear hb hbox hg;have hcz8_0:w7.cell? ⟨gb140,0,none⟩=some (.string (⟨#[]⟩:ByteArray)):=(blk_cell BK140.out 0).trans rfl;have hcz8_1:w7.cell? ⟨gb140,1,none⟩=some (.string (⟨#[]⟩:ByteArray)):=(blk_cell BK140.out 1).trans rfl;have hcz8_2:w7.cell? ⟨gb140,2,none⟩=some (.string (⟨#[]⟩:ByteArray)):=(blk_cell BK140.out 2).trans rfl;have hcz8_3:w7.cell? ⟨gb140,3,none⟩=some (.string (⟨#[]⟩:ByteArray)):=(blk_cell BK140.out 3).trans rfl;have hcz8_4:w7.cell? ⟨gb140,4,none⟩=some (.string (⟨#[]⟩:ByteArray)):=(blk_cell BK140.out 4).trans rfl;have hfz8_0:=blk_frozen BK140.out 0;have hfz8_1:=blk_frozen BK140.out 1;have hfz8_2:=blk_frozen BK140.out 2;have hfz8_3:=blk_frozen BK140.out 3;have hfz8_4:=blk_frozen BK140.out 4)))
    (try simp only [Act.put,List.setIfInBounds_toArray,List.set_cons_zero,List.set_cons_succ])
    go_cut [28] (fun v28 wc => ∃ (kq:Nat) (x28_5:Bool),v28=.bool x28_5∧Aside0 (transhumanceref6_Check.j0 kq l0 ji3 x28_5 ((rd_T43 l0 (ji3)).f0) ((rd_T43 l0 (ji3)).f1) ((rd_T43 l0 (ji3)).f2) ((rd_T43 l0 (ji3)).f3) ((rd_T43 l0 (ji3)).f4)=some r)∧Aside0 (kq≤k)∧Aside0 (wc.heap[gb140]?=some (.cells #[.string ((rd_T43 l0 (ji3)).f0),.string ((rd_T43 l0 (ji3)).f1),.string ((rd_T43 l0 (ji3)).f2),.string ((rd_T43 l0 (ji3)).f3),.string ((rd_T43 l0 (ji3)).f4)] 43 (0,0)))∧Aside0 (Below w.heap.size w wc))
    case first =>
     have H:=HC6.out
     clear HC6
     by_cases c9:((rd_T43 l0 (ji3)).f0).toList=([]:List UInt8)
     ·rw [if_pos c9] at H
      have c9b0:(((rd_T43 l0 (ji3)).f0).toList == ([]:List UInt8))=true:=beq_iff_eq.mpr c9
      have c9b1:(((rd_T43 l0 (ji3)).f0).toList != ([]:List UInt8))=false:=bne_eq_false_iff_eq.mpr c9
      clear c9
      (first|rw [c9b0]|(simp only [i64_w,i32_w];rw [c9b0])|skip)
      have H':=Aside0.mk H
      clear H
      have hcz10_0:w7.cell? ⟨gb140,0,none⟩=some (.string (⟨#[]⟩:ByteArray)):=(blk_cell BK140.out 0).trans rfl
      have hcz10_1:w7.cell? ⟨gb140,1,none⟩=some (.string (⟨#[]⟩:ByteArray)):=(blk_cell BK140.out 1).trans rfl
      have hcz10_2:w7.cell? ⟨gb140,2,none⟩=some (.string (⟨#[]⟩:ByteArray)):=(blk_cell BK140.out 2).trans rfl
      have hcz10_3:w7.cell? ⟨gb140,3,none⟩=some (.string (⟨#[]⟩:ByteArray)):=(blk_cell BK140.out 3).trans rfl
      have hcz10_4:w7.cell? ⟨gb140,4,none⟩=some (.string (⟨#[]⟩:ByteArray)):=(blk_cell BK140.out 4).trans rfl
      have hfz10_0:=blk_frozen BK140.out 0
      have hfz10_1:=blk_frozen BK140.out 1
      have hfz10_2:=blk_frozen BK140.out 2
      have hfz10_3:=blk_frozen BK140.out 3
      have hfz10_4:=blk_frozen BK140.out 4
      go_wp2
      repeat (go_quiet (fail);try go_wp2)
      go_meet
      case rel => exact ⟨_,(true),(by first|rfl|(simp;done)|(simp [*];done)|(simp;exact (fun l_:List UInt8 => by cases l_ <;> rfl:∀ l_:List UInt8,l_.isEmpty=!(l_ != [])) _)),H',⟨by first|omega|exact Nat.le_refl _⟩,⟨by (with_reducible repeat (first|refine blk_drewN ?_ _|refine blk_drew ?_|refine blk_alloc ?_ _));refine blk_put (cs:=#[.string ((rd_T43 l0 (ji3)).f0),.string ((rd_T43 l0 (ji3)).f1),.string ((rd_T43 l0 (ji3)).f2),.string ((rd_T43 l0 (ji3)).f3),.string (⟨#[]⟩:ByteArray)]) ?_ 4 _ rfl;(with_reducible repeat (first|refine blk_drewN ?_ _|refine blk_drew ?_|refine blk_alloc ?_ _));refine blk_put (cs:=#[.string ((rd_T43 l0 (ji3)).f0),.string ((rd_T43 l0 (ji3)).f1),.string ((rd_T43 l0 (ji3)).f2),.string (⟨#[]⟩:ByteArray),.string (⟨#[]⟩:ByteArray)]) ?_ 3 _ rfl;(with_reducible repeat (first|refine blk_drewN ?_ _|refine blk_drew ?_|refine blk_alloc ?_ _));refine blk_put (cs:=#[.string ((rd_T43 l0 (ji3)).f0),.string ((rd_T43 l0 (ji3)).f1),.string (⟨#[]⟩:ByteArray),.string (⟨#[]⟩:ByteArray),.string (⟨#[]⟩:ByteArray)]) ?_ 2 _ rfl;(with_reducible repeat (first|refine blk_drewN ?_ _|refine blk_drew ?_|refine blk_alloc ?_ _));refine blk_put (cs:=#[.string ((rd_T43 l0 (ji3)).f0),.string (⟨#[]⟩:ByteArray),.string (⟨#[]⟩:ByteArray),.string (⟨#[]⟩:ByteArray),.string (⟨#[]⟩:ByteArray)]) ?_ 1 _ rfl;(with_reducible repeat (first|refine blk_drewN ?_ _|refine blk_drew ?_|refine blk_alloc ?_ _));refine blk_put (cs:=#[.string (⟨#[]⟩:ByteArray),.string (⟨#[]⟩:ByteArray),.string (⟨#[]⟩:ByteArray),.string (⟨#[]⟩:ByteArray),.string (⟨#[]⟩:ByteArray)]) ?_ 0 _ rfl;(with_reducible repeat (first|refine blk_drewN ?_ _|refine blk_drew ?_|refine blk_alloc ?_ _));exact BK140.out⟩,⟨by repeat (first|(with_reducible first|exact HB.out|apply below_alloc|apply pw_below_drewN|apply below_drew1|refine below_set ?_ GE140.out)|exact HB.out)⟩⟩
     ·rw [if_neg c9] at H
      have c9b0:(((rd_T43 l0 (ji3)).f0).toList == ([]:List UInt8))=false:=beq_eq_false_iff_ne.mpr c9
      have c9b1:(((rd_T43 l0 (ji3)).f0).toList != ([]:List UInt8))=true:=bne_iff_ne.mpr c9
      (first|rw [c9b0]|(simp only [i64_w,i32_w];rw [c9b0])|skip)
      by_cases c11:((rd_T43 l0 (ji3)).f1).toList=([]:List UInt8)
      ·rw [if_pos c11] at H
       have c11b0:(((rd_T43 l0 (ji3)).f1).toList == ([]:List UInt8))=true:=beq_iff_eq.mpr c11
       have c11b1:(((rd_T43 l0 (ji3)).f1).toList != ([]:List UInt8))=false:=bne_eq_false_iff_eq.mpr c11
       clear c11
       have H':=Aside0.mk H
       clear H
       have hcz12_0:w7.cell? ⟨gb140,0,none⟩=some (.string (⟨#[]⟩:ByteArray)):=(blk_cell BK140.out 0).trans rfl
       have hcz12_1:w7.cell? ⟨gb140,1,none⟩=some (.string (⟨#[]⟩:ByteArray)):=(blk_cell BK140.out 1).trans rfl
       have hcz12_2:w7.cell? ⟨gb140,2,none⟩=some (.string (⟨#[]⟩:ByteArray)):=(blk_cell BK140.out 2).trans rfl
       have hcz12_3:w7.cell? ⟨gb140,3,none⟩=some (.string (⟨#[]⟩:ByteArray)):=(blk_cell BK140.out 3).trans rfl
       have hcz12_4:w7.cell? ⟨gb140,4,none⟩=some (.string (⟨#[]⟩:ByteArray)):=(blk_cell BK140.out 4).trans rfl
       have hfz12_0:=blk_frozen BK140.out 0
       have hfz12_1:=blk_frozen BK140.out 1
       have hfz12_2:=blk_frozen BK140.out 2
       have hfz12_3:=blk_frozen BK140.out 3
       have hfz12_4:=blk_frozen BK140.out 4
       go_wp2
       repeat (go_quiet (fail);try go_wp2)
       go_meet
       case rel => exact ⟨_,((((rd_T43 l0 (ji3)).f2).toList == ([]:List UInt8))),(by first|rfl|(simp;done)|(simp only [← hji3] <;> (first|rfl|(simp;done)|(simp [*];done)|(simp_all;done)))|(simp [*];done)|(simp;exact (fun l_:List UInt8 => by cases l_ <;> rfl:∀ l_:List UInt8,l_.isEmpty=!(l_ != [])) _)),H',⟨by first|omega|exact Nat.le_refl _⟩,⟨by (with_reducible repeat (first|refine blk_drewN ?_ _|refine blk_drew ?_|refine blk_alloc ?_ _));refine blk_put (cs:=#[.string ((rd_T43 l0 (ji3)).f0),.string ((rd_T43 l0 (ji3)).f1),.string ((rd_T43 l0 (ji3)).f2),.string ((rd_T43 l0 (ji3)).f3),.string (⟨#[]⟩:ByteArray)]) ?_ 4 _ rfl;(with_reducible repeat (first|refine blk_drewN ?_ _|refine blk_drew ?_|refine blk_alloc ?_ _));refine blk_put (cs:=#[.string ((rd_T43 l0 (ji3)).f0),.string ((rd_T43 l0 (ji3)).f1),.string ((rd_T43 l0 (ji3)).f2),.string (⟨#[]⟩:ByteArray),.string (⟨#[]⟩:ByteArray)]) ?_ 3 _ rfl;(with_reducible repeat (first|refine blk_drewN ?_ _|refine blk_drew ?_|refine blk_alloc ?_ _));refine blk_put (cs:=#[.string ((rd_T43 l0 (ji3)).f0),.string ((rd_T43 l0 (ji3)).f1),.string (⟨#[]⟩:ByteArray),.string (⟨#[]⟩:ByteArray),.string (⟨#[]⟩:ByteArray)]) ?_ 2 _ rfl;(with_reducible repeat (first|refine blk_drewN ?_ _|refine blk_drew ?_|refine blk_alloc ?_ _));refine blk_put (cs:=#[.string ((rd_T43 l0 (ji3)).f0),.string (⟨#[]⟩:ByteArray),.string (⟨#[]⟩:ByteArray),.string (⟨#[]⟩:ByteArray),.string (⟨#[]⟩:ByteArray)]) ?_ 1 _ rfl;(with_reducible repeat (first|refine blk_drewN ?_ _|refine blk_drew ?_|refine blk_alloc ?_ _));refine blk_put (cs:=#[.string (⟨#[]⟩:ByteArray),.string (⟨#[]⟩:ByteArray),.string (⟨#[]⟩:ByteArray),.string (⟨#[]⟩:ByteArray),.string (⟨#[]⟩:ByteArray)]) ?_ 0 _ rfl;(with_reducible repeat (first|refine blk_drewN ?_ _|refine blk_drew ?_|refine blk_alloc ?_ _));exact BK140.out⟩,⟨by repeat (first|(with_reducible first|exact HB.out|apply below_alloc|apply pw_below_drewN|apply below_drew1|refine below_set ?_ GE140.out)|exact HB.out)⟩⟩
      ·rw [if_neg c11] at H
       have c11b0:(((rd_T43 l0 (ji3)).f1).toList == ([]:List UInt8))=false:=beq_eq_false_iff_ne.mpr c11
       have c11b1:(((rd_T43 l0 (ji3)).f1).toList != ([]:List UInt8))=true:=bne_iff_ne.mpr c11
       have H':=Aside0.mk H
       clear H
       have hcz13_0:w7.cell? ⟨gb140,0,none⟩=some (.string (⟨#[]⟩:ByteArray)):=(blk_cell BK140.out 0).trans rfl
       have hcz13_1:w7.cell? ⟨gb140,1,none⟩=some (.string (⟨#[]⟩:ByteArray)):=(blk_cell BK140.out 1).trans rfl
       have hcz13_2:w7.cell? ⟨gb140,2,none⟩=some (.string (⟨#[]⟩:ByteArray)):=(blk_cell BK140.out 2).trans rfl
       have hcz13_3:w7.cell? ⟨gb140,3,none⟩=some (.string (⟨#[]⟩:ByteArray)):=(blk_cell BK140.out 3).trans rfl
       have hcz13_4:w7.cell? ⟨gb140,4,none⟩=some (.string (⟨#[]⟩:ByteArray)):=(blk_cell BK140.out 4).trans rfl
       have hfz13_0:=blk_frozen BK140.out 0
       have hfz13_1:=blk_frozen BK140.out 1
       have hfz13_2:=blk_frozen BK140.out 2
       have hfz13_3:=blk_frozen BK140.out 3
       have hfz13_4:=blk_frozen BK140.out 4
       go_wp2
       repeat (go_quiet (fail);try go_wp2)
       go_meet
       case rel => exact ⟨_,(false),(by first|rfl|(simp;done)|(simp [*];done)|(simp;exact (fun l_:List UInt8 => by cases l_ <;> rfl:∀ l_:List UInt8,l_.isEmpty=!(l_ != [])) _)),H',⟨by first|omega|exact Nat.le_refl _⟩,⟨by (with_reducible repeat (first|refine blk_drewN ?_ _|refine blk_drew ?_|refine blk_alloc ?_ _));refine blk_put (cs:=#[.string ((rd_T43 l0 (ji3)).f0),.string ((rd_T43 l0 (ji3)).f1),.string ((rd_T43 l0 (ji3)).f2),.string ((rd_T43 l0 (ji3)).f3),.string (⟨#[]⟩:ByteArray)]) ?_ 4 _ rfl;(with_reducible repeat (first|refine blk_drewN ?_ _|refine blk_drew ?_|refine blk_alloc ?_ _));refine blk_put (cs:=#[.string ((rd_T43 l0 (ji3)).f0),.string ((rd_T43 l0 (ji3)).f1),.string ((rd_T43 l0 (ji3)).f2),.string (⟨#[]⟩:ByteArray),.string (⟨#[]⟩:ByteArray)]) ?_ 3 _ rfl;(with_reducible repeat (first|refine blk_drewN ?_ _|refine blk_drew ?_|refine blk_alloc ?_ _));refine blk_put (cs:=#[.string ((rd_T43 l0 (ji3)).f0),.string ((rd_T43 l0 (ji3)).f1),.string (⟨#[]⟩:ByteArray),.string (⟨#[]⟩:ByteArray),.string (⟨#[]⟩:ByteArray)]) ?_ 2 _ rfl;(with_reducible repeat (first|refine blk_drewN ?_ _|refine blk_drew ?_|refine blk_alloc ?_ _));refine blk_put (cs:=#[.string ((rd_T43 l0 (ji3)).f0),.string (⟨#[]⟩:ByteArray),.string (⟨#[]⟩:ByteArray),.string (⟨#[]⟩:ByteArray),.string (⟨#[]⟩:ByteArray)]) ?_ 1 _ rfl;(with_reducible repeat (first|refine blk_drewN ?_ _|refine blk_drew ?_|refine blk_alloc ?_ _));refine blk_put (cs:=#[.string (⟨#[]⟩:ByteArray),.string (⟨#[]⟩:ByteArray),.string (⟨#[]⟩:ByteArray),.string (⟨#[]⟩:ByteArray),.string (⟨#[]⟩:ByteArray)]) ?_ 0 _ rfl;(with_reducible repeat (first|refine blk_drewN ?_ _|refine blk_drew ?_|refine blk_alloc ?_ _));exact BK140.out⟩,⟨by repeat (first|(with_reducible first|exact HB.out|apply below_alloc|apply pw_below_drewN|apply below_drew1|refine below_set ?_ GE140.out)|exact HB.out)⟩⟩
    case rest =>
     clear HC6
     try clear c1
     try clear p1
     try clear q1
     try clear hx1
     try clear c2
     try clear c2b0
     try clear c2b1
     try clear c2b2
     try clear p2
     try clear c3
     try clear c4
     try clear c4b0
     try clear c5
     try clear c5b0
     try clear p6
     try clear c9
     try clear c9b0
     try clear c9b1
     try clear c11
     try clear c11b0
     try clear c11b1
     try clear p13
     try clear q13
     try clear hx13
     try clear hcz10_0
     try clear hcz10_1
     try clear hcz10_2
     try clear hcz10_3
     try clear hcz10_4
     try clear hcz12_0
     try clear hcz12_1
     try clear hcz12_2
     try clear hcz12_3
     try clear hcz12_4
     try clear hcz13_0
     try clear hcz13_1
     try clear hcz13_2
     try clear hcz13_3
     try clear hcz13_4
     try clear hcz8_0
     try clear hcz8_1
     try clear hcz8_2
     try clear hcz8_3
     try clear hcz8_4
     try clear hfz10_0
     try clear hfz10_1
     try clear hfz10_2
     try clear hfz10_3
     try clear hfz10_4
     try clear hfz12_0
     try clear hfz12_1
     try clear hfz12_2
     try clear hfz12_3
     try clear hfz12_4
     try clear hfz13_0
     try clear hfz13_1
     try clear hfz13_2
     try clear hfz13_3
     try clear hfz13_4
     try clear hfz8_0
     try clear hfz8_1
     try clear hfz8_2
     try clear hfz8_3
     try clear hfz8_4
     try clear hx139_0
     try clear hx139_1
     try clear hx139_2
     try clear hx139_3
     try clear hx139_4
     try clear p139
     try clear q139
     obtain ⟨kq,x28_5,rfl,HA,HJ5,BK140,HB⟩:=hcut
     cases kq with
     | zero => exact absurd HA.out (by simp [transhumanceref6_Check.j0])
     | succ kj5 =>
      have H:=HA.out
      clear HA
      simp only [transhumanceref6_Check.j0] at H
      by_cases c14:x28_5=true
      ·subst c14
       have H1:(some 1)=some r:=by rw [if_pos rfl] at H;exact H
       clear H
       have H:=H1
       clear H1
       obtain rfl:=Option.some.inj H
       go_wp2
       repeat (go_quiet (fail);try go_wp2)
       go_ret
       exact ⟨by first|rfl|(simp [errW_none,errW_some] <;> rfl)|(simp only [← hji3];first|rfl|(simp [errW_none,errW_some] <;> rfl))|(simp [*,errW_none,errW_some] <;> rfl),by repeat (first|(with_reducible first|exact HB.out|apply below_alloc|apply pw_below_drewN|apply below_drew1|refine below_set ?_ GE140.out)|exact HB.out)⟩
      ·replace c14:=Bool.eq_false_iff.mpr c14
       subst c14
       have H1:(transhumanceref6_Check.l0 kj5 l0 ji3 0 ((rd_T43 l0 (ji3)).f0) ((rd_T43 l0 (ji3)).f1) ((rd_T43 l0 (ji3)).f2) ((rd_T43 l0 (ji3)).f3) ((rd_T43 l0 (ji3)).f4))=some r:=by rw [if_neg (show ¬ (false=true) by decide)] at H;exact H
       clear H
       have H:=H1
       clear H1
       have H':=Aside0.mk H
       clear H
       go_wp2
       repeat (go_quiet (fail);try go_wp2)
       go_loopg [5] kj5 (fun kq v5 w' => ∃ (x5_2:Int),v5=.int .i64 x5_2∧Aside0 (transhumanceref6_Check.l0 kq l0 ji3 x5_2 ((rd_T43 l0 (ji3)).f0) ((rd_T43 l0 (ji3)).f1) ((rd_T43 l0 (ji3)).f2) ((rd_T43 l0 (ji3)).f3) ((rd_T43 l0 (ji3)).f4)=some r)∧Aside0 (kq≤kj5)∧Aside0 (w'.heap[gb140]?=some (.cells #[.string ((rd_T43 l0 (ji3)).f0),.string ((rd_T43 l0 (ji3)).f1),.string ((rd_T43 l0 (ji3)).f2),.string ((rd_T43 l0 (ji3)).f3),.string ((rd_T43 l0 (ji3)).f4)] 43 (0,0)))∧Aside0 (Below w.heap.size w w'))
       case atStart => exact ⟨(0),(by first|rfl|(simp;done)|(simp [*];done)|(simp;exact (fun l_:List UInt8 => by cases l_ <;> rfl:∀ l_:List UInt8,l_.isEmpty=!(l_ != [])) _)),H',⟨Nat.le_refl _⟩,⟨by (with_reducible repeat (first|refine blk_drewN ?_ _|refine blk_drew ?_|refine blk_alloc ?_ _));exact BK140.out⟩,⟨by repeat (first|(with_reducible first|exact HB.out|apply below_alloc|apply pw_below_drewN|apply below_drew1|refine below_set ?_ GE140.out)|exact HB.out)⟩⟩
       case round =>
        clear H'
        try clear c1
        try clear p1
        try clear q1
        try clear hx1
        try clear c2
        try clear c2b0
        try clear c2b1
        try clear c2b2
        try clear p2
        try clear c3
        try clear c4
        try clear c4b0
        try clear c5
        try clear c5b0
        try clear p6
        try clear c9
        try clear c9b0
        try clear c9b1
        try clear c11
        try clear c11b0
        try clear c11b1
        try clear p13
        try clear q13
        try clear hx13
        try clear c14
        try clear hcz10_0
        try clear hcz10_1
        try clear hcz10_2
        try clear hcz10_3
        try clear hcz10_4
        try clear hcz12_0
        try clear hcz12_1
        try clear hcz12_2
        try clear hcz12_3
        try clear hcz12_4
        try clear hcz13_0
        try clear hcz13_1
        try clear hcz13_2
        try clear hcz13_3
        try clear hcz13_4
        try clear hcz8_0
        try clear hcz8_1
        try clear hcz8_2
        try clear hcz8_3
        try clear hcz8_4
        try clear hfz10_0
        try clear hfz10_1
        try clear hfz10_2
        try clear hfz10_3
        try clear hfz10_4
        try clear hfz12_0
        try clear hfz12_1
        try clear hfz12_2
        try clear hfz12_3
        try clear hfz12_4
        try clear hfz13_0
        try clear hfz13_1
        try clear hfz13_2
        try clear hfz13_3
        try clear hfz13_4
        try clear hfz8_0
        try clear hfz8_1
        try clear hfz8_2
        try clear hfz8_3
        try clear hfz8_4
        try clear hx139_0
        try clear hx139_1
        try clear hx139_2
        try clear hx139_3
        try clear hx139_4
        try clear p1
        try clear p13
        try clear p139
        try clear p2
        try clear p6
        try clear q1
        try clear q13
        try clear q139
        obtain ⟨x5_2,rfl,HA,HK2,BK140,HB⟩:=hrel
        cases gk with
        | zero => exact absurd HA.out (by simp [transhumanceref6_Check.l0])
        | succ k2 =>
         have H:=HA.out
         clear HA
         simp only [transhumanceref6_Check.l0] at H
         by_cases c15:x5_2<ji3
         ·rw [if_pos c15] at H
          have c15b0:decide (x5_2<ji3)=true:=decide_eq_true c15
          clear c15
          by_cases c16:0≤x5_2
          ·rw [if_pos c16] at H
           have c16b0:decide (0≤x5_2)=true:=decide_eq_true c16
           clear c16
           by_cases c17:x5_2<(l0.length:Int)
           ·rw [if_pos c17] at H
            have c17b0:decide (x5_2<(l0.length:Int))=true:=decide_eq_true c17
            clear c17
            by_cases c18:((rd_T43 l0 x5_2).f0).toList=((rd_T43 l0 (ji3)).f0).toList
            ·rw [if_pos c18] at H
             have c18b0:(((rd_T43 l0 x5_2).f0).toList == ((rd_T43 l0 (ji3)).f0).toList)=true:=beq_iff_eq.mpr c18
             have c18b1:(((rd_T43 l0 x5_2).f0).toList != ((rd_T43 l0 (ji3)).f0).toList)=false:=bne_eq_false_iff_eq.mpr c18
             clear c18
             obtain rfl:=Option.some.inj H
             have p141:0≤(x5_2:Int):=of_decide_eq_true (by first|(with_reducible assumption)|assumption)
             have q141:x5_2<(l0.length:Int):=of_decide_eq_true (by first|(with_reducible assumption)|assumption)
             obtain ⟨ad141,e141,hx141_0,hx141_1,hx141_2,hx141_3,hx141_4⟩:=at_T43 HR0.out x5_2 p141 q141
             obtain rfl:ad139=ad141:=(by injection e141)
             replace hx141_0:=(HB.out.cell (World.block_lt_of_cell? w _ hx141_0)).trans hx141_0
             replace hx141_1:=(HB.out.cell (World.block_lt_of_cell? w _ hx141_1)).trans hx141_1
             replace hx141_2:=(HB.out.cell (World.block_lt_of_cell? w _ hx141_2)).trans hx141_2
             replace hx141_3:=(HB.out.cell (World.block_lt_of_cell? w _ hx141_3)).trans hx141_3
             replace hx141_4:=(HB.out.cell (World.block_lt_of_cell? w _ hx141_4)).trans hx141_4
             replace p141:=eq_true p141
             replace q141:=eq_true q141
             have hcz19_0:wr.cell? ⟨gb140,0,none⟩=some (.string ((rd_T43 l0 (ji3)).f0)):=(blk_cell BK140.out 0).trans rfl
             have hcz19_1:wr.cell? ⟨gb140,1,none⟩=some (.string ((rd_T43 l0 (ji3)).f1)):=(blk_cell BK140.out 1).trans rfl
             have hcz19_2:wr.cell? ⟨gb140,2,none⟩=some (.string ((rd_T43 l0 (ji3)).f2)):=(blk_cell BK140.out 2).trans rfl
             have hcz19_3:wr.cell? ⟨gb140,3,none⟩=some (.string ((rd_T43 l0 (ji3)).f3)):=(blk_cell BK140.out 3).trans rfl
             have hcz19_4:wr.cell? ⟨gb140,4,none⟩=some (.string ((rd_T43 l0 (ji3)).f4)):=(blk_cell BK140.out 4).trans rfl
             have hfz19_0:=blk_frozen BK140.out 0
             have hfz19_1:=blk_frozen BK140.out 1
             have hfz19_2:=blk_frozen BK140.out 2
             have hfz19_3:=blk_frozen BK140.out 3
             have hfz19_4:=blk_frozen BK140.out 4
             go_wp2
             repeat (go_quiet (fail);try go_wp2)
             go_ret
             exact ⟨by first|rfl|(simp [errW_none,errW_some] <;> rfl)|(simp only [← hji3];first|rfl|(simp [errW_none,errW_some] <;> rfl))|(simp [*,errW_none,errW_some] <;> rfl),by repeat (first|(with_reducible first|exact HB.out|apply below_alloc|apply pw_below_drewN|apply below_drew1|refine below_set ?_ GE140.out)|exact HB.out)⟩
            ·rw [if_neg c18] at H
             have c18b0:(((rd_T43 l0 x5_2).f0).toList == ((rd_T43 l0 (ji3)).f0).toList)=false:=beq_eq_false_iff_ne.mpr c18
             have c18b1:(((rd_T43 l0 x5_2).f0).toList != ((rd_T43 l0 (ji3)).f0).toList)=true:=bne_iff_ne.mpr c18
             have H':=Aside0.mk H
             clear H
             have p141:0≤(x5_2:Int):=of_decide_eq_true (by first|(with_reducible assumption)|assumption)
             have q141:x5_2<(l0.length:Int):=of_decide_eq_true (by first|(with_reducible assumption)|assumption)
             obtain ⟨ad141,e141,hx141_0,hx141_1,hx141_2,hx141_3,hx141_4⟩:=at_T43 HR0.out x5_2 p141 q141
             obtain rfl:ad139=ad141:=(by injection e141)
             replace hx141_0:=(HB.out.cell (World.block_lt_of_cell? w _ hx141_0)).trans hx141_0
             replace hx141_1:=(HB.out.cell (World.block_lt_of_cell? w _ hx141_1)).trans hx141_1
             replace hx141_2:=(HB.out.cell (World.block_lt_of_cell? w _ hx141_2)).trans hx141_2
             replace hx141_3:=(HB.out.cell (World.block_lt_of_cell? w _ hx141_3)).trans hx141_3
             replace hx141_4:=(HB.out.cell (World.block_lt_of_cell? w _ hx141_4)).trans hx141_4
             replace p141:=eq_true p141
             replace q141:=eq_true q141
             have hcz20_0:wr.cell? ⟨gb140,0,none⟩=some (.string ((rd_T43 l0 (ji3)).f0)):=(blk_cell BK140.out 0).trans rfl
             have hcz20_1:wr.cell? ⟨gb140,1,none⟩=some (.string ((rd_T43 l0 (ji3)).f1)):=(blk_cell BK140.out 1).trans rfl
             have hcz20_2:wr.cell? ⟨gb140,2,none⟩=some (.string ((rd_T43 l0 (ji3)).f2)):=(blk_cell BK140.out 2).trans rfl
             have hcz20_3:wr.cell? ⟨gb140,3,none⟩=some (.string ((rd_T43 l0 (ji3)).f3)):=(blk_cell BK140.out 3).trans rfl
             have hcz20_4:wr.cell? ⟨gb140,4,none⟩=some (.string ((rd_T43 l0 (ji3)).f4)):=(blk_cell BK140.out 4).trans rfl
             have hfz20_0:=blk_frozen BK140.out 0
             have hfz20_1:=blk_frozen BK140.out 1
             have hfz20_2:=blk_frozen BK140.out 2
             have hfz20_3:=blk_frozen BK140.out 3
             have hfz20_4:=blk_frozen BK140.out 4
             go_wp2
             repeat (go_quiet (fail);try go_wp2)
             go_roundg k2
             case measure => have:=HJ5.out;have:=HK2.out;omega
             case rel => exact ⟨(wrap64 (x5_2+1)),(by first|rfl|(simp;done)|(simp [*];done)|(simp;exact (fun l_:List UInt8 => by cases l_ <;> rfl:∀ l_:List UInt8,l_.isEmpty=!(l_ != [])) _)),H',⟨by have:=HJ5.out;have:=HK2.out;omega⟩,⟨by (with_reducible repeat (first|refine blk_drewN ?_ _|refine blk_drew ?_|refine blk_alloc ?_ _));exact BK140.out⟩,⟨by repeat (first|(with_reducible first|exact HB.out|apply below_alloc|apply pw_below_drewN|apply below_drew1|refine below_set ?_ GE140.out)|exact HB.out)⟩⟩
           ·rw [if_neg c17] at H
            exact absurd H (by simp)
          ·rw [if_neg c16] at H
           exact absurd H (by simp)
         ·rw [if_neg c15] at H
          have c15b0:decide (x5_2<ji3)=false:=decide_eq_false c15
          clear c15
          obtain rfl:=Option.some.inj H
          go_wp2
          repeat (go_quiet (fail);try go_wp2)
          go_ret
          exact ⟨by first|rfl|(simp [errW_none,errW_some] <;> rfl)|(simp only [← hji3];first|rfl|(simp [errW_none,errW_some] <;> rfl))|(simp [*,errW_none,errW_some] <;> rfl),by repeat (first|(with_reducible first|exact HB.out|apply below_alloc|apply pw_below_drewN|apply below_drew1|refine below_set ?_ GE140.out)|exact HB.out)⟩
   ·rw [if_neg c5] at H
    exact absurd H (by simp)
  ·rw [if_neg c4] at H
   exact absurd H (by simp)
end Go.Proofs.YtjdjljgbfpkbdaaGreatDoor.Q
end
