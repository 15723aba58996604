import Derived.Test.YtjdjljgbfpkbdaaGreatDoorZQ0
namespace Go.Proofs.YtjdjljgbfpkbdaaGreatDoor.Q
open Go.RowKit Go.Proofs.YtjdjljgbfpkbdaaGreatDoorW.PrintWords Go.Proofs.YtjdjljgbfpkbdaaGreatDoorW.PrintLast Go.Proofs.YtjdjljgbfpkbdaaGreatDoorW.PrintMore
attribute [local go_sem] max2_int min2_int max_two min_two max_three min_three max_four min_four
set_option linter.unusedVariables false
set_option linter.unusedSimpArgs false
def transhumanceref1_Lines.l0:Nat→ByteArray→List ByteArray→List Int→Int→Int→Option (List ByteArray × List Int)
 | 0,_,_,_,_,_ => none
 | k+1,x0,x4,x5,x6,x7 => if x7≤(x0.size:Int) then (if x7<(x0.size:Int) then (if 0≤x7 then (if (bt x0 x7)=10 then (if x7=(x0.size:Int) then (if x6=x7 then (transhumanceref1_Lines.l0 k x0 x4 x5 x6 (wrap64 (x7+1))) else (if 0≤x6 then (if x6≤x7 then (if x4.length<8796093022208 then (if x5.length<17592186044416 then (transhumanceref1_Lines.l0 k x0 (x4++[x0.extract (x6:Int).toNat (x7:Int).toNat]) (x5++[x6]) (wrap64 (x7+1)) (wrap64 (x7+1))) else (none)) else (none)) else (none)) else (none))) else (if 0≤x6 then (if x6≤x7 then (if x4.length<8796093022208 then (if x5.length<17592186044416 then (transhumanceref1_Lines.l0 k x0 (x4++[x0.extract (x6:Int).toNat (x7:Int).toNat]) (x5++[x6]) (wrap64 (x7+1)) (wrap64 (x7+1))) else (none)) else (none)) else (none)) else (none))) else (transhumanceref1_Lines.l0 k x0 x4 x5 x6 (wrap64 (x7+1)))) else (none)) else (if x7=(x0.size:Int) then (if x6=x7 then (transhumanceref1_Lines.l0 k x0 x4 x5 x6 (wrap64 (x7+1))) else (if 0≤x6 then (if x6≤x7 then (if x4.length<8796093022208 then (if x5.length<17592186044416 then (transhumanceref1_Lines.l0 k x0 (x4++[x0.extract (x6:Int).toNat (x7:Int).toNat]) (x5++[x6]) (wrap64 (x7+1)) (wrap64 (x7+1))) else (none)) else (none)) else (none)) else (none))) else (if 0≤x6 then (if x6≤x7 then (if x4.length<8796093022208 then (if x5.length<17592186044416 then (transhumanceref1_Lines.l0 k x0 (x4++[x0.extract (x6:Int).toNat (x7:Int).toNat]) (x5++[x6]) (wrap64 (x7+1)) (wrap64 (x7+1))) else (none)) else (none)) else (none)) else (none)))) else (some (x4,x5))
def transhumanceref1_Lines.f (k:Nat) (a0:ByteArray):Option (List ByteArray × List Int):=transhumanceref1_Lines.l0 k a0 ([]:List ByteArray) ([]:List Int) 0 0
set_option maxHeartbeats 8000000 in
set_option maxRecDepth 100000 in
theorem transhumanceref1_Lines.calls (k:Nat) (a0:ByteArray) (r1:List ByteArray) (r2:List Int) (w:World) (h:transhumanceref1_Lines.f k a0=some (r1,r2)) :
  Calls Tryz.prog 18 #[.string a0] w fun e w' => ∃ v0_ v1_:Value,e=.returned (.tuple #[v0_,v1_])∧Kd.R Kd.string 9 w' w.heap.size (fun _ => True) v0_ r1∧Kd.R (Kd.int .i64) 3 w' w.heap.size (fun _ => True) v1_ r2∧Below w.heap.size w w':=by
 have HB:=Aside0.mk (Below.refl w.heap.size w)
 have H:(transhumanceref1_Lines.l0 k a0 ([]:List ByteArray) ([]:List Int) 0 0)=some (r1,r2):=h
 clear h
 have H':=Aside0.mk H
 clear H
 go_enter Tryz.func18,Tryz.ntmps18
 go_wp2
 go_loopg [4,5,6,7] k (fun kq v4 v5 v6 v7 w' => ∃ (x4_1:List ByteArray) (x5_1:List Int) (x6_1:Int) (x7_1:Int),v6=.int .i64 x6_1∧v7=.int .i64 x7_1∧Aside0 (transhumanceref1_Lines.l0 kq a0 x4_1 x5_1 x6_1 x7_1=some (r1,r2))∧Aside0 (kq≤k)∧Aside0 (Kd.R Kd.string 9 w' w.heap.size (fun _ => True) v4 x4_1)∧Aside0 (Kd.R (Kd.int .i64) 3 w' w.heap.size (fun _ => True) v5 x5_1)∧Aside0 (Below w.heap.size w w'))
 case atStart => exact ⟨(([]:List ByteArray)),(([]:List Int)),(0),(0),(by first|rfl|(simp;done)|(simp [*];done)|(simp;exact (fun l_:List UInt8 => by cases l_ <;> rfl:∀ l_:List UInt8,l_.isEmpty=!(l_ != [])) _)),(by first|rfl|(simp;done)|(simp [*];done)|(simp;exact (fun l_:List UInt8 => by cases l_ <;> rfl:∀ l_:List UInt8,l_.isEmpty=!(l_ != [])) _)),H',⟨Nat.le_refl _⟩,⟨by first|exact Kd.R_nil _ _ _ _ _|exact Kd.N_nil _ _ _ _ _|exact Kd.V_nil _ _ _ _ _|exact Kd.Q_nil _ _ _ _ _|exact Kd.S_nil _ _ _ _ _⟩,⟨by first|exact Kd.R_nil _ _ _ _ _|exact Kd.N_nil _ _ _ _ _|exact Kd.V_nil _ _ _ _ _|exact Kd.Q_nil _ _ _ _ _|exact Kd.S_nil _ _ _ _ _⟩,⟨by repeat (first|(with_reducible first|exact HB.out|apply below_alloc|apply pw_below_drewN|apply below_drew1)|exact HB.out)⟩⟩
 case round =>
  clear H'
  try clear c1
  obtain ⟨x4_1,x5_1,x6_1,x7_1,rfl,rfl,HA,HK1,HO_4,HO_5,HB⟩:=hrel
  cases gk with
  | zero => exact absurd HA.out (by simp [transhumanceref1_Lines.l0])
  | succ k1 =>
   have H:=HA.out
   clear HA
   simp only [transhumanceref1_Lines.l0] at H
   by_cases c2:x7_1≤(a0.size:Int)
   ·rw [if_pos c2] at H
    have c2b0:decide (x7_1≤(a0.size:Int))=true:=decide_eq_true c2
    clear c2
    by_cases c3:x7_1<(a0.size:Int)
    ·rw [if_pos c3] at H
     have c3b0:decide (x7_1<(a0.size:Int))=true:=decide_eq_true c3
     clear c3
     by_cases c4:0≤x7_1
     ·rw [if_pos c4] at H
      have c4b0:decide (0≤x7_1)=true:=decide_eq_true c4
      clear c4
      by_cases c6:(bt a0 x7_1)=10
      ·rw [if_pos c6] at H
       have c6b0:((bt a0 x7_1) == 10)=true:=beq_iff_eq.mpr c6
       have c6b1:((bt a0 x7_1) != 10)=false:=bne_eq_false_iff_eq.mpr c6
       clear c6
       by_cases c7:x7_1=(a0.size:Int)
       ·rw [if_pos c7] at H
        have c7b0:(x7_1 == (a0.size:Int))=true:=beq_iff_eq.mpr c7
        have c7b1:(x7_1 != (a0.size:Int))=false:=bne_eq_false_iff_eq.mpr c7
        clear c7
        by_cases c8:x6_1=x7_1
        ·rw [if_pos c8] at H
         have c8b0:(x6_1 == x7_1)=true:=beq_iff_eq.mpr c8
         have c8b1:(x6_1 != x7_1)=false:=bne_eq_false_iff_eq.mpr c8
         clear c8
         have H':=Aside0.mk H
         clear H
         have p5:0≤(x7_1:Int):=of_decide_eq_true (by first|(with_reducible assumption)|assumption)
         have q5:x7_1<(a0.size:Int):=of_decide_eq_true (by first|(with_reducible assumption)|assumption)
         have hx5:=bt_at a0 x7_1
         replace p5:=eq_true p5
         replace q5:=eq_true q5
         go_wp2
         go_roundg k1
         case measure => have:=HK1.out;omega
         case rel => exact ⟨(x4_1),(x5_1),(x6_1),(wrap64 (x7_1+1)),(by first|rfl|(simp;done)|(simp [*];done)|(simp;exact (fun l_:List UInt8 => by cases l_ <;> rfl:∀ l_:List UInt8,l_.isEmpty=!(l_ != [])) _)),(by first|rfl|(simp;done)|(simp [*];done)|(simp;exact (fun l_:List UInt8 => by cases l_ <;> rfl:∀ l_:List UInt8,l_.isEmpty=!(l_ != [])) _)),H',⟨by have:=HK1.out;omega⟩,⟨by (with_reducible repeat (first|apply Kd.R_alloc|apply Kd.R_drewN|apply Kd.R_drew));exact HO_4.out⟩,⟨by (with_reducible repeat (first|apply Kd.R_alloc|apply Kd.R_drewN|apply Kd.R_drew));exact HO_5.out⟩,⟨by repeat (first|(with_reducible first|exact HB.out|apply below_alloc|apply pw_below_drewN|apply below_drew1)|exact HB.out)⟩⟩
        ·rw [if_neg c8] at H
         have c8b0:(x6_1 == x7_1)=false:=beq_eq_false_iff_ne.mpr c8
         have c8b1:(x6_1 != x7_1)=true:=bne_iff_ne.mpr c8
         by_cases c9:0≤x6_1
         ·rw [if_pos c9] at H
          have c9b0:=eq_true c9
          have c9b1:decide (0≤x6_1)=true:=decide_eq_true c9
          clear c9
          by_cases c10:x6_1≤x7_1
          ·rw [if_pos c10] at H
           have c10b0:=eq_true c10
           have c10b1:decide (x6_1≤x7_1)=true:=decide_eq_true c10
           clear c10
           have c11b0:=eq_true (of_decide_eq_true (by first|(with_reducible assumption)|assumption):x7_1≤(a0.size:Int))
           by_cases c12:x4_1.length<8796093022208
           ·rw [if_pos c12] at H
            have LMc12:=Aside0.mk c12
            clear c12
            obtain ⟨y104,hy104⟩:∃ y_:List ByteArray,y_=(x4_1++[a0.extract (x6_1:Int).toNat (x7_1:Int).toNat]):=⟨_,rfl⟩
            replace H:(if x5_1.length<17592186044416 then (transhumanceref1_Lines.l0 k1 a0 y104 (x5_1++[x6_1]) (wrap64 (x7_1+1)) (wrap64 (x7_1+1))) else (none))=some (r1,r2):=by first|(rw [hy104];with_reducible exact H)|(have H2_:=(Option.bind_some _ _).symm.trans H;rw [hy104];with_reducible exact H2_)|(have H2_:=(Option.bind_some _ _).symm.trans H;with_reducible exact H2_)|with_reducible exact H|(rw [hy104];exact H)|exact H
            have Ny104:=Aside0.mk hy104
            clear hy104
            by_cases c13:x5_1.length<17592186044416
            ·rw [if_pos c13] at H
             have LMc13:=Aside0.mk c13
             clear c13
             obtain ⟨y107,hy107⟩:∃ y_:List Int,y_=(x5_1++[x6_1]):=⟨_,rfl⟩
             replace H:(transhumanceref1_Lines.l0 k1 a0 y104 y107 (wrap64 (x7_1+1)) (wrap64 (x7_1+1)))=some (r1,r2):=by first|(rw [hy107];with_reducible exact H)|(have H2_:=(Option.bind_some _ _).symm.trans H;rw [hy107];with_reducible exact H2_)|(have H2_:=(Option.bind_some _ _).symm.trans H;with_reducible exact H2_)|with_reducible exact H|(rw [hy107];exact H)|exact H
             have Ny107:=Aside0.mk hy107
             clear hy107
             have H':=Aside0.mk H
             clear H
             have p5:0≤(x7_1:Int):=of_decide_eq_true (by first|(with_reducible assumption)|assumption)
             have q5:x7_1<(a0.size:Int):=of_decide_eq_true (by first|(with_reducible assumption)|assumption)
             have hx5:=bt_at a0 x7_1
             replace p5:=eq_true p5
             replace q5:=eq_true q5
             go_wp2_with (first|((with_reducible refine gate_builtin (b:=.append) (xs:=#[.tmp 35,.tmp 40]) rfl ?_);(try (refine gate_guard (by rfl) ?_;dsimp only));at_builtin;refine Kd.R_append Kd.string (w0:=w) w.heap.size rfl (.tmp 35) (.tmp 40) 36 9 (.string ⟨#[]⟩) 16 rfl Tryz.underlying36 info9 rfl (by decide) (by omega) u4 x4_1 (a0.extract (x6_1:Int).toNat (x7_1:Int).toNat) [.string (a0.extract (x6_1:Int).toNat (x7_1:Int).toNat)] (fun _ => True) (fun _ => False) rfl rfl ?aP (fun _ hk => hk.elim) ?aF ?aO ?aB ?aS ?aL ?_;(case aP => exact rfl);(case aB => exact (by repeat (first|(with_reducible first|exact HB.out|apply below_alloc|apply pw_below_drewN|apply below_drew1)|exact HB.out)));(case aF => exact (fun _ _ => trivial));(case aO => exact (by (with_reducible repeat (first|apply Kd.R_alloc|apply Kd.R_drewN|apply Kd.R_drew));exact HO_4.out));(case aS => exact (below_size (by repeat (first|(with_reducible first|exact HB.out|apply below_alloc|apply pw_below_drewN|apply below_drew1)|exact HB.out))));(case aL => have:=LMc12.out;omega);intro v105 w14 ho hb hg hat;rw [← Ny104.out] at ho;have n0_:=Aside0.mk (Kd.R_over' (by (with_reducible repeat (first|apply Kd.R_alloc|apply Kd.R_drewN|apply Kd.R_drew));exact HO_5.out) (Kd.R_typed (by (with_reducible repeat (first|apply Kd.R_alloc|apply Kd.R_drewN|apply Kd.R_drew));exact HO_4.out)) (by decide) hg);have n1_:=Aside0.mk (hb);have n2_:=Aside0.mk (ho);clear HO_5;clear HB;clear HO_4;have HO_5:=n0_;have HB:=n1_;have HO106:=n2_;clear n0_ n1_ n2_;clear ho hb hg hat)|((with_reducible refine gate_builtin (b:=.append) (xs:=#[.tmp 42,.tmp 44]) rfl ?_);(try (refine gate_guard (by rfl) ?_;dsimp only));at_builtin;refine Kd.R_append (Kd.int .i64) (w0:=w) w.heap.size rfl (.tmp 42) (.tmp 44) 22 3 (.int .i64 0) 8 rfl Tryz.underlying22 info3 rfl (by decide) (by omega) u5 x5_1 x6_1 [.int .i64 x6_1] (fun _ => True) (fun _ => False) rfl rfl ?aP (fun _ hk => hk.elim) ?aF ?aO ?aB ?aS ?aL ?_;(case aP => exact rfl);(case aB => exact (by repeat (first|(with_reducible first|exact HB.out|apply below_alloc|apply pw_below_drewN|apply below_drew1)|exact HB.out)));(case aF => exact (fun _ _ => trivial));(case aO => exact (by (with_reducible repeat (first|apply Kd.R_alloc|apply Kd.R_drewN|apply Kd.R_drew));exact HO_5.out));(case aS => exact (below_size (by repeat (first|(with_reducible first|exact HB.out|apply below_alloc|apply pw_below_drewN|apply below_drew1)|exact HB.out))));(case aL => have:=LMc13.out;omega);intro v108 w15 ho hb hg hat;rw [← Ny107.out] at ho;have n0_:=Aside0.mk (Kd.R_over' (by (with_reducible repeat (first|apply Kd.R_alloc|apply Kd.R_drewN|apply Kd.R_drew));exact HO106.out) (Kd.R_typed (by (with_reducible repeat (first|apply Kd.R_alloc|apply Kd.R_drewN|apply Kd.R_drew));exact HO_5.out)) (by decide) hg);have n1_:=Aside0.mk (hb);have n2_:=Aside0.mk (ho);clear HO106;clear HB;clear HO_5;have HO106:=n0_;have HB:=n1_;have HO109:=n2_;clear n0_ n1_ n2_;clear ho hb hg hat))
             go_roundg k1
             case measure => have:=HK1.out;omega
             case rel => exact ⟨(y104),(y107),(wrap64 (x7_1+1)),(wrap64 (x7_1+1)),(by first|rfl|(simp;done)|(simp [*];done)|(simp;exact (fun l_:List UInt8 => by cases l_ <;> rfl:∀ l_:List UInt8,l_.isEmpty=!(l_ != [])) _)),(by first|rfl|(simp;done)|(simp [*];done)|(simp;exact (fun l_:List UInt8 => by cases l_ <;> rfl:∀ l_:List UInt8,l_.isEmpty=!(l_ != [])) _)),H',⟨by have:=HK1.out;omega⟩,⟨by (with_reducible repeat (first|apply Kd.R_alloc|apply Kd.R_drewN|apply Kd.R_drew));exact HO106.out⟩,⟨by (with_reducible repeat (first|apply Kd.R_alloc|apply Kd.R_drewN|apply Kd.R_drew));exact HO109.out⟩,⟨by repeat (first|(with_reducible first|exact HB.out|apply below_alloc|apply pw_below_drewN|apply below_drew1)|exact HB.out)⟩⟩
            ·rw [if_neg c13] at H
             exact absurd H (by simp)
           ·rw [if_neg c12] at H
            exact absurd H (by simp)
          ·rw [if_neg c10] at H
           exact absurd H (by simp)
         ·rw [if_neg c9] at H
          exact absurd H (by simp)
       ·rw [if_neg c7] at H
        have c7b0:(x7_1 == (a0.size:Int))=false:=beq_eq_false_iff_ne.mpr c7
        have c7b1:(x7_1 != (a0.size:Int))=true:=bne_iff_ne.mpr c7
        by_cases c16:0≤x6_1
        ·rw [if_pos c16] at H
         have c16b0:=eq_true c16
         have c16b1:decide (0≤x6_1)=true:=decide_eq_true c16
         clear c16
         by_cases c17:x6_1≤x7_1
         ·rw [if_pos c17] at H
          have c17b0:=eq_true c17
          have c17b1:decide (x6_1≤x7_1)=true:=decide_eq_true c17
          clear c17
          have c18b0:=eq_true (of_decide_eq_true (by first|(with_reducible assumption)|assumption):x7_1≤(a0.size:Int))
          by_cases c19:x4_1.length<8796093022208
          ·rw [if_pos c19] at H
           have LMc19:=Aside0.mk c19
           clear c19
           obtain ⟨y110,hy110⟩:∃ y_:List ByteArray,y_=(x4_1++[a0.extract (x6_1:Int).toNat (x7_1:Int).toNat]):=⟨_,rfl⟩
           replace H:(if x5_1.length<17592186044416 then (transhumanceref1_Lines.l0 k1 a0 y110 (x5_1++[x6_1]) (wrap64 (x7_1+1)) (wrap64 (x7_1+1))) else (none))=some (r1,r2):=by first|(rw [hy110];with_reducible exact H)|(have H2_:=(Option.bind_some _ _).symm.trans H;rw [hy110];with_reducible exact H2_)|(have H2_:=(Option.bind_some _ _).symm.trans H;with_reducible exact H2_)|with_reducible exact H|(rw [hy110];exact H)|exact H
           have Ny110:=Aside0.mk hy110
           clear hy110
           by_cases c20:x5_1.length<17592186044416
           ·rw [if_pos c20] at H
            have LMc20:=Aside0.mk c20
            clear c20
            obtain ⟨y113,hy113⟩:∃ y_:List Int,y_=(x5_1++[x6_1]):=⟨_,rfl⟩
            replace H:(transhumanceref1_Lines.l0 k1 a0 y110 y113 (wrap64 (x7_1+1)) (wrap64 (x7_1+1)))=some (r1,r2):=by first|(rw [hy113];with_reducible exact H)|(have H2_:=(Option.bind_some _ _).symm.trans H;rw [hy113];with_reducible exact H2_)|(have H2_:=(Option.bind_some _ _).symm.trans H;with_reducible exact H2_)|with_reducible exact H|(rw [hy113];exact H)|exact H
            have Ny113:=Aside0.mk hy113
            clear hy113
            have H':=Aside0.mk H
            clear H
            have p5:0≤(x7_1:Int):=of_decide_eq_true (by first|(with_reducible assumption)|assumption)
            have q5:x7_1<(a0.size:Int):=of_decide_eq_true (by first|(with_reducible assumption)|assumption)
            have hx5:=bt_at a0 x7_1
            replace p5:=eq_true p5
            replace q5:=eq_true q5
            go_wp2_with (first|((with_reducible refine gate_builtin (b:=.append) (xs:=#[.tmp 35,.tmp 40]) rfl ?_);(try (refine gate_guard (by rfl) ?_;dsimp only));at_builtin;refine Kd.R_append Kd.string (w0:=w) w.heap.size rfl (.tmp 35) (.tmp 40) 36 9 (.string ⟨#[]⟩) 16 rfl Tryz.underlying36 info9 rfl (by decide) (by omega) u4 x4_1 (a0.extract (x6_1:Int).toNat (x7_1:Int).toNat) [.string (a0.extract (x6_1:Int).toNat (x7_1:Int).toNat)] (fun _ => True) (fun _ => False) rfl rfl ?aP (fun _ hk => hk.elim) ?aF ?aO ?aB ?aS ?aL ?_;(case aP => exact rfl);(case aB => exact (by repeat (first|(with_reducible first|exact HB.out|apply below_alloc|apply pw_below_drewN|apply below_drew1)|exact HB.out)));(case aF => exact (fun _ _ => trivial));(case aO => exact (by (with_reducible repeat (first|apply Kd.R_alloc|apply Kd.R_drewN|apply Kd.R_drew));exact HO_4.out));(case aS => exact (below_size (by repeat (first|(with_reducible first|exact HB.out|apply below_alloc|apply pw_below_drewN|apply below_drew1)|exact HB.out))));(case aL => have:=LMc19.out;omega);intro v111 w21 ho hb hg hat;rw [← Ny110.out] at ho;have n0_:=Aside0.mk (Kd.R_over' (by (with_reducible repeat (first|apply Kd.R_alloc|apply Kd.R_drewN|apply Kd.R_drew));exact HO_5.out) (Kd.R_typed (by (with_reducible repeat (first|apply Kd.R_alloc|apply Kd.R_drewN|apply Kd.R_drew));exact HO_4.out)) (by decide) hg);have n1_:=Aside0.mk (hb);have n2_:=Aside0.mk (ho);clear HO_5;clear HB;clear HO_4;have HO_5:=n0_;have HB:=n1_;have HO112:=n2_;clear n0_ n1_ n2_;clear ho hb hg hat)|((with_reducible refine gate_builtin (b:=.append) (xs:=#[.tmp 42,.tmp 44]) rfl ?_);(try (refine gate_guard (by rfl) ?_;dsimp only));at_builtin;refine Kd.R_append (Kd.int .i64) (w0:=w) w.heap.size rfl (.tmp 42) (.tmp 44) 22 3 (.int .i64 0) 8 rfl Tryz.underlying22 info3 rfl (by decide) (by omega) u5 x5_1 x6_1 [.int .i64 x6_1] (fun _ => True) (fun _ => False) rfl rfl ?aP (fun _ hk => hk.elim) ?aF ?aO ?aB ?aS ?aL ?_;(case aP => exact rfl);(case aB => exact (by repeat (first|(with_reducible first|exact HB.out|apply below_alloc|apply pw_below_drewN|apply below_drew1)|exact HB.out)));(case aF => exact (fun _ _ => trivial));(case aO => exact (by (with_reducible repeat (first|apply Kd.R_alloc|apply Kd.R_drewN|apply Kd.R_drew));exact HO_5.out));(case aS => exact (below_size (by repeat (first|(with_reducible first|exact HB.out|apply below_alloc|apply pw_below_drewN|apply below_drew1)|exact HB.out))));(case aL => have:=LMc20.out;omega);intro v114 w22 ho hb hg hat;rw [← Ny113.out] at ho;have n0_:=Aside0.mk (Kd.R_over' (by (with_reducible repeat (first|apply Kd.R_alloc|apply Kd.R_drewN|apply Kd.R_drew));exact HO112.out) (Kd.R_typed (by (with_reducible repeat (first|apply Kd.R_alloc|apply Kd.R_drewN|apply Kd.R_drew));exact HO_5.out)) (by decide) hg);have n1_:=Aside0.mk (hb);have n2_:=Aside0.mk (ho);clear HO112;clear HB;clear HO_5;have HO112:=n0_;have HB:=n1_;have HO115:=n2_;clear n0_ n1_ n2_;clear ho hb hg hat))
            go_roundg k1
            case measure => have:=HK1.out;omega
            case rel => exact ⟨(y110),(y113),(wrap64 (x7_1+1)),(wrap64 (x7_1+1)),(by first|rfl|(simp;done)|(simp [*];done)|(simp;exact (fun l_:List UInt8 => by cases l_ <;> rfl:∀ l_:List UInt8,l_.isEmpty=!(l_ != [])) _)),(by first|rfl|(simp;done)|(simp [*];done)|(simp;exact (fun l_:List UInt8 => by cases l_ <;> rfl:∀ l_:List UInt8,l_.isEmpty=!(l_ != [])) _)),H',⟨by have:=HK1.out;omega⟩,⟨by (with_reducible repeat (first|apply Kd.R_alloc|apply Kd.R_drewN|apply Kd.R_drew));exact HO112.out⟩,⟨by (with_reducible repeat (first|apply Kd.R_alloc|apply Kd.R_drewN|apply Kd.R_drew));exact HO115.out⟩,⟨by repeat (first|(with_reducible first|exact HB.out|apply below_alloc|apply pw_below_drewN|apply below_drew1)|exact HB.out)⟩⟩
           ·rw [if_neg c20] at H
            exact absurd H (by simp)
          ·rw [if_neg c19] at H
           exact absurd H (by simp)
         ·rw [if_neg c17] at H
          exact absurd H (by simp)
        ·rw [if_neg c16] at H
         exact absurd H (by simp)
      ·rw [if_neg c6] at H
       have c6b0:((bt a0 x7_1) == 10)=false:=beq_eq_false_iff_ne.mpr c6
       have c6b1:((bt a0 x7_1) != 10)=true:=bne_iff_ne.mpr c6
       have H':=Aside0.mk H
       clear H
       have p5:0≤(x7_1:Int):=of_decide_eq_true (by first|(with_reducible assumption)|assumption)
       have q5:x7_1<(a0.size:Int):=of_decide_eq_true (by first|(with_reducible assumption)|assumption)
       have hx5:=bt_at a0 x7_1
       replace p5:=eq_true p5
       replace q5:=eq_true q5
       go_wp2
       go_roundg k1
       case measure => have:=HK1.out;omega
       case rel => exact ⟨(x4_1),(x5_1),(x6_1),(wrap64 (x7_1+1)),(by first|rfl|(simp;done)|(simp [*];done)|(simp;exact (fun l_:List UInt8 => by cases l_ <;> rfl:∀ l_:List UInt8,l_.isEmpty=!(l_ != [])) _)),(by first|rfl|(simp;done)|(simp [*];done)|(simp;exact (fun l_:List UInt8 => by cases l_ <;> rfl:∀ l_:List UInt8,l_.isEmpty=!(l_ != [])) _)),H',⟨by have:=HK1.out;omega⟩,⟨by (with_reducible repeat (first|apply Kd.R_alloc|apply Kd.R_drewN|apply Kd.R_drew));exact HO_4.out⟩,⟨by (with_reducible repeat (first|apply Kd.R_alloc|apply Kd.R_drewN|apply Kd.R_drew));exact HO_5.out⟩,⟨by repeat (first|(with_reducible first|exact HB.out|apply below_alloc|apply pw_below_drewN|apply below_drew1)|exact HB.out)⟩⟩
     ·rw [if_neg c4] at H
      exact absurd H (by simp)
    ·rw [if_neg c3] at H
     have c3b0:decide (x7_1<(a0.size:Int))=false:=decide_eq_false c3
     clear c3
     by_cases c23:x7_1=(a0.size:Int)
     ·rw [if_pos c23] at H
      have c23b0:(x7_1 == (a0.size:Int))=true:=beq_iff_eq.mpr c23
      have c23b1:(x7_1 != (a0.size:Int))=false:=bne_eq_false_iff_eq.mpr c23
      clear c23
      by_cases c24:x6_1=x7_1
      ·rw [if_pos c24] at H
       have c24b0:(x6_1 == x7_1)=true:=beq_iff_eq.mpr c24
       have c24b1:(x6_1 != x7_1)=false:=bne_eq_false_iff_eq.mpr c24
       clear c24
       have H':=Aside0.mk H
       clear H
       go_wp2
       go_roundg k1
       case measure => have:=HK1.out;omega
       case rel => exact ⟨(x4_1),(x5_1),(x6_1),(wrap64 (x7_1+1)),(by first|rfl|(simp;done)|(simp [*];done)|(simp;exact (fun l_:List UInt8 => by cases l_ <;> rfl:∀ l_:List UInt8,l_.isEmpty=!(l_ != [])) _)),(by first|rfl|(simp;done)|(simp [*];done)|(simp;exact (fun l_:List UInt8 => by cases l_ <;> rfl:∀ l_:List UInt8,l_.isEmpty=!(l_ != [])) _)),H',⟨by have:=HK1.out;omega⟩,⟨by (with_reducible repeat (first|apply Kd.R_alloc|apply Kd.R_drewN|apply Kd.R_drew));exact HO_4.out⟩,⟨by (with_reducible repeat (first|apply Kd.R_alloc|apply Kd.R_drewN|apply Kd.R_drew));exact HO_5.out⟩,⟨by repeat (first|(with_reducible first|exact HB.out|apply below_alloc|apply pw_below_drewN|apply below_drew1)|exact HB.out)⟩⟩
      ·rw [if_neg c24] at H
       have c24b0:(x6_1 == x7_1)=false:=beq_eq_false_iff_ne.mpr c24
       have c24b1:(x6_1 != x7_1)=true:=bne_iff_ne.mpr c24
       by_cases c25:0≤x6_1
       ·rw [if_pos c25] at H
        have c25b0:=eq_true c25
        have c25b1:decide (0≤x6_1)=true:=decide_eq_true c25
        clear c25
        by_cases c26:x6_1≤x7_1
        ·rw [if_pos c26] at H
         have c26b0:=eq_true c26
         have c26b1:decide (x6_1≤x7_1)=true:=decide_eq_true c26
         clear c26
         have c27b0:=eq_true (of_decide_eq_true (by first|(with_reducible assumption)|assumption):x7_1≤(a0.size:Int))
         by_cases c28:x4_1.length<8796093022208
         ·rw [if_pos c28] at H
          have LMc28:=Aside0.mk c28
          clear c28
          obtain ⟨y116,hy116⟩:∃ y_:List ByteArray,y_=(x4_1++[a0.extract (x6_1:Int).toNat (x7_1:Int).toNat]):=⟨_,rfl⟩
          replace H:(if x5_1.length<17592186044416 then (transhumanceref1_Lines.l0 k1 a0 y116 (x5_1++[x6_1]) (wrap64 (x7_1+1)) (wrap64 (x7_1+1))) else (none))=some (r1,r2):=by first|(rw [hy116];with_reducible exact H)|(have H2_:=(Option.bind_some _ _).symm.trans H;rw [hy116];with_reducible exact H2_)|(have H2_:=(Option.bind_some _ _).symm.trans H;with_reducible exact H2_)|with_reducible exact H|(rw [hy116];exact H)|exact H
          have Ny116:=Aside0.mk hy116
          clear hy116
          by_cases c29:x5_1.length<17592186044416
          ·rw [if_pos c29] at H
           have LMc29:=Aside0.mk c29
           clear c29
           obtain ⟨y119,hy119⟩:∃ y_:List Int,y_=(x5_1++[x6_1]):=⟨_,rfl⟩
           replace H:(transhumanceref1_Lines.l0 k1 a0 y116 y119 (wrap64 (x7_1+1)) (wrap64 (x7_1+1)))=some (r1,r2):=by first|(rw [hy119];with_reducible exact H)|(have H2_:=(Option.bind_some _ _).symm.trans H;rw [hy119];with_reducible exact H2_)|(have H2_:=(Option.bind_some _ _).symm.trans H;with_reducible exact H2_)|with_reducible exact H|(rw [hy119];exact H)|exact H
           have Ny119:=Aside0.mk hy119
           clear hy119
           have H':=Aside0.mk H
           clear H
           go_wp2_with (first|((with_reducible refine gate_builtin (b:=.append) (xs:=#[.tmp 35,.tmp 40]) rfl ?_);(try (refine gate_guard (by rfl) ?_;dsimp only));at_builtin;refine Kd.R_append Kd.string (w0:=w) w.heap.size rfl (.tmp 35) (.tmp 40) 36 9 (.string ⟨#[]⟩) 16 rfl Tryz.underlying36 info9 rfl (by decide) (by omega) u4 x4_1 (a0.extract (x6_1:Int).toNat (x7_1:Int).toNat) [.string (a0.extract (x6_1:Int).toNat (x7_1:Int).toNat)] (fun _ => True) (fun _ => False) rfl rfl ?aP (fun _ hk => hk.elim) ?aF ?aO ?aB ?aS ?aL ?_;(case aP => exact rfl);(case aB => exact (by repeat (first|(with_reducible first|exact HB.out|apply below_alloc|apply pw_below_drewN|apply below_drew1)|exact HB.out)));(case aF => exact (fun _ _ => trivial));(case aO => exact (by (with_reducible repeat (first|apply Kd.R_alloc|apply Kd.R_drewN|apply Kd.R_drew));exact HO_4.out));(case aS => exact (below_size (by repeat (first|(with_reducible first|exact HB.out|apply below_alloc|apply pw_below_drewN|apply below_drew1)|exact HB.out))));(case aL => have:=LMc28.out;omega);intro v117 w30 ho hb hg hat;rw [← Ny116.out] at ho;have n0_:=Aside0.mk (Kd.R_over' (by (with_reducible repeat (first|apply Kd.R_alloc|apply Kd.R_drewN|apply Kd.R_drew));exact HO_5.out) (Kd.R_typed (by (with_reducible repeat (first|apply Kd.R_alloc|apply Kd.R_drewN|apply Kd.R_drew));exact HO_4.out)) (by decide) hg);have n1_:=Aside0.mk (hb);have n2_:=Aside0.mk (ho);clear HO_5;clear HB;clear HO_4;have HO_5:=n0_;have HB:=n1_;have HO118:=n2_;clear n0_ n1_ n2_;clear ho hb hg hat)|((with_reducible refine gate_builtin (b:=.append) (xs:=#[.tmp 42,.tmp 44]) rfl ?_);(try (refine gate_guard (by rfl) ?_;dsimp only));at_builtin;refine Kd.R_append (Kd.int .i64) (w0:=w) w.heap.size rfl (.tmp 42) (.tmp 44) 22 3 (.int .i64 0) 8 rfl Tryz.underlying22 info3 rfl (by decide) (by omega) u5 x5_1 x6_1 [.int .i64 x6_1] (fun _ => True) (fun _ => False) rfl rfl ?aP (fun _ hk => hk.elim) ?aF ?aO ?aB ?aS ?aL ?_;(case aP => exact rfl);(case aB => exact (by repeat (first|(with_reducible first|exact HB.out|apply below_alloc|apply pw_below_drewN|apply below_drew1)|exact HB.out)));(case aF => exact (fun _ _ => trivial));(case aO => exact (by (with_reducible repeat (first|apply Kd.R_alloc|apply Kd.R_drewN|apply Kd.R_drew));exact HO_5.out));(case aS => exact (below_size (by repeat (first|(with_reducible first|exact HB.out|apply below_alloc|apply pw_below_drewN|apply below_drew1)|exact HB.out))));(case aL => have:=LMc29.out;omega);intro v120 w31 ho hb hg hat;rw [← Ny119.out] at ho;have n0_:=Aside0.mk (Kd.R_over' (by (with_reducible repeat (first|apply Kd.R_alloc|apply Kd.R_drewN|apply Kd.R_drew));exact HO118.out) (Kd.R_typed (by (with_reducible repeat (first|apply Kd.R_alloc|apply Kd.R_drewN|apply Kd.R_drew));exact HO_5.out)) (by decide) hg);have n1_:=Aside0.mk (hb);have n2_:=Aside0.mk (ho);clear HO118;clear HB;clear HO_5;have HO118:=n0_;have HB:=n1_;have HO121:=n2_;clear n0_ n1_ n2_;clear ho hb hg hat))
           go_roundg k1
           case measure => have:=HK1.out;omega
           case rel => exact ⟨(y116),(y119),(wrap64 (x7_1+1)),(wrap64 (x7_1+1)),(by first|rfl|(simp;done)|(simp [*];done)|(simp;exact (fun l_:List UInt8 => by cases l_ <;> rfl:∀ l_:List UInt8,l_.isEmpty=!(l_ != [])) _)),(by first|rfl|(simp;done)|(simp [*];done)|(simp;exact (fun l_:List UInt8 => by cases l_ <;> rfl:∀ l_:List UInt8,l_.isEmpty=!(l_ != [])) _)),H',⟨by have:=HK1.out;omega⟩,⟨by (with_reducible repeat (first|apply Kd.R_alloc|apply Kd.R_drewN|apply Kd.R_drew));exact HO118.out⟩,⟨by (with_reducible repeat (first|apply Kd.R_alloc|apply Kd.R_drewN|apply Kd.R_drew));exact HO121.out⟩,⟨by repeat (first|(with_reducible first|exact HB.out|apply below_alloc|apply pw_below_drewN|apply below_drew1)|exact HB.out)⟩⟩
          ·rw [if_neg c29] at H
           exact absurd H (by simp)
         ·rw [if_neg c28] at H
          exact absurd H (by simp)
        ·rw [if_neg c26] at H
         exact absurd H (by simp)
       ·rw [if_neg c25] at H
        exact absurd H (by simp)
     ·rw [if_neg c23] at H
      have c23b0:(x7_1 == (a0.size:Int))=false:=beq_eq_false_iff_ne.mpr c23
      have c23b1:(x7_1 != (a0.size:Int))=true:=bne_iff_ne.mpr c23
      by_cases c32:0≤x6_1
      ·rw [if_pos c32] at H
       have c32b0:=eq_true c32
       have c32b1:decide (0≤x6_1)=true:=decide_eq_true c32
       clear c32
       by_cases c33:x6_1≤x7_1
       ·rw [if_pos c33] at H
        have c33b0:=eq_true c33
        have c33b1:decide (x6_1≤x7_1)=true:=decide_eq_true c33
        clear c33
        have c34b0:=eq_true (of_decide_eq_true (by first|(with_reducible assumption)|assumption):x7_1≤(a0.size:Int))
        by_cases c35:x4_1.length<8796093022208
        ·rw [if_pos c35] at H
         have LMc35:=Aside0.mk c35
         clear c35
         obtain ⟨y122,hy122⟩:∃ y_:List ByteArray,y_=(x4_1++[a0.extract (x6_1:Int).toNat (x7_1:Int).toNat]):=⟨_,rfl⟩
         replace H:(if x5_1.length<17592186044416 then (transhumanceref1_Lines.l0 k1 a0 y122 (x5_1++[x6_1]) (wrap64 (x7_1+1)) (wrap64 (x7_1+1))) else (none))=some (r1,r2):=by first|(rw [hy122];with_reducible exact H)|(have H2_:=(Option.bind_some _ _).symm.trans H;rw [hy122];with_reducible exact H2_)|(have H2_:=(Option.bind_some _ _).symm.trans H;with_reducible exact H2_)|with_reducible exact H|(rw [hy122];exact H)|exact H
         have Ny122:=Aside0.mk hy122
         clear hy122
         by_cases c36:x5_1.length<17592186044416
         ·rw [if_pos c36] at H
          have LMc36:=Aside0.mk c36
          clear c36
          obtain ⟨y125,hy125⟩:∃ y_:List Int,y_=(x5_1++[x6_1]):=⟨_,rfl⟩
          replace H:(transhumanceref1_Lines.l0 k1 a0 y122 y125 (wrap64 (x7_1+1)) (wrap64 (x7_1+1)))=some (r1,r2):=by first|(rw [hy125];with_reducible exact H)|(have H2_:=(Option.bind_some _ _).symm.trans H;rw [hy125];with_reducible exact H2_)|(have H2_:=(Option.bind_some _ _).symm.trans H;with_reducible exact H2_)|with_reducible exact H|(rw [hy125];exact H)|exact H
          have Ny125:=Aside0.mk hy125
          clear hy125
          have H':=Aside0.mk H
          clear H
          go_wp2_with (first|((with_reducible refine gate_builtin (b:=.append) (xs:=#[.tmp 35,.tmp 40]) rfl ?_);(try (refine gate_guard (by rfl) ?_;dsimp only));at_builtin;refine Kd.R_append Kd.string (w0:=w) w.heap.size rfl (.tmp 35) (.tmp 40) 36 9 (.string ⟨#[]⟩) 16 rfl Tryz.underlying36 info9 rfl (by decide) (by omega) u4 x4_1 (a0.extract (x6_1:Int).toNat (x7_1:Int).toNat) [.string (a0.extract (x6_1:Int).toNat (x7_1:Int).toNat)] (fun _ => True) (fun _ => False) rfl rfl ?aP (fun _ hk => hk.elim) ?aF ?aO ?aB ?aS ?aL ?_;(case aP => exact rfl);(case aB => exact (by repeat (first|(with_reducible first|exact HB.out|apply below_alloc|apply pw_below_drewN|apply below_drew1)|exact HB.out)));(case aF => exact (fun _ _ => trivial));(case aO => exact (by (with_reducible repeat (first|apply Kd.R_alloc|apply Kd.R_drewN|apply Kd.R_drew));exact HO_4.out));(case aS => exact (below_size (by repeat (first|(with_reducible first|exact HB.out|apply below_alloc|apply pw_below_drewN|apply below_drew1)|exact HB.out))));(case aL => have:=LMc35.out;omega);intro v123 w37 ho hb hg hat;rw [← Ny122.out] at ho;have n0_:=Aside0.mk (Kd.R_over' (by (with_reducible repeat (first|apply Kd.R_alloc|apply Kd.R_drewN|apply Kd.R_drew));exact HO_5.out) (Kd.R_typed (by (with_reducible repeat (first|apply Kd.R_alloc|apply Kd.R_drewN|apply Kd.R_drew));exact HO_4.out)) (by decide) hg);have n1_:=Aside0.mk (hb);have n2_:=Aside0.mk (ho);clear HO_5;clear HB;clear HO_4;have HO_5:=n0_;have HB:=n1_;have HO124:=n2_;clear n0_ n1_ n2_;clear ho hb hg hat)|((with_reducible refine gate_builtin (b:=.append) (xs:=#[.tmp 42,.tmp 44]) rfl ?_);(try (refine gate_guard (by rfl) ?_;dsimp only));at_builtin;refine Kd.R_append (Kd.int .i64) (w0:=w) w.heap.size rfl (.tmp 42) (.tmp 44) 22 3 (.int .i64 0) 8 rfl Tryz.underlying22 info3 rfl (by decide) (by omega) u5 x5_1 x6_1 [.int .i64 x6_1] (fun _ => True) (fun _ => False) rfl rfl ?aP (fun _ hk => hk.elim) ?aF ?aO ?aB ?aS ?aL ?_;(case aP => exact rfl);(case aB => exact (by repeat (first|(with_reducible first|exact HB.out|apply below_alloc|apply pw_below_drewN|apply below_drew1)|exact HB.out)));(case aF => exact (fun _ _ => trivial));(case aO => exact (by (with_reducible repeat (first|apply Kd.R_alloc|apply Kd.R_drewN|apply Kd.R_drew));exact HO_5.out));(case aS => exact (below_size (by repeat (first|(with_reducible first|exact HB.out|apply below_alloc|apply pw_below_drewN|apply below_drew1)|exact HB.out))));(case aL => have:=LMc36.out;omega);intro v126 w38 ho hb hg hat;rw [← Ny125.out] at ho;have n0_:=Aside0.mk (Kd.R_over' (by (with_reducible repeat (first|apply Kd.R_alloc|apply Kd.R_drewN|apply Kd.R_drew));exact HO124.out) (Kd.R_typed (by (with_reducible repeat (first|apply Kd.R_alloc|apply Kd.R_drewN|apply Kd.R_drew));exact HO_5.out)) (by decide) hg);have n1_:=Aside0.mk (hb);have n2_:=Aside0.mk (ho);clear HO124;clear HB;clear HO_5;have HO124:=n0_;have HB:=n1_;have HO127:=n2_;clear n0_ n1_ n2_;clear ho hb hg hat))
          go_roundg k1
          case measure => have:=HK1.out;omega
          case rel => exact ⟨(y122),(y125),(wrap64 (x7_1+1)),(wrap64 (x7_1+1)),(by first|rfl|(simp;done)|(simp [*];done)|(simp;exact (fun l_:List UInt8 => by cases l_ <;> rfl:∀ l_:List UInt8,l_.isEmpty=!(l_ != [])) _)),(by first|rfl|(simp;done)|(simp [*];done)|(simp;exact (fun l_:List UInt8 => by cases l_ <;> rfl:∀ l_:List UInt8,l_.isEmpty=!(l_ != [])) _)),H',⟨by have:=HK1.out;omega⟩,⟨by (with_reducible repeat (first|apply Kd.R_alloc|apply Kd.R_drewN|apply Kd.R_drew));exact HO124.out⟩,⟨by (with_reducible repeat (first|apply Kd.R_alloc|apply Kd.R_drewN|apply Kd.R_drew));exact HO127.out⟩,⟨by repeat (first|(with_reducible first|exact HB.out|apply below_alloc|apply pw_below_drewN|apply below_drew1)|exact HB.out)⟩⟩
         ·rw [if_neg c36] at H
          exact absurd H (by simp)
        ·rw [if_neg c35] at H
         exact absurd H (by simp)
       ·rw [if_neg c33] at H
        exact absurd H (by simp)
      ·rw [if_neg c32] at H
       exact absurd H (by simp)
   ·rw [if_neg c2] at H
    have c2b0:decide (x7_1≤(a0.size:Int))=false:=decide_eq_false c2
    clear c2
    simp only [Option.some.injEq,Prod.mk.injEq] at H
    obtain ⟨rfl,rfl⟩:=H
    go_wp2
    go_ret2
    exact ⟨_,_,by first|rfl|(simp [errW_none,errW_some] <;> rfl)|(simp [*,errW_none,errW_some] <;> rfl),by (with_reducible repeat (first|apply Kd.R_alloc|apply Kd.R_drewN|apply Kd.R_drew));exact HO_4.out,by (with_reducible repeat (first|apply Kd.R_alloc|apply Kd.R_drewN|apply Kd.R_drew));exact HO_5.out,by repeat (first|(with_reducible first|exact HB.out|apply below_alloc|apply pw_below_drewN|apply below_drew1)|exact HB.out)⟩
end Go.Proofs.YtjdjljgbfpkbdaaGreatDoor.Q
