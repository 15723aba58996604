import Derived.Test.YtbdojilhmgfdcaaGreatDoorZQ0
import Derived.Test.YtbdojilhmgfdcaaGreatDoorZQ1
import Derived.Test.YtbdojilhmgfdcaaGreatDoorZQ3
import Derived.Test.YtbdojilhmgfdcaaGreatDoorZQ13
import Derived.Test.YtbdojilhmgfdcaaGreatDoorZQ20
import Derived.Test.YtbdojilhmgfdcaaGreatDoorZVm
import Derived.Test.YtbdojilhmgfdcaaGreatDoorZVk
namespace Go.Proofs.YtbdojilhmgfdcaaGreatDoor.Q
open Go.RowKit Go.Proofs.YtbdojilhmgfdcaaGreatDoorW.PrintWords Go.Proofs.YtbdojilhmgfdcaaGreatDoorW.PrintLast Go.Proofs.YtbdojilhmgfdcaaGreatDoorW.PrintMore
attribute [local go_sem] max2_int min2_int max_two min_two max_three min_three max_four min_four
set_option linter.unusedVariables false
set_option linter.unusedSimpArgs false
attribute [local go_sem high] eqA25
mutual
def transhumancelaw2_VerMax.j1 : Nat → List (S25) → Option (Bool)
  | 0, _ => none
  | k + 1, x5 => (ver_Max.f x5).bind fun bt237 => (if (x5.length : Int) = 0 then (transhumancelaw2_VerMax.j2 k x5 (bt237.1 == 0 && (bt237.2.1 == 0 && (bt237.2.2.1 == 0 && (bt237.2.2.2.toList == ([] : List UInt8))))) bt237.1 bt237.2.1 bt237.2.2.1 bt237.2.2.2) else (transhumancelaw2_VerMax.j2 k x5 false bt237.1 bt237.2.1 bt237.2.2.1 bt237.2.2.2))
def transhumancelaw2_VerMax.j2 : Nat → List (S25) → Bool → Int → Int → Int → ByteArray → Option (Bool)
  | 0, _, _, _, _, _, _ => none
  | k + 1, x5, x8, x242000, x242001, x242002, x242003 => transhumancelaw2_VerMax.l1 k x5 x8 0 x242000 x242001 x242002 x242003
def transhumancelaw2_VerMax.l1 : Nat → List (S25) → Bool → Int → Int → Int → Int → ByteArray → Option (Bool)
  | 0, _, _, _, _, _, _, _ => none
  | k + 1, x5, x8, x9, x242000, x242001, x242002, x242003 => if x9 < (x5.length : Int) then (if x8 = true then (if 0 ≤ x9 then ((ver_Cmp.f k ((rd_T25 x5 x9).f0) ((rd_T25 x5 x9).f1) ((rd_T25 x5 x9).f2) ((rd_T25 x5 x9).f3) x242000 x242001 x242002 x242003).bind fun t243 => (if t243 > 0 then (some false) else (transhumancelaw2_VerMax.l1 k x5 true (wrap64 (x9 + 1)) x242000 x242001 x242002 x242003))) else (none)) else (if 0 ≤ x9 then ((ver_Cmp.f k ((rd_T25 x5 x9).f0) ((rd_T25 x5 x9).f1) ((rd_T25 x5 x9).f2) ((rd_T25 x5 x9).f3) x242000 x242001 x242002 x242003).bind fun t246 => (if t246 > 0 then (some false) else (transhumancelaw2_VerMax.l1 k x5 (((rd_T25 x5 x9).f0) == x242000 && (((rd_T25 x5 x9).f1) == x242001 && (((rd_T25 x5 x9).f2) == x242002 && ((((rd_T25 x5 x9).f3).toList) == x242003.toList)))) (wrap64 (x9 + 1)) x242000 x242001 x242002 x242003))) else (none))) else (if x8 = true then ((transhumanceref2_Max.f k x5).bind fun bt247 => (some (x242000 == bt247.1 && (x242001 == bt247.2.1 && (x242002 == bt247.2.2.1 && (x242003.toList == bt247.2.2.2.toList)))))) else (some false))
def transhumancelaw2_VerMax.l0 : Nat → List Int → List Int → List (S25) → Int → Option (Bool)
  | 0, _, _, _, _ => none
  | k + 1, x0, x1, x5, x6 => if x6 < (x0.length : Int) then (if x6 < (x1.length : Int) then (if x6 < 12 then (if 0 ≤ x6 then ((transhumancelaw2_Make.f k (rd x0 x6) (rd x1 x6)).bind fun bt230 => (if x5.length < 3518437208883 then (transhumancelaw2_VerMax.l0 k x0 x1 (x5 ++ [(⟨bt230.1, bt230.2.1, bt230.2.2.1, bt230.2.2.2⟩ : S25)]) (wrap64 (x6 + 1))) else (none))) else (none)) else (transhumancelaw2_VerMax.j1 k x5)) else (transhumancelaw2_VerMax.j1 k x5)) else (transhumancelaw2_VerMax.j1 k x5)
end
def transhumancelaw2_VerMax.f (k : Nat) (l0 : List Int) (l1 : List Int) : Option (Bool) := (transhumancelaw2_known.f).bind fun t227 => (if t227 = true then (transhumancelaw2_VerMax.l0 k l0 l1 ([] : List (S25)) 0) else (some false))
def transhumancelaw2_VerMax.T7 : Bool × List (List Nat × List Nat) := (true, [([], []), ([], []), ([], []), ([1, 2], [1, 2]), ([3], [3]), ([], []), ([], []), ([5, 6], [5, 6]), ([7], [7]), ([4, 8], [4, 8]), ([9], [9]), ([0, 10, 9], [0, 10]), ([11, 11, 0, 1, 2, 3, 4, 5, 6, 7, 8, 9, 10, 11], [0, 11])])
def transhumancelaw2_VerMax.B7 : List Nat := [0, 0, 0, 6, 14, 0, 0, 96, 224, 510, 1022, 2047, 4095]
theorem transhumancelaw2_VerMax.tab7 : rtab .any (opsOf Tryz.f6 7) = transhumancelaw2_VerMax.T7 := by kernel_rfl
theorem transhumancelaw2_VerMax.bits7 : waitsOk transhumancelaw2_VerMax.T7.2 transhumancelaw2_VerMax.B7 = true := by kernel_rfl
def transhumancelaw2_VerMax.T13 : Bool × List (List Nat × List Nat) := (true, [([], []), ([0], [0]), ([1], [1]), ([1], [1]), ([2, 3, 1], [1, 2, 3]), ([4, 1], [1, 4]), ([1], [1]), ([5, 6, 1], [1, 5, 6]), ([1, 7], [1, 7]), ([8, 1, 0, 1, 2, 3, 4, 5, 6, 7, 8], [0, 8])])
def transhumancelaw2_VerMax.B13 : List Nat := [0, 1, 3, 3, 15, 31, 3, 127, 255, 511]
theorem transhumancelaw2_VerMax.tab13 : rtab .any (opsOf Tryz.f6 13) = transhumancelaw2_VerMax.T13 := by kernel_rfl
theorem transhumancelaw2_VerMax.bits13 : waitsOk transhumancelaw2_VerMax.T13.2 transhumancelaw2_VerMax.B13 = true := by kernel_rfl
def transhumancelaw2_VerMax.T16 : Bool × List (List Nat × List Nat) := (true, [([], []), ([0], [0]), ([1], [1]), ([1], [1]), ([3, 1, 1], [1, 3]), ([2, 4, 1], [1, 2, 4]), ([1, 5], [1, 5]), ([6, 4, 0, 1, 2, 3, 4, 5, 6], [6])])
def transhumancelaw2_VerMax.B16 : List Nat := [0, 1, 3, 3, 11, 31, 63, 127]
theorem transhumancelaw2_VerMax.tab16 : rtab .any (opsOf Tryz.f6 16) = transhumancelaw2_VerMax.T16 := by kernel_rfl
theorem transhumancelaw2_VerMax.bits16 : waitsOk transhumancelaw2_VerMax.T16.2 transhumancelaw2_VerMax.B16 = true := by kernel_rfl
set_option maxHeartbeats 8000000 in
set_option maxRecDepth 100000 in
theorem transhumancelaw2_VerMax.calls (k : Nat) (A0 : Option Addr) (c0 : Nat) (l0 : List Int) (A1 : Option Addr) (c1 : Nat) (l1 : List Int) (r : Bool) (w : World) (hG : GL w) (hr0 : Kd.C (Kd.int .i64) w A0 l0.length l0) (hc0 : l0.length ≤ c0) (hr1 : Kd.C (Kd.int .i64) w A1 l1.length l1) (hc1 : l1.length ≤ c1) (h : transhumancelaw2_VerMax.f k l0 l1 = some r) :
    Calls Tryz.prog 6 #[.slice A0 l0.length c0, .slice A1 l1.length c1] w fun e w' => e = .returned (.bool r) ∧ Below w.heap.size w w' := by
  have hu25 := Tryz.underlying25
  have HR0 := Aside0.mk hr0
  have HC0 := Aside0.mk hc0
  clear hr0 hc0
  have HR1 := Aside0.mk hr1
  have HC1 := Aside0.mk hc1
  clear hr1 hc1
  have HB := Aside0.mk (Below.refl w.heap.size w)
  have H : ((transhumancelaw2_known.f).bind fun t227 => (if t227 = true then (transhumancelaw2_VerMax.l0 k l0 l1 ([] : List (S25)) 0) else (some false))) = some r := h
  clear h
  replace H := Option.bind_eq_some_iff.mp H
  obtain ⟨t227, A30, H⟩ := H
  replace H : (if t227 = true then (transhumancelaw2_VerMax.l0 k l0 l1 ([] : List (S25)) 0) else (some false)) = some r := H
  have A3 := Aside0.mk A30
  clear A30
  by_cases c4 : t227 = true
  · subst c4
    have H1 : (transhumancelaw2_VerMax.l0 k l0 l1 ([] : List (S25)) 0) = some r := by rw [if_pos rfl] at H; exact H
    clear H
    have H := H1
    clear H1
    have HC5 := Aside0.mk H
    clear H
    go_enter Tryz.func6, Tryz.ntmps6
    go_upto_block 0 with (first | ((with_reducible refine gate_callee (f := 10) rfl ?_); refine goesL_ (some 10) rfl rfl Tryz.func10 (by kernel_rfl) rfl #[] rfl (by (try simp only [List.map_toArray, List.map_cons, List.map_nil]); first | done | rfl | (simp only [List.length_drop, List.length_take]; rfl)) ?_; (with_reducible refine (transhumancelaw2_known.calls  true _ ?side1 A3.out).mono ?_); (case side1 => exact GL.below0 hG (by repeat (first | (with_reducible first | exact HB.out | apply below_alloc | apply pw_below_drewN | apply below_drew1) | exact HB.out))); rintro e w6 ⟨rfl, hb⟩; refine ⟨_, rfl, ?_⟩; have n0_ := Aside0.mk (below_step (by repeat (first | (with_reducible first | exact HB.out | apply below_alloc | apply pw_below_drewN | apply below_drew1) | exact HB.out)) hb); clear HB; have HB := n0_; clear n0_; (try clear hb); (try clear hb2); (try clear hk); (try clear hi)))
    (try simp only [Act.put, List.setIfInBounds_toArray, List.set_cons_zero, List.set_cons_succ])
    go_cut [5] (fun v5 wc => ∃ (kq : Nat) (x5_4 : List (S25)), Aside0 (transhumancelaw2_VerMax.j1 kq x5_4 = some r) ∧ Aside0 (kq ≤ k) ∧ Aside0 (Kd.R k25 25 wc w.heap.size (fun _ => True) v5 x5_4) ∧ Aside0 (Below w.heap.size w wc))
    case first =>
      have H := HC5.out
      clear HC5
      have H' := Aside0.mk H
      clear H
      go_wp2
      go_loopg [5, 6] k (fun kq v5 v6 w' => ∃ (x5_1 : List (S25)) (x6_1 : Int), v6 = .int .i64 x6_1 ∧ Aside0 (transhumancelaw2_VerMax.l0 kq l0 l1 x5_1 x6_1 = some r) ∧ Aside0 (kq ≤ k) ∧ Aside0 (Kd.R k25 25 w' w.heap.size (fun _ => True) v5 x5_1) ∧ Aside0 (Below w.heap.size w w'))
      case atStart => exact ⟨(([] : List (S25))), (0), (by first | rfl | (simp; done) | (simp [*]; done) | (simp; exact (fun l_ : List UInt8 => by cases l_ <;> rfl : ∀ l_ : List UInt8, l_.isEmpty = !(l_ != [])) _)), H', ⟨Nat.le_refl _⟩, ⟨by first | exact Kd.R_nil _ _ _ _ _ | exact Kd.N_nil _ _ _ _ _ | exact Kd.V_nil _ _ _ _ _ | exact Kd.Q_nil _ _ _ _ _ | exact Kd.S_nil _ _ _ _ _⟩, ⟨by repeat (first | (with_reducible first | exact HB.out | apply below_alloc | apply pw_below_drewN | apply below_drew1) | exact HB.out)⟩⟩
      case round =>
        clear H'
        try clear c1
        try clear p2
        try clear c4
        try clear c6
        obtain ⟨x5_1, x6_1, rfl, HA, HK1, HO_5, HB⟩ := hrel
        cases gk with
        | zero => exact absurd HA.out (by simp [transhumancelaw2_VerMax.l0])
        | succ k1 =>
          have H := HA.out
          clear HA
          simp only [transhumancelaw2_VerMax.l0] at H
          by_cases c7 : x6_1 < (l0.length : Int)
          · rw [if_pos c7] at H
            have c7b0 : decide (x6_1 < (l0.length : Int)) = true := decide_eq_true c7
            clear c7
            (first | rw [c7b0] | (simp only [i64_w, i32_w]; rw [c7b0]) | skip)
            by_cases c8 : x6_1 < (l1.length : Int)
            · rw [if_pos c8] at H
              have c8b0 : decide (x6_1 < (l1.length : Int)) = true := decide_eq_true c8
              clear c8
              by_cases c9 : x6_1 < 12
              · rw [if_pos c9] at H
                have c9b0 : decide (x6_1 < 12) = true := decide_eq_true c9
                clear c9
                by_cases c10 : 0 ≤ x6_1
                · rw [if_pos c10] at H
                  have c10b0 : decide (0 ≤ x6_1) = true := decide_eq_true c10
                  clear c10
                  replace H := Option.bind_eq_some_iff.mp H
                  obtain ⟨⟨t230, t231, t232, t233⟩, A110, H⟩ := H
                  replace H : (if x5_1.length < 3518437208883 then (transhumancelaw2_VerMax.l0 k1 l0 l1 (x5_1 ++ [(⟨t230, t231, t232, t233⟩ : S25)]) (wrap64 (x6_1 + 1))) else (none)) = some r := H
                  have A11 := Aside0.mk A110
                  clear A110
                  by_cases c12 : x5_1.length < 3518437208883
                  · rw [if_pos c12] at H
                    have LMc12 := Aside0.mk c12
                    clear c12
                    obtain ⟨y234, hy234⟩ : ∃ y_ : List (S25), y_ = (x5_1 ++ [(⟨t230, t231, t232, t233⟩ : S25)]) := ⟨_, rfl⟩
                    replace H : (transhumancelaw2_VerMax.l0 k1 l0 l1 y234 (wrap64 (x6_1 + 1))) = some r := by first | (rw [hy234]; with_reducible exact H) | (have H2_ := (Option.bind_some _ _).symm.trans H; rw [hy234]; with_reducible exact H2_) | (have H2_ := (Option.bind_some _ _).symm.trans H; with_reducible exact H2_) | with_reducible exact H | (rw [hy234]; exact H) | exact H
                    have Ny234 := Aside0.mk hy234
                    clear hy234
                    have H' := Aside0.mk H
                    clear H
                    try go_wp2
                    have n0_ := Aside0.mk (Kd.R_drew HO_5.out)
                    have n1_ := Aside0.mk (below_drew1 HB.out)
                    clear HO_5
                    clear HB
                    have HO_5 := n0_
                    have HB := n1_
                    clear n0_ n1_
                    have p228 : 0 ≤ (x6_1 : Int) := of_decide_eq_true (by first | (with_reducible assumption) | assumption)
                    have q228 : x6_1 < (l0.length : Int) := of_decide_eq_true (by first | (with_reducible assumption) | assumption)
                    obtain ⟨ad228, e228, hx228_0⟩ := Kd.at_int HR0.out x6_1 p228 q228
                    have hw228_0 := hx228_0
                    cases e228
                    replace hx228_0 := (HB.out.cell (World.block_lt_of_cell? w _ hx228_0)).trans hx228_0
                    replace p228 := eq_true p228
                    replace q228 := eq_true q228
                    have p229 : 0 ≤ (x6_1 : Int) := of_decide_eq_true (by first | (with_reducible assumption) | assumption)
                    have q229 : x6_1 < (l1.length : Int) := of_decide_eq_true (by first | (with_reducible assumption) | assumption)
                    obtain ⟨ad229, e229, hx229_0⟩ := Kd.at_int HR1.out x6_1 p229 q229
                    have hw229_0 := hx229_0
                    cases e229
                    replace hx229_0 := (HB.out.cell (World.block_lt_of_cell? w _ hx229_0)).trans hx229_0
                    replace p229 := eq_true p229
                    replace q229 := eq_true q229
                    refine start_ (n := 13) (S := fun w' => w'.cell? (ad228.add (x6_1).toNat) = some (.int .i64 (rd l0 x6_1)) ∧ w'.cell? (ad229.add (x6_1).toNat) = some (.int .i64 (rd l1 x6_1))) (ds := []) #[false, false, false, false, false, false, false, false, false, false, false, false, false] (by kernel_rfl) rfl rfl ⟨((HB.out.cell (World.block_lt_of_cell? w _ hw228_0)).trans hw228_0), ((HB.out.cell (World.block_lt_of_cell? w _ hw229_0)).trans hw229_0)⟩ (fun hHeld => ?_); refine with_tabW transhumancelaw2_VerMax.tab7 transhumancelaw2_VerMax.bits7 (fun HT_ HW_ => ?_)
                    generalize wr.drew = w13 at HO_5 HB hx228_0 hx229_0 hHeld ⊢
                    refine pure_ (i := 0) (N := some 28) (v := ?_) (a' := ?_) #[true, false, false, false, false, false, false, false, false, false, false, false, false] rfl rfl (any_of HT_.out (by kernel_rfl)) (fun _ _ _ h => h) (Or.inl ⟨by rfl, ?_⟩) ?_ ?_
                    rotate_left
                    · intro w'
                      go_simp
                      with_reducible rfl
                    rotate_left
                    · simp only [Act.put, List.setIfInBounds_toArray, List.set_cons_zero, List.set_cons_succ, i64_w, i32_w]
                      rfl
                    refine pure_ (i := 1) (N := some 29) (v := ?_) (a' := ?_) #[true, true, false, false, false, false, false, false, false, false, false, false, false] rfl rfl (any_of HT_.out (by kernel_rfl)) (fun _ _ _ h => h) (Or.inl ⟨by rfl, ?_⟩) ?_ ?_
                    rotate_left
                    · intro w'
                      go_simp
                      with_reducible rfl
                    rotate_left
                    · simp only [Act.put, List.setIfInBounds_toArray, List.set_cons_zero, List.set_cons_succ, i64_w, i32_w]
                      rfl
                    refine pure_ (i := 2) (N := some 30) (v := ?_) (a' := ?_) #[true, true, true, false, false, false, false, false, false, false, false, false, false] rfl rfl (any_of HT_.out (by kernel_rfl)) (fun _ _ _ h => h) (Or.inl ⟨by rfl, ?_⟩) ?_ ?_
                    rotate_left
                    · intro w'
                      go_simp
                      with_reducible rfl
                    rotate_left
                    · simp only [Act.put, List.setIfInBounds_toArray, List.set_cons_zero, List.set_cons_succ, i64_w, i32_w]
                      rfl
                    refine pure_ (i := 3) (N := some 31) (v := ?_) (a' := ?_) #[true, true, true, true, false, false, false, false, false, false, false, false, false] rfl rfl (any_of HT_.out (by kernel_rfl)) (fun _ _ _ h => h) (Or.inl ⟨by rfl, ?_⟩) ?_ ?_
                    rotate_left
                    · intro w'
                      go_simp
                      with_reducible rfl
                    rotate_left
                    · simp only [Act.put, List.setIfInBounds_toArray, List.set_cons_zero, List.set_cons_succ, i64_w, i32_w]
                      rfl
                    refine pure_ (i := 5) (N := some 33) (v := ?_) (a' := ?_) #[true, true, true, true, false, true, false, false, false, false, false, false, false] rfl rfl (any_of HT_.out (by kernel_rfl)) (fun _ _ _ h => h) (Or.inl ⟨by rfl, ?_⟩) ?_ ?_
                    rotate_left
                    · intro w'
                      go_simp
                      with_reducible rfl
                    rotate_left
                    · simp only [Act.put, List.setIfInBounds_toArray, List.set_cons_zero, List.set_cons_succ, i64_w, i32_w]
                      rfl
                    refine pure_ (i := 6) (N := some 34) (v := ?_) (a' := ?_) #[true, true, true, true, false, true, true, false, false, false, false, false, false] rfl rfl (any_of HT_.out (by kernel_rfl)) (fun _ _ _ h => h) (Or.inl ⟨by rfl, ?_⟩) ?_ ?_
                    rotate_left
                    · intro w'
                      go_simp
                      with_reducible rfl
                    rotate_left
                    · simp only [Act.put, List.setIfInBounds_toArray, List.set_cons_zero, List.set_cons_succ, i64_w, i32_w]
                      rfl
                    refine pure_ (i := 7) (N := some 35) (v := ?_) (a' := ?_) #[true, true, true, true, false, true, true, true, false, false, false, false, false] rfl rfl (any_of HT_.out (by kernel_rfl)) (fun _ _ _ h => h) (Or.inl ⟨by rfl, ?_⟩) ?_ ?_
                    rotate_left
                    · intro w'
                      go_simp
                      with_reducible rfl
                    rotate_left
                    · simp only [Act.put, List.setIfInBounds_toArray, List.set_cons_zero, List.set_cons_succ, i64_w, i32_w]
                      rfl
                    refine take_ (i := 4) (N := some 32) (v := ?_) (a' := ?_) #[true, true, true, true, true, true, true, true, false, false, false, false, false] rfl rfl (take_ofW HT_.out HW_.out (by kernel_rfl)) (fun _ _ _ h => h) (Or.inl ⟨by rfl, ?_⟩) hHeld ?_ ?_
                    rotate_left
                    · rintro w' ⟨s0, s1⟩
                      go_simp
                      with_reducible rfl
                    rotate_left
                    · simp only [Act.put, List.setIfInBounds_toArray, List.set_cons_zero, List.set_cons_succ, i64_w, i32_w]
                      rfl
                    refine take_ (i := 8) (N := some 36) (v := ?_) (a' := ?_) #[true, true, true, true, true, true, true, true, true, false, false, false, false] rfl rfl (take_ofW HT_.out HW_.out (by kernel_rfl)) (fun _ _ _ h => h) (Or.inl ⟨by rfl, ?_⟩) hHeld ?_ ?_
                    rotate_left
                    · rintro w' ⟨s0, s1⟩
                      go_simp
                      with_reducible rfl
                    rotate_left
                    · simp only [Act.put, List.setIfInBounds_toArray, List.set_cons_zero, List.set_cons_succ, i64_w, i32_w]
                      rfl
                    refine one_ (i := 9) (N := some 37) #[true, true, true, true, true, true, true, true, true, true, false, false, false] rfl rfl (one_of HT_.out (by kernel_rfl)) (by decide) (fun K hK => ?_)
                    refine goes_ Tryz.func12 (by kernel_rfl) rfl #[.int .i64 (rd l0 x6_1), .int .i64 (rd l1 x6_1)] (by rfl) rfl rfl (by (try simp only [List.map_toArray, List.map_cons, List.map_nil]); first | done | rfl | (simp only [List.length_drop, List.length_take]; rfl)) ?_
                    with_reducible refine (transhumancelaw2_Make.calls k1 (rd l0 x6_1) (rd l1 x6_1) t230 t231 t232 t233 _ A11.out).mono ?_
                    rintro e w14 ⟨rfl, hb⟩
                    refine ⟨_, rfl, ?_⟩
                    have n0_ := Aside0.mk (Kd.R_below (by (with_reducible repeat (first | apply Kd.R_alloc | apply Kd.R_drewN | apply Kd.R_drew)); exact HO_5.out) hb)
                    have n1_ := Aside0.mk (below_step (by repeat (first | (with_reducible first | exact HB.out | apply below_alloc | apply pw_below_drewN | apply below_drew1) | exact HB.out)) hb)
                    clear HO_5
                    clear HB
                    have HO_5 := n0_
                    have HB := n1_
                    clear n0_ n1_
                    (try clear hb)
                    (try clear hb2)
                    (try clear hk)
                    (try clear hi)
                    refine hK.out _ _ ⟨((HB.out.cell (World.block_lt_of_cell? w _ hw228_0)).trans hw228_0), ((HB.out.cell (World.block_lt_of_cell? w _ hw229_0)).trans hw229_0)⟩ (fun hHeld => ?_)
                    clear hK K
                    refine norm_ (a' := ?_) ?_ ?_
                    rotate_left
                    · show Act.put _ (some 37) _ = _
                      simp only [Act.put, List.setIfInBounds_toArray, List.set_cons_zero, List.set_cons_succ, i64_w, i32_w]
                      rfl
                    refine one_ (i := 10) (N := some 38) #[true, true, true, true, true, true, true, true, true, true, true, false, false] rfl rfl (one_of HT_.out (by kernel_rfl)) (by decide) (fun K hK => ?_)
                    refine value_ (w1 := ?_) (v := ?_) (by rfl) rfl ?_ ?_
                    rotate_left 2
                    · go_simp
                      constructor
                      · rfl
                      · rfl
                    refine hK.out _ _ ⟨(World.cell?_alloc_lt _ _ _ (World.block_lt_of_cell? _ _ (((HB.out.cell (World.block_lt_of_cell? w _ hw228_0)).trans hw228_0)))).trans (((HB.out.cell (World.block_lt_of_cell? w _ hw228_0)).trans hw228_0)), (World.cell?_alloc_lt _ _ _ (World.block_lt_of_cell? _ _ (((HB.out.cell (World.block_lt_of_cell? w _ hw229_0)).trans hw229_0)))).trans (((HB.out.cell (World.block_lt_of_cell? w _ hw229_0)).trans hw229_0))⟩ (fun hHeld => ?_)
                    clear hK K
                    refine norm_ (a' := ?_) ?_ ?_
                    rotate_left
                    · show Act.put _ (some 38) _ = _
                      simp only [Act.put, List.setIfInBounds_toArray, List.set_cons_zero, List.set_cons_succ, i64_w, i32_w]
                      rfl
                    refine one_ (i := 11) (N := some 39) #[true, true, true, true, true, true, true, true, true, true, true, true, false] rfl rfl (one_of HT_.out (by kernel_rfl)) (by decide) (fun K hK => ?_)
                    refine Kd.R_append_step k25 (w0 := w) w.heap.size (by rfl) (.tmp 28) (.tmp 38) 38 25 (.agg #[(.int .i64 0), (.int .i64 0), (.int .i64 0), (.string ⟨#[]⟩)]) 40 rfl Tryz.underlying38 info25 rfl (by decide) (by omega) u5 x5_1 (⟨t230, t231, t232, t233⟩ : S25) [.int .i64 t230, .int .i64 t231, .int .i64 t232, .string t233] (fun _ => True) (fun _ => False) rfl rfl ?aP (fun _ hk => hk.elim) ?aF ?aO ?aB ?aS ?aL ?_
                    (case aP => exact k25_mkM _ _ _ (⟨t230, t231, t232, t233⟩ : S25))
                    (case aB => exact (by repeat (first | (with_reducible first | exact HB.out | apply below_alloc | apply pw_below_drewN | apply below_drew1) | exact HB.out)))
                    (case aF => exact (fun _ _ => trivial))
                    (case aO => exact (by (with_reducible repeat (first | apply Kd.R_alloc | apply Kd.R_drewN | apply Kd.R_drew)); exact HO_5.out))
                    (case aS => exact (below_size (by repeat (first | (with_reducible first | exact HB.out | apply below_alloc | apply pw_below_drewN | apply below_drew1) | exact HB.out))))
                    (case aL => have := LMc12.out; omega)
                    intro v235 w15 ho hb hg hat
                    rw [← Ny234.out] at ho
                    have n0_ := Aside0.mk (hb)
                    have n1_ := Aside0.mk (ho)
                    clear HB
                    clear HO_5
                    have HB := n0_
                    have HO236 := n1_
                    clear n0_ n1_
                    clear ho hb hg hat
                    refine hK.out _ _ ⟨((HB.out.cell (World.block_lt_of_cell? w _ hw228_0)).trans hw228_0), ((HB.out.cell (World.block_lt_of_cell? w _ hw229_0)).trans hw229_0)⟩ (fun hHeld => ?_)
                    clear hK K
                    refine norm_ (a' := ?_) ?_ ?_
                    rotate_left
                    · show Act.put _ (some 39) _ = _
                      simp only [Act.put, List.setIfInBounds_toArray, List.set_cons_zero, List.set_cons_succ, i64_w, i32_w]
                      rfl
                    refine pure_ (i := 12) (N := some 5) (v := ?_) (a' := ?_) #[true, true, true, true, true, true, true, true, true, true, true, true, true] rfl rfl (any_of HT_.out (by kernel_rfl)) (fun _ _ _ h => h) (Or.inl ⟨by rfl, ?_⟩) ?_ ?_
                    rotate_left
                    · intro w'
                      go_simp
                      with_reducible rfl
                    rotate_left
                    · simp only [Act.put, List.setIfInBounds_toArray, List.set_cons_zero, List.set_cons_succ, i64_w, i32_w]
                      rfl
                    refine done_ (done_of HT_.out (by kernel_rfl)) ?_
                    try go_wp2
                    go_roundg k1
                    case measure => have := HK1.out; omega
                    case rel => exact ⟨(y234), (wrap64 (x6_1 + 1)), (by first | rfl | (simp; done) | (simp [*]; done) | (simp; exact (fun l_ : List UInt8 => by cases l_ <;> rfl : ∀ l_ : List UInt8, l_.isEmpty = !(l_ != [])) _)), H', ⟨by have := HK1.out; omega⟩, ⟨by (with_reducible repeat (first | apply Kd.R_alloc | apply Kd.R_drewN | apply Kd.R_drew)); exact HO236.out⟩, ⟨by repeat (first | (with_reducible first | exact HB.out | apply below_alloc | apply pw_below_drewN | apply below_drew1) | exact HB.out)⟩⟩
                  · rw [if_neg c12] at H
                    exact absurd H (by simp)
                · rw [if_neg c10] at H
                  exact absurd H (by simp)
              · rw [if_neg c9] at H
                have c9b0 : decide (x6_1 < 12) = false := decide_eq_false c9
                clear c9
                have H' := Aside0.mk H
                clear H
                go_wp2
                go_meet
                case rel => exact ⟨_, (x5_1), H', ⟨by have := HK1.out; first | omega | exact Nat.le_refl _⟩, ⟨by (with_reducible repeat (first | apply Kd.R_alloc | apply Kd.R_drewN | apply Kd.R_drew)); exact HO_5.out⟩, ⟨by repeat (first | (with_reducible first | exact HB.out | apply below_alloc | apply pw_below_drewN | apply below_drew1) | exact HB.out)⟩⟩
            · rw [if_neg c8] at H
              have c8b0 : decide (x6_1 < (l1.length : Int)) = false := decide_eq_false c8
              clear c8
              have H' := Aside0.mk H
              clear H
              go_wp2
              go_meet
              case rel => exact ⟨_, (x5_1), H', ⟨by have := HK1.out; first | omega | exact Nat.le_refl _⟩, ⟨by (with_reducible repeat (first | apply Kd.R_alloc | apply Kd.R_drewN | apply Kd.R_drew)); exact HO_5.out⟩, ⟨by repeat (first | (with_reducible first | exact HB.out | apply below_alloc | apply pw_below_drewN | apply below_drew1) | exact HB.out)⟩⟩
          · rw [if_neg c7] at H
            have c7b0 : decide (x6_1 < (l0.length : Int)) = false := decide_eq_false c7
            clear c7
            (first | rw [c7b0] | (simp only [i64_w, i32_w]; rw [c7b0]) | skip)
            have H' := Aside0.mk H
            clear H
            go_wp2
            go_meet
            case rel => exact ⟨_, (x5_1), H', ⟨by have := HK1.out; first | omega | exact Nat.le_refl _⟩, ⟨by (with_reducible repeat (first | apply Kd.R_alloc | apply Kd.R_drewN | apply Kd.R_drew)); exact HO_5.out⟩, ⟨by repeat (first | (with_reducible first | exact HB.out | apply below_alloc | apply pw_below_drewN | apply below_drew1) | exact HB.out)⟩⟩
    case rest =>
      clear HC5
      try clear c1
      try clear p2
      try clear q2
      try clear hx2
      try clear c4
      try clear c6
      try clear p6
      try clear c7
      try clear c7b0
      try clear c8
      try clear c8b0
      try clear c9
      try clear c9b0
      try clear c10
      try clear c10b0
      try clear c12
      try clear hx228_0
      try clear hx229_0
      try clear p2
      try clear p228
      try clear p229
      try clear q228
      try clear q229
      obtain ⟨kq, x5_4, HA, HJ4, HO_5, HB⟩ := hcut
      cases kq with
      | zero => exact absurd HA.out (by simp [transhumancelaw2_VerMax.j1])
      | succ kj4 =>
        have H := HA.out
        clear HA
        simp only [transhumancelaw2_VerMax.j1] at H
        replace H := Option.bind_eq_some_iff.mp H
        obtain ⟨⟨t237, t238, t239, t240⟩, A160, H⟩ := H
        replace H : (if (x5_4.length : Int) = 0 then (transhumancelaw2_VerMax.j2 kj4 x5_4 (t237 == 0 && (t238 == 0 && (t239 == 0 && (t240.toList == ([] : List UInt8))))) t237 t238 t239 t240) else (transhumancelaw2_VerMax.j2 kj4 x5_4 false t237 t238 t239 t240)) = some r := H
        have A16 := Aside0.mk A160
        clear A160
        have HC17 := Aside0.mk H
        clear H
        obtain ⟨Ao18, co18, eo18⟩ := Kd.R_slice HO_5.out
        subst eo18
        go_upto_region 9 with (first | ((with_reducible refine gate_callee (f := 21) rfl ?_); refine goesL_ (some 41) rfl rfl Tryz.func21 (by kernel_rfl) rfl #[.slice Ao18 x5_4.length co18] rfl (by (try simp only [List.map_toArray, List.map_cons, List.map_nil]); first | done | rfl | (simp only [List.length_drop, List.length_take]; rfl)) ?_; (with_reducible refine (ver_Max.calls _ _ x5_4 t237 t238 t239 t240 _ ?side3 ?side1 ?side2 A16.out).mono ?_); (case side1 => repeat (first | exact (Kd.R_reads' HO_5.out).2.2 | (with_reducible refine Kd.C_alloc ?_ _) | (with_reducible refine Kd.C_drewN ?_ _) | (with_reducible refine Kd.C_drew ?_))); (case side2 => exact (Kd.R_reads' HO_5.out).2.1); (case side3 => exact GL.below0 hG (by repeat (first | (with_reducible first | exact HB.out | apply below_alloc | apply pw_below_drewN | apply below_drew1) | exact HB.out))); rintro e w19 ⟨rfl, hb⟩; refine ⟨_, rfl, ?_⟩; have n0_ := Aside0.mk (Kd.R_below (by (with_reducible repeat (first | apply Kd.R_alloc | apply Kd.R_drewN | apply Kd.R_drew)); exact HO_5.out) hb); have n1_ := Aside0.mk (below_step (by repeat (first | (with_reducible first | exact HB.out | apply below_alloc | apply pw_below_drewN | apply below_drew1) | exact HB.out)) hb); clear HO_5; clear HB; have HO_5 := n0_; have HB := n1_; clear n0_ n1_; (try clear hb); (try clear hb2); (try clear hk); (try clear hi)) | ((with_reducible refine gate_dst (N := 7) rfl ?_); (try (refine gate_guard (by rfl) ?_; dsimp only)); refine box_event ?hg (N := 7) ?hd (cs := #[.int .i64 0, .int .i64 0, .int .i64 0, .string (⟨#[]⟩ : ByteArray)]) (t := 25) ?hr ?_; (case hd => rfl); (case hg => rfl); (case hr => first | (go_simp; done) | (go_simp; rfl)); intro gb241 hg w20 hbox hb; have n0_ := Aside0.mk (Kd.R_below (Kd.R_elderB (by (with_reducible repeat (first | apply Kd.R_alloc | apply Kd.R_drewN | apply Kd.R_drew)); exact HO_5.out) gb241 (Nat.le_of_eq hg.symm)) hb); have n1_ := Aside0.mk (below_step (by repeat (first | (with_reducible first | exact HB.out | apply below_alloc | apply pw_below_drewN | apply below_drew1) | exact HB.out)) hb); have n2_ := Aside0.mk (hbox); have n3_ := Aside0.mk ((by rw [hg]; exact (below_size (by repeat (first | (with_reducible first | exact HB.out | apply below_alloc | apply pw_below_drewN | apply below_drew1) | exact HB.out))) : w.heap.size ≤ gb241)); have n4_ := Aside0.mk ((by rw [hg]; exact (below_size (by repeat (first | (with_reducible first | exact HB.out | apply below_alloc | apply pw_below_drewN | apply below_drew1) | exact HB.out))) : w.heap.size ≤ gb241)); clear HO_5; clear HB; have HO_5 := n0_; have HB := n1_; have BK241 := n2_; have GW241 := n3_; have GE241 := n4_; clear n0_ n1_ n2_ n3_ n4_; clear hb hbox hg; have hcz21_0 : w20.cell? ⟨gb241, 0, none⟩ = some (.int .i64 0) := (blk_cell BK241.out 0).trans rfl; have hcz21_1 : w20.cell? ⟨gb241, 1, none⟩ = some (.int .i64 0) := (blk_cell BK241.out 1).trans rfl; have hcz21_2 : w20.cell? ⟨gb241, 2, none⟩ = some (.int .i64 0) := (blk_cell BK241.out 2).trans rfl; have hcz21_3 : w20.cell? ⟨gb241, 3, none⟩ = some (.string (⟨#[]⟩ : ByteArray)) := (blk_cell BK241.out 3).trans rfl; have hfz21_0 := blk_frozen BK241.out 0; have hfz21_1 := blk_frozen BK241.out 1; have hfz21_2 := blk_frozen BK241.out 2; have hfz21_3 := blk_frozen BK241.out 3))
        (try simp only [Act.put, List.setIfInBounds_toArray, List.set_cons_zero, List.set_cons_succ])
        go_cut [8] (fun v8 wc => ∃ (kq : Nat) (x8_16 : Bool), v8 = .bool x8_16 ∧ Aside0 (transhumancelaw2_VerMax.j2 kq x5_4 x8_16 t237 t238 t239 t240 = some r) ∧ Aside0 (kq ≤ kj4) ∧ Aside0 (Kd.R k25 25 wc w.heap.size (fun k_ => k_ ≠ gb241) (.slice Ao18 x5_4.length co18) x5_4) ∧ Aside0 (wc.heap[gb241]? = some (.cells #[.int .i64 t237, .int .i64 t238, .int .i64 t239, .string t240] 25 (0, 0))) ∧ Aside0 (Below w.heap.size w wc))
        case first =>
          have H := HC17.out
          clear HC17
          by_cases c22 : (x5_4.length : Int) = 0
          · rw [if_pos c22] at H
            have c22b0 : ((x5_4.length : Int) == 0) = true := beq_iff_eq.mpr c22
            have c22b1 : ((x5_4.length : Int) != 0) = false := bne_eq_false_iff_eq.mpr c22
            clear c22
            (first | rw [c22b0] | (simp only [i64_w, i32_w]; rw [c22b0]) | skip)
            have H' := Aside0.mk H
            clear H
            have hcz23_0 : w20.cell? ⟨gb241, 0, none⟩ = some (.int .i64 0) := (blk_cell BK241.out 0).trans rfl
            have hcz23_1 : w20.cell? ⟨gb241, 1, none⟩ = some (.int .i64 0) := (blk_cell BK241.out 1).trans rfl
            have hcz23_2 : w20.cell? ⟨gb241, 2, none⟩ = some (.int .i64 0) := (blk_cell BK241.out 2).trans rfl
            have hcz23_3 : w20.cell? ⟨gb241, 3, none⟩ = some (.string (⟨#[]⟩ : ByteArray)) := (blk_cell BK241.out 3).trans rfl
            have hfz23_0 := blk_frozen BK241.out 0
            have hfz23_1 := blk_frozen BK241.out 1
            have hfz23_2 := blk_frozen BK241.out 2
            have hfz23_3 := blk_frozen BK241.out 3
            go_wp2
            go_meet
            case rel => exact ⟨_, ((t237 == 0 && (t238 == 0 && (t239 == 0 && (t240.toList == ([] : List UInt8)))))), (by first | rfl | (simp; done) | (simp [*]; done) | (simp; exact (fun l_ : List UInt8 => by cases l_ <;> rfl : ∀ l_ : List UInt8, l_.isEmpty = !(l_ != [])) _)), H', ⟨by have := HJ4.out; first | omega | exact Nat.le_refl _⟩, ⟨by (with_reducible repeat (first | apply Kd.R_alloc | apply Kd.R_drewN | apply Kd.R_drew)); exact Kd.R_mono (Kd.R_far (p := ⟨gb241, 3, none⟩) (Kd.R_far (p := ⟨gb241, 2, none⟩) (Kd.R_far (p := ⟨gb241, 1, none⟩) (Kd.R_far (p := ⟨gb241, 0, none⟩) (Kd.R_mono HO_5.out (fun k_ hk => (⟨hk, hk.2⟩ : _ ∧ k_ ≠ gb241))) (fun _ hk => hk.2) (.int .i64 t237)) (fun _ hk => hk.2) (.int .i64 t238)) (fun _ hk => hk.2) (.int .i64 t239)) (fun _ hk => hk.2) (.string t240)) (fun _ hk => hk.1.2)⟩, ⟨by (with_reducible repeat (first | refine blk_drewN ?_ _ | refine blk_drew ?_ | refine blk_alloc ?_ _)); refine blk_put (cs := #[.int .i64 t237, .int .i64 t238, .int .i64 t239, .string (⟨#[]⟩ : ByteArray)]) ?_ 3 _ rfl; (with_reducible repeat (first | refine blk_drewN ?_ _ | refine blk_drew ?_ | refine blk_alloc ?_ _)); refine blk_put (cs := #[.int .i64 t237, .int .i64 t238, .int .i64 0, .string (⟨#[]⟩ : ByteArray)]) ?_ 2 _ rfl; (with_reducible repeat (first | refine blk_drewN ?_ _ | refine blk_drew ?_ | refine blk_alloc ?_ _)); refine blk_put (cs := #[.int .i64 t237, .int .i64 0, .int .i64 0, .string (⟨#[]⟩ : ByteArray)]) ?_ 1 _ rfl; (with_reducible repeat (first | refine blk_drewN ?_ _ | refine blk_drew ?_ | refine blk_alloc ?_ _)); refine blk_put (cs := #[.int .i64 0, .int .i64 0, .int .i64 0, .string (⟨#[]⟩ : ByteArray)]) ?_ 0 _ rfl; (with_reducible repeat (first | refine blk_drewN ?_ _ | refine blk_drew ?_ | refine blk_alloc ?_ _)); exact BK241.out⟩, ⟨by repeat (first | (with_reducible first | exact HB.out | apply below_alloc | apply pw_below_drewN | apply below_drew1 | refine below_set ?_ GE241.out) | exact HB.out)⟩⟩
          · rw [if_neg c22] at H
            have c22b0 : ((x5_4.length : Int) == 0) = false := beq_eq_false_iff_ne.mpr c22
            have c22b1 : ((x5_4.length : Int) != 0) = true := bne_iff_ne.mpr c22
            have c22b2 : ¬ (x5_4 = []) := fun h_ => c22 (by rw [h_]; rfl)
            (first | rw [c22b0] | (simp only [i64_w, i32_w]; rw [c22b0]) | skip)
            have H' := Aside0.mk H
            clear H
            go_wp2
            go_meet
            case rel => exact ⟨_, (false), (by first | rfl | (simp; done) | (simp [*]; done) | (simp; exact (fun l_ : List UInt8 => by cases l_ <;> rfl : ∀ l_ : List UInt8, l_.isEmpty = !(l_ != [])) _)), H', ⟨by have := HJ4.out; first | omega | exact Nat.le_refl _⟩, ⟨by (with_reducible repeat (first | apply Kd.R_alloc | apply Kd.R_drewN | apply Kd.R_drew)); exact Kd.R_mono (Kd.R_far (p := ⟨gb241, 3, none⟩) (Kd.R_far (p := ⟨gb241, 2, none⟩) (Kd.R_far (p := ⟨gb241, 1, none⟩) (Kd.R_far (p := ⟨gb241, 0, none⟩) (Kd.R_mono HO_5.out (fun k_ hk => (⟨hk, hk.2⟩ : _ ∧ k_ ≠ gb241))) (fun _ hk => hk.2) (.int .i64 t237)) (fun _ hk => hk.2) (.int .i64 t238)) (fun _ hk => hk.2) (.int .i64 t239)) (fun _ hk => hk.2) (.string t240)) (fun _ hk => hk.1.2)⟩, ⟨by (with_reducible repeat (first | refine blk_drewN ?_ _ | refine blk_drew ?_ | refine blk_alloc ?_ _)); refine blk_put (cs := #[.int .i64 t237, .int .i64 t238, .int .i64 t239, .string (⟨#[]⟩ : ByteArray)]) ?_ 3 _ rfl; (with_reducible repeat (first | refine blk_drewN ?_ _ | refine blk_drew ?_ | refine blk_alloc ?_ _)); refine blk_put (cs := #[.int .i64 t237, .int .i64 t238, .int .i64 0, .string (⟨#[]⟩ : ByteArray)]) ?_ 2 _ rfl; (with_reducible repeat (first | refine blk_drewN ?_ _ | refine blk_drew ?_ | refine blk_alloc ?_ _)); refine blk_put (cs := #[.int .i64 t237, .int .i64 0, .int .i64 0, .string (⟨#[]⟩ : ByteArray)]) ?_ 1 _ rfl; (with_reducible repeat (first | refine blk_drewN ?_ _ | refine blk_drew ?_ | refine blk_alloc ?_ _)); refine blk_put (cs := #[.int .i64 0, .int .i64 0, .int .i64 0, .string (⟨#[]⟩ : ByteArray)]) ?_ 0 _ rfl; (with_reducible repeat (first | refine blk_drewN ?_ _ | refine blk_drew ?_ | refine blk_alloc ?_ _)); exact BK241.out⟩, ⟨by repeat (first | (with_reducible first | exact HB.out | apply below_alloc | apply pw_below_drewN | apply below_drew1 | refine below_set ?_ GE241.out) | exact HB.out)⟩⟩
        case rest =>
          clear HC17
          try clear c1
          try clear c2
          try clear p2
          try clear q2
          try clear hx2
          try clear c4
          try clear c6
          try clear p6
          try clear c7
          try clear c7b0
          try clear c8
          try clear c8b0
          try clear c9
          try clear c9b0
          try clear c10
          try clear c10b0
          try clear c12
          try clear c21
          try clear c22
          try clear c22b0
          try clear c22b1
          try clear c22b2
          try clear p22
          try clear q22
          try clear hx22
          try clear hcz21_0
          try clear hcz21_1
          try clear hcz21_2
          try clear hcz21_3
          try clear hcz23_0
          try clear hcz23_1
          try clear hcz23_2
          try clear hcz23_3
          try clear hfz21_0
          try clear hfz21_1
          try clear hfz21_2
          try clear hfz21_3
          try clear hfz23_0
          try clear hfz23_1
          try clear hfz23_2
          try clear hfz23_3
          try clear hx228_0
          try clear hx229_0
          try clear p2
          try clear p228
          try clear p229
          try clear p6
          try clear q2
          try clear q228
          try clear q229
          obtain ⟨kq, x8_16, rfl, HA, HJ16, HO_5, BK241, HB⟩ := hcut
          cases kq with
          | zero => exact absurd HA.out (by simp [transhumancelaw2_VerMax.j2])
          | succ kj16 =>
            have H := HA.out
            clear HA
            simp only [transhumancelaw2_VerMax.j2] at H
            have H' := Aside0.mk H
            clear H
            go_wp2
            go_loopg [8, 9] kj16 (fun kq v8 v9 w' => ∃ (x8_3 : Bool) (x9_3 : Int), v8 = .bool x8_3 ∧ v9 = .int .i64 x9_3 ∧ Aside0 (transhumancelaw2_VerMax.l1 kq x5_4 x8_3 x9_3 t237 t238 t239 t240 = some r) ∧ Aside0 (kq ≤ kj16) ∧ Aside0 (Kd.R k25 25 w' w.heap.size (fun k_ => k_ ≠ gb241) (.slice Ao18 x5_4.length co18) x5_4) ∧ Aside0 (w'.heap[gb241]? = some (.cells #[.int .i64 t237, .int .i64 t238, .int .i64 t239, .string t240] 25 (0, 0))) ∧ Aside0 (Below w.heap.size w w'))
            case atStart => exact ⟨(x8_16), (0), (by first | rfl | (simp; done) | (simp [*]; done) | (simp; exact (fun l_ : List UInt8 => by cases l_ <;> rfl : ∀ l_ : List UInt8, l_.isEmpty = !(l_ != [])) _)), (by first | rfl | (simp; done) | (simp [*]; done) | (simp; exact (fun l_ : List UInt8 => by cases l_ <;> rfl : ∀ l_ : List UInt8, l_.isEmpty = !(l_ != [])) _)), H', ⟨Nat.le_refl _⟩, ⟨by (with_reducible repeat (first | apply Kd.R_alloc | apply Kd.R_drewN | apply Kd.R_drew)); exact HO_5.out⟩, ⟨by (with_reducible repeat (first | refine blk_drewN ?_ _ | refine blk_drew ?_ | refine blk_alloc ?_ _)); exact BK241.out⟩, ⟨by repeat (first | (with_reducible first | exact HB.out | apply below_alloc | apply pw_below_drewN | apply below_drew1 | refine below_set ?_ GE241.out) | exact HB.out)⟩⟩
            case round =>
              clear H'
              try clear c1
              try clear c2
              try clear p2
              try clear q2
              try clear hx2
              try clear c4
              try clear c6
              try clear p6
              try clear c7
              try clear c7b0
              try clear c8
              try clear c8b0
              try clear c9
              try clear c9b0
              try clear c10
              try clear c10b0
              try clear c12
              try clear c21
              try clear c22
              try clear c22b0
              try clear c22b1
              try clear c22b2
              try clear p22
              try clear q22
              try clear hx22
              try clear hcz21_0
              try clear hcz21_1
              try clear hcz21_2
              try clear hcz21_3
              try clear hcz23_0
              try clear hcz23_1
              try clear hcz23_2
              try clear hcz23_3
              try clear hfz21_0
              try clear hfz21_1
              try clear hfz21_2
              try clear hfz21_3
              try clear hfz23_0
              try clear hfz23_1
              try clear hfz23_2
              try clear hfz23_3
              try clear hx228_0
              try clear hx229_0
              try clear p2
              try clear p22
              try clear p228
              try clear p229
              try clear p6
              try clear q2
              try clear q22
              try clear q228
              try clear q229
              obtain ⟨x8_3, x9_3, rfl, rfl, HA, HK3, HO_5, BK241, HB⟩ := hrel
              cases gk with
              | zero => exact absurd HA.out (by simp [transhumancelaw2_VerMax.l1])
              | succ k3 =>
                have H := HA.out
                clear HA
                simp only [transhumancelaw2_VerMax.l1] at H
                by_cases c24 : x9_3 < (x5_4.length : Int)
                · rw [if_pos c24] at H
                  have c24b0 : decide (x9_3 < (x5_4.length : Int)) = true := decide_eq_true c24
                  clear c24
                  by_cases c25 : x8_3 = true
                  · subst c25
                    have H1 : (if 0 ≤ x9_3 then ((ver_Cmp.f k3 ((rd_T25 x5_4 x9_3).f0) ((rd_T25 x5_4 x9_3).f1) ((rd_T25 x5_4 x9_3).f2) ((rd_T25 x5_4 x9_3).f3) t237 t238 t239 t240).bind fun t243 => (if t243 > 0 then (some false) else (transhumancelaw2_VerMax.l1 k3 x5_4 true (wrap64 (x9_3 + 1)) t237 t238 t239 t240))) else (none)) = some r := by rw [if_pos rfl] at H; exact H
                    clear H
                    have H := H1
                    clear H1
                    by_cases c26 : 0 ≤ x9_3
                    · rw [if_pos c26] at H
                      have c26b0 : decide (0 ≤ x9_3) = true := decide_eq_true c26
                      clear c26
                      replace H := Option.bind_eq_some_iff.mp H
                      obtain ⟨t243, A270, H⟩ := H
                      replace H : (if t243 > 0 then (some false) else (transhumancelaw2_VerMax.l1 k3 x5_4 true (wrap64 (x9_3 + 1)) t237 t238 t239 t240)) = some r := H
                      have A27 := Aside0.mk A270
                      clear A270
                      by_cases c28 : t243 > 0
                      · rw [if_pos c28] at H
                        have c28b0 : decide (0 < t243) = true := decide_eq_true c28
                        clear c28
                        obtain rfl := Option.some.inj H
                        try go_wp2
                        have n0_ := Aside0.mk (Kd.R_drew HO_5.out)
                        have n1_ := Aside0.mk (blk_drew BK241.out)
                        have n2_ := Aside0.mk (below_drew1 HB.out)
                        clear HO_5
                        clear BK241
                        clear HB
                        have HO_5 := n0_
                        have BK241 := n1_
                        have HB := n2_
                        clear n0_ n1_ n2_
                        refine start_ (n := 10) (S := fun w' => True) (ds := []) #[false, false, false, false, false, false, false, false, false, false] (by kernel_rfl) rfl rfl trivial (fun hHeld => ?_); refine with_tabW transhumancelaw2_VerMax.tab13 transhumancelaw2_VerMax.bits13 (fun HT_ HW_ => ?_)
                        generalize wr.drew = w29 at HO_5 BK241 HB hHeld ⊢
                        refine pure_ (i := 0) (N := some 56) (v := ?_) (a' := ?_) #[true, false, false, false, false, false, false, false, false, false] rfl rfl (any_of HT_.out (by kernel_rfl)) (fun _ _ _ h => h) (Or.inl ⟨by rfl, ?_⟩) ?_ ?_
                        rotate_left
                        · intro w'
                          go_simp
                          with_reducible rfl
                        rotate_left
                        · simp only [Act.put, List.setIfInBounds_toArray, List.set_cons_zero, List.set_cons_succ, i64_w, i32_w]
                          rfl
                        refine pure_ (i := 1) (N := some 57) (v := ?_) (a' := ?_) #[true, true, false, false, false, false, false, false, false, false] rfl rfl (any_of HT_.out (by kernel_rfl)) (fun _ _ _ h => h) (Or.inl ⟨by rfl, ?_⟩) ?_ ?_
                        rotate_left
                        · intro w'
                          go_simp
                          with_reducible rfl
                        rotate_left
                        · simp only [Act.put, List.setIfInBounds_toArray, List.set_cons_zero, List.set_cons_succ, i64_w, i32_w]
                          rfl
                        refine pure_ (i := 2) (N := some 58) (v := undef) (a' := ?_) #[true, true, true, false, false, false, false, false, false, false] rfl rfl (any_of HT_.out (by kernel_rfl)) (fun _ _ _ h => h) (Or.inr ⟨by rfl, rfl⟩) ?_ ?_
                        rotate_left
                        · simp only [Act.put, List.setIfInBounds_toArray, List.set_cons_zero, List.set_cons_succ, i64_w, i32_w]
                          rfl
                        refine pure_ (i := 3) (N := some 59) (v := undef) (a' := ?_) #[true, true, true, true, false, false, false, false, false, false] rfl rfl (any_of HT_.out (by kernel_rfl)) (fun _ _ _ h => h) (Or.inr ⟨by rfl, rfl⟩) ?_ ?_
                        rotate_left
                        · simp only [Act.put, List.setIfInBounds_toArray, List.set_cons_zero, List.set_cons_succ, i64_w, i32_w]
                          rfl
                        refine pure_ (i := 4) (N := some 60) (v := undef) (a' := ?_) #[true, true, true, true, true, false, false, false, false, false] rfl rfl (any_of HT_.out (by kernel_rfl)) (fun _ _ _ h => h) (Or.inr ⟨by rfl, rfl⟩) ?_ ?_
                        rotate_left
                        · simp only [Act.put, List.setIfInBounds_toArray, List.set_cons_zero, List.set_cons_succ, i64_w, i32_w]
                          rfl
                        refine pure_ (i := 5) (N := some 61) (v := undef) (a' := ?_) #[true, true, true, true, true, true, false, false, false, false] rfl rfl (any_of HT_.out (by kernel_rfl)) (fun _ _ _ h => h) (Or.inr ⟨by rfl, rfl⟩) ?_ ?_
                        rotate_left
                        · simp only [Act.put, List.setIfInBounds_toArray, List.set_cons_zero, List.set_cons_succ, i64_w, i32_w]
                          rfl
                        refine pure_ (i := 6) (N := some 62) (v := undef) (a' := ?_) #[true, true, true, true, true, true, true, false, false, false] rfl rfl (any_of HT_.out (by kernel_rfl)) (fun _ _ _ h => h) (Or.inr ⟨by rfl, rfl⟩) ?_ ?_
                        rotate_left
                        · simp only [Act.put, List.setIfInBounds_toArray, List.set_cons_zero, List.set_cons_succ, i64_w, i32_w]
                          rfl
                        refine pure_ (i := 7) (N := some 63) (v := undef) (a' := ?_) #[true, true, true, true, true, true, true, true, false, false] rfl rfl (any_of HT_.out (by kernel_rfl)) (fun _ _ _ h => h) (Or.inr ⟨by rfl, rfl⟩) ?_ ?_
                        rotate_left
                        · simp only [Act.put, List.setIfInBounds_toArray, List.set_cons_zero, List.set_cons_succ, i64_w, i32_w]
                          rfl
                        refine pure_ (i := 8) (N := some 64) (v := ?_) (a' := ?_) #[true, true, true, true, true, true, true, true, true, false] rfl rfl (any_of HT_.out (by kernel_rfl)) (fun _ _ _ h => h) (Or.inl ⟨by rfl, ?_⟩) ?_ ?_
                        rotate_left
                        · intro w'
                          go_simp
                          with_reducible rfl
                        rotate_left
                        · simp only [Act.put, List.setIfInBounds_toArray, List.set_cons_zero, List.set_cons_succ, i64_w, i32_w]
                          rfl
                        refine pure_ (i := 9) (N := some 8) (v := ?_) (a' := ?_) #[true, true, true, true, true, true, true, true, true, true] rfl rfl (any_of HT_.out (by kernel_rfl)) (fun _ _ _ h => h) (Or.inl ⟨by rfl, ?_⟩) ?_ ?_
                        rotate_left
                        · intro w'
                          go_simp
                          with_reducible rfl
                        rotate_left
                        · simp only [Act.put, List.setIfInBounds_toArray, List.set_cons_zero, List.set_cons_succ, i64_w, i32_w]
                          rfl
                        refine done_ (done_of HT_.out (by kernel_rfl)) ?_
                        try go_wp2
                        have n0_ := Aside0.mk (Kd.R_drew HO_5.out)
                        have n1_ := Aside0.mk (blk_drew BK241.out)
                        have n2_ := Aside0.mk (below_drew1 HB.out)
                        clear HO_5
                        clear BK241
                        clear HB
                        have HO_5 := n0_
                        have BK241 := n1_
                        have HB := n2_
                        clear n0_ n1_ n2_
                        have p242 : 0 ≤ (x9_3 : Int) := of_decide_eq_true (by first | (with_reducible assumption) | assumption)
                        have q242 : x9_3 < (x5_4.length : Int) := of_decide_eq_true (by first | (with_reducible assumption) | assumption)
                        obtain ⟨ad242, e242, hx242_0, hx242_1, hx242_2, hx242_3⟩ := at_T25 (Kd.R_reads' HO_5.out).2.2 x9_3 p242 q242
                        cases e242
                        replace p242 := eq_true p242
                        replace q242 := eq_true q242
                        refine start_ (n := 7) (S := fun w' => w'.cell? ⟨gb241, 0, none⟩ = some (.int .i64 t237) ∧ w'.cell? ⟨gb241, 1, none⟩ = some (.int .i64 t238) ∧ w'.cell? ⟨gb241, 2, none⟩ = some (.int .i64 t239) ∧ w'.cell? ⟨gb241, 3, none⟩ = some (.string t240) ∧ w'.cell? (ad242.add ((x9_3).toNat * 4)) = some (.int .i64 ((rd_T25 x5_4 x9_3).f0)) ∧ w'.cell? ⟨(ad242.add ((x9_3).toNat * 4)).block, (ad242.add ((x9_3).toNat * 4)).off + 1, none⟩ = some (.int .i64 ((rd_T25 x5_4 x9_3).f1)) ∧ w'.cell? ⟨(ad242.add ((x9_3).toNat * 4)).block, (ad242.add ((x9_3).toNat * 4)).off + 2, none⟩ = some (.int .i64 ((rd_T25 x5_4 x9_3).f2)) ∧ w'.cell? ⟨(ad242.add ((x9_3).toNat * 4)).block, (ad242.add ((x9_3).toNat * 4)).off + 3, none⟩ = some (.string ((rd_T25 x5_4 x9_3).f3))) (ds := []) #[false, false, false, false, false, false, false] (by kernel_rfl) rfl rfl ⟨(blk_cell BK241.out 0).trans rfl, (blk_cell BK241.out 1).trans rfl, (blk_cell BK241.out 2).trans rfl, (blk_cell BK241.out 3).trans rfl, hx242_0, hx242_1, hx242_2, hx242_3⟩ (fun hHeld => ?_)
                        generalize w29.drew = w30 at HO_5 BK241 HB hx242_0 hx242_1 hx242_2 hx242_3 hHeld ⊢
                        refine pure_ (i := 0) (N := some 65) (v := ?_) (a' := ?_) #[true, false, false, false, false, false, false] rfl rfl (by kernel_rfl) (fun _ _ _ h => h) (Or.inl ⟨by rfl, ?_⟩) ?_ ?_
                        rotate_left
                        · intro w'
                          go_simp
                          with_reducible rfl
                        rotate_left
                        · simp only [Act.put, List.setIfInBounds_toArray, List.set_cons_zero, List.set_cons_succ, i64_w, i32_w]
                          rfl
                        refine pure_ (i := 1) (N := some 66) (v := ?_) (a' := ?_) #[true, true, false, false, false, false, false] rfl rfl (by kernel_rfl) (fun _ _ _ h => h) (Or.inl ⟨by rfl, ?_⟩) ?_ ?_
                        rotate_left
                        · intro w'
                          go_simp
                          with_reducible rfl
                        rotate_left
                        · simp only [Act.put, List.setIfInBounds_toArray, List.set_cons_zero, List.set_cons_succ, i64_w, i32_w]
                          rfl
                        refine pure_ (i := 2) (N := some 67) (v := ?_) (a' := ?_) #[true, true, true, false, false, false, false] rfl rfl (by kernel_rfl) (fun _ _ _ h => h) (Or.inl ⟨by rfl, ?_⟩) ?_ ?_
                        rotate_left
                        · intro w'
                          go_simp
                          with_reducible rfl
                        rotate_left
                        · simp only [Act.put, List.setIfInBounds_toArray, List.set_cons_zero, List.set_cons_succ, i64_w, i32_w]
                          rfl
                        refine take_ (i := 3) (N := some 68) (v := ?_) (a' := ?_) #[true, true, true, true, false, false, false] rfl rfl (by kernel_rfl) (fun _ _ _ h => h) (Or.inl ⟨by rfl, ?_⟩) hHeld ?_ ?_
                        rotate_left
                        · rintro w' ⟨s0, s1, s2, s3, s4, s5, s6, s7⟩
                          go_simp
                          with_reducible rfl
                        rotate_left
                        · simp only [Act.put, List.setIfInBounds_toArray, List.set_cons_zero, List.set_cons_succ, i64_w, i32_w]
                          rfl
                        refine take_ (i := 4) (N := some 69) (v := ?_) (a' := ?_) #[true, true, true, true, true, false, false] rfl rfl (by kernel_rfl) (fun _ _ _ h => h) (Or.inl ⟨by rfl, ?_⟩) hHeld ?_ ?_
                        rotate_left
                        · rintro w' ⟨s0, s1, s2, s3, s4, s5, s6, s7⟩
                          go_simp
                          with_reducible rfl
                        rotate_left
                        · simp only [Act.put, List.setIfInBounds_toArray, List.set_cons_zero, List.set_cons_succ, i64_w, i32_w]
                          rfl
                        refine one_ (i := 5) (N := some 70) #[true, true, true, true, true, true, false] rfl rfl (by kernel_rfl) (by decide) (fun K hK => ?_)
                        refine goes_ Tryz.func19 (by kernel_rfl) rfl #[.agg #[.int .i64 ((rd_T25 x5_4 x9_3).f0), .int .i64 ((rd_T25 x5_4 x9_3).f1), .int .i64 ((rd_T25 x5_4 x9_3).f2), .string ((rd_T25 x5_4 x9_3).f3)], .agg #[.int .i64 t237, .int .i64 t238, .int .i64 t239, .string t240]] (by rfl) rfl rfl (by (try simp only [List.map_toArray, List.map_cons, List.map_nil]); first | done | rfl | (simp only [List.length_drop, List.length_take]; rfl)) ?_
                        with_reducible refine (ver_Cmp.calls k3 ((rd_T25 x5_4 x9_3).f0) ((rd_T25 x5_4 x9_3).f1) ((rd_T25 x5_4 x9_3).f2) ((rd_T25 x5_4 x9_3).f3) t237 t238 t239 t240 t243 _ ?side1 A27.out).mono ?_
                        (case side1 => exact GL.below0 hG (by repeat (first | (with_reducible first | exact HB.out | apply below_alloc | apply pw_below_drewN | apply below_drew1 | refine below_set ?_ GE241.out) | exact HB.out)))
                        rintro e w31 ⟨rfl, hb⟩
                        have HS4_ := (hb.cell (World.block_lt_of_cell? _ _ (hHeld.2.2.2.2.1))).trans (hHeld.2.2.2.2.1)
                        have HS5_ := (hb.cell (World.block_lt_of_cell? _ _ (hHeld.2.2.2.2.2.1))).trans (hHeld.2.2.2.2.2.1)
                        have HS6_ := (hb.cell (World.block_lt_of_cell? _ _ (hHeld.2.2.2.2.2.2.1))).trans (hHeld.2.2.2.2.2.2.1)
                        have HS7_ := (hb.cell (World.block_lt_of_cell? _ _ (hHeld.2.2.2.2.2.2.2))).trans (hHeld.2.2.2.2.2.2.2)
                        refine ⟨_, rfl, ?_⟩
                        have n0_ := Aside0.mk (Kd.R_below (by (with_reducible repeat (first | apply Kd.R_alloc | apply Kd.R_drewN | apply Kd.R_drew)); exact HO_5.out) hb)
                        have n1_ := Aside0.mk (blk_below (g := gb241) (o := .cells #[.int .i64 t237, .int .i64 t238, .int .i64 t239, .string t240] 25 (0, 0)) (by (with_reducible repeat (first | refine blk_drewN ?_ _ | refine blk_drew ?_ | refine blk_alloc ?_ _)); exact BK241.out) hb)
                        have n2_ := Aside0.mk (below_step (by repeat (first | (with_reducible first | exact HB.out | apply below_alloc | apply pw_below_drewN | apply below_drew1 | refine below_set ?_ GE241.out) | exact HB.out)) hb)
                        clear HO_5
                        clear BK241
                        clear HB
                        have HO_5 := n0_
                        have BK241 := n1_
                        have HB := n2_
                        clear n0_ n1_ n2_
                        (try clear hb)
                        (try clear hb2)
                        (try clear hk)
                        (try clear hi)
                        refine hK.out _ _ ⟨(blk_cell BK241.out 0).trans rfl, (blk_cell BK241.out 1).trans rfl, (blk_cell BK241.out 2).trans rfl, (blk_cell BK241.out 3).trans rfl, HS4_, HS5_, HS6_, HS7_⟩ (fun hHeld => ?_)
                        clear hK K
                        refine norm_ (a' := ?_) ?_ ?_
                        rotate_left
                        · show Act.put _ (some 70) _ = _
                          simp only [Act.put, List.setIfInBounds_toArray, List.set_cons_zero, List.set_cons_succ, i64_w, i32_w]
                          rfl
                        refine pure_ (i := 6) (N := some 71) (v := ?_) (a' := ?_) #[true, true, true, true, true, true, true] rfl rfl (by kernel_rfl) (fun _ _ _ h => h) (Or.inl ⟨by rfl, ?_⟩) ?_ ?_
                        rotate_left
                        · intro w'
                          go_simp
                          with_reducible rfl
                        rotate_left
                        · simp only [Act.put, List.setIfInBounds_toArray, List.set_cons_zero, List.set_cons_succ, i64_w, i32_w]
                          rfl
                        refine done_ (by kernel_rfl) ?_
                        try go_wp2
                        go_ret
                        exact ⟨by first | rfl | (simp [errW_none, errW_some] <;> rfl) | (simp [*, errW_none, errW_some] <;> rfl), by repeat (first | (with_reducible first | exact HB.out | apply below_alloc | apply pw_below_drewN | apply below_drew1 | refine below_set ?_ GE241.out) | exact HB.out)⟩
                      · rw [if_neg c28] at H
                        have c28b0 : decide (0 < t243) = false := decide_eq_false c28
                        clear c28
                        have H' := Aside0.mk H
                        clear H
                        try go_wp2
                        have n0_ := Aside0.mk (Kd.R_drew HO_5.out)
                        have n1_ := Aside0.mk (blk_drew BK241.out)
                        have n2_ := Aside0.mk (below_drew1 HB.out)
                        clear HO_5
                        clear BK241
                        clear HB
                        have HO_5 := n0_
                        have BK241 := n1_
                        have HB := n2_
                        clear n0_ n1_ n2_
                        refine start_ (n := 10) (S := fun w' => True) (ds := []) #[false, false, false, false, false, false, false, false, false, false] (by kernel_rfl) rfl rfl trivial (fun hHeld => ?_); refine with_tabW transhumancelaw2_VerMax.tab13 transhumancelaw2_VerMax.bits13 (fun HT_ HW_ => ?_)
                        generalize wr.drew = w32 at HO_5 BK241 HB hHeld ⊢
                        refine pure_ (i := 0) (N := some 56) (v := ?_) (a' := ?_) #[true, false, false, false, false, false, false, false, false, false] rfl rfl (any_of HT_.out (by kernel_rfl)) (fun _ _ _ h => h) (Or.inl ⟨by rfl, ?_⟩) ?_ ?_
                        rotate_left
                        · intro w'
                          go_simp
                          with_reducible rfl
                        rotate_left
                        · simp only [Act.put, List.setIfInBounds_toArray, List.set_cons_zero, List.set_cons_succ, i64_w, i32_w]
                          rfl
                        refine pure_ (i := 1) (N := some 57) (v := ?_) (a' := ?_) #[true, true, false, false, false, false, false, false, false, false] rfl rfl (any_of HT_.out (by kernel_rfl)) (fun _ _ _ h => h) (Or.inl ⟨by rfl, ?_⟩) ?_ ?_
                        rotate_left
                        · intro w'
                          go_simp
                          with_reducible rfl
                        rotate_left
                        · simp only [Act.put, List.setIfInBounds_toArray, List.set_cons_zero, List.set_cons_succ, i64_w, i32_w]
                          rfl
                        refine pure_ (i := 2) (N := some 58) (v := undef) (a' := ?_) #[true, true, true, false, false, false, false, false, false, false] rfl rfl (any_of HT_.out (by kernel_rfl)) (fun _ _ _ h => h) (Or.inr ⟨by rfl, rfl⟩) ?_ ?_
                        rotate_left
                        · simp only [Act.put, List.setIfInBounds_toArray, List.set_cons_zero, List.set_cons_succ, i64_w, i32_w]
                          rfl
                        refine pure_ (i := 3) (N := some 59) (v := undef) (a' := ?_) #[true, true, true, true, false, false, false, false, false, false] rfl rfl (any_of HT_.out (by kernel_rfl)) (fun _ _ _ h => h) (Or.inr ⟨by rfl, rfl⟩) ?_ ?_
                        rotate_left
                        · simp only [Act.put, List.setIfInBounds_toArray, List.set_cons_zero, List.set_cons_succ, i64_w, i32_w]
                          rfl
                        refine pure_ (i := 4) (N := some 60) (v := undef) (a' := ?_) #[true, true, true, true, true, false, false, false, false, false] rfl rfl (any_of HT_.out (by kernel_rfl)) (fun _ _ _ h => h) (Or.inr ⟨by rfl, rfl⟩) ?_ ?_
                        rotate_left
                        · simp only [Act.put, List.setIfInBounds_toArray, List.set_cons_zero, List.set_cons_succ, i64_w, i32_w]
                          rfl
                        refine pure_ (i := 5) (N := some 61) (v := undef) (a' := ?_) #[true, true, true, true, true, true, false, false, false, false] rfl rfl (any_of HT_.out (by kernel_rfl)) (fun _ _ _ h => h) (Or.inr ⟨by rfl, rfl⟩) ?_ ?_
                        rotate_left
                        · simp only [Act.put, List.setIfInBounds_toArray, List.set_cons_zero, List.set_cons_succ, i64_w, i32_w]
                          rfl
                        refine pure_ (i := 6) (N := some 62) (v := undef) (a' := ?_) #[true, true, true, true, true, true, true, false, false, false] rfl rfl (any_of HT_.out (by kernel_rfl)) (fun _ _ _ h => h) (Or.inr ⟨by rfl, rfl⟩) ?_ ?_
                        rotate_left
                        · simp only [Act.put, List.setIfInBounds_toArray, List.set_cons_zero, List.set_cons_succ, i64_w, i32_w]
                          rfl
                        refine pure_ (i := 7) (N := some 63) (v := undef) (a' := ?_) #[true, true, true, true, true, true, true, true, false, false] rfl rfl (any_of HT_.out (by kernel_rfl)) (fun _ _ _ h => h) (Or.inr ⟨by rfl, rfl⟩) ?_ ?_
                        rotate_left
                        · simp only [Act.put, List.setIfInBounds_toArray, List.set_cons_zero, List.set_cons_succ, i64_w, i32_w]
                          rfl
                        refine pure_ (i := 8) (N := some 64) (v := ?_) (a' := ?_) #[true, true, true, true, true, true, true, true, true, false] rfl rfl (any_of HT_.out (by kernel_rfl)) (fun _ _ _ h => h) (Or.inl ⟨by rfl, ?_⟩) ?_ ?_
                        rotate_left
                        · intro w'
                          go_simp
                          with_reducible rfl
                        rotate_left
                        · simp only [Act.put, List.setIfInBounds_toArray, List.set_cons_zero, List.set_cons_succ, i64_w, i32_w]
                          rfl
                        refine pure_ (i := 9) (N := some 8) (v := ?_) (a' := ?_) #[true, true, true, true, true, true, true, true, true, true] rfl rfl (any_of HT_.out (by kernel_rfl)) (fun _ _ _ h => h) (Or.inl ⟨by rfl, ?_⟩) ?_ ?_
                        rotate_left
                        · intro w'
                          go_simp
                          with_reducible rfl
                        rotate_left
                        · simp only [Act.put, List.setIfInBounds_toArray, List.set_cons_zero, List.set_cons_succ, i64_w, i32_w]
                          rfl
                        refine done_ (done_of HT_.out (by kernel_rfl)) ?_
                        try go_wp2
                        have n0_ := Aside0.mk (Kd.R_drew HO_5.out)
                        have n1_ := Aside0.mk (blk_drew BK241.out)
                        have n2_ := Aside0.mk (below_drew1 HB.out)
                        clear HO_5
                        clear BK241
                        clear HB
                        have HO_5 := n0_
                        have BK241 := n1_
                        have HB := n2_
                        clear n0_ n1_ n2_
                        have p242 : 0 ≤ (x9_3 : Int) := of_decide_eq_true (by first | (with_reducible assumption) | assumption)
                        have q242 : x9_3 < (x5_4.length : Int) := of_decide_eq_true (by first | (with_reducible assumption) | assumption)
                        obtain ⟨ad242, e242, hx242_0, hx242_1, hx242_2, hx242_3⟩ := at_T25 (Kd.R_reads' HO_5.out).2.2 x9_3 p242 q242
                        cases e242
                        replace p242 := eq_true p242
                        replace q242 := eq_true q242
                        refine start_ (n := 7) (S := fun w' => w'.cell? ⟨gb241, 0, none⟩ = some (.int .i64 t237) ∧ w'.cell? ⟨gb241, 1, none⟩ = some (.int .i64 t238) ∧ w'.cell? ⟨gb241, 2, none⟩ = some (.int .i64 t239) ∧ w'.cell? ⟨gb241, 3, none⟩ = some (.string t240) ∧ w'.cell? (ad242.add ((x9_3).toNat * 4)) = some (.int .i64 ((rd_T25 x5_4 x9_3).f0)) ∧ w'.cell? ⟨(ad242.add ((x9_3).toNat * 4)).block, (ad242.add ((x9_3).toNat * 4)).off + 1, none⟩ = some (.int .i64 ((rd_T25 x5_4 x9_3).f1)) ∧ w'.cell? ⟨(ad242.add ((x9_3).toNat * 4)).block, (ad242.add ((x9_3).toNat * 4)).off + 2, none⟩ = some (.int .i64 ((rd_T25 x5_4 x9_3).f2)) ∧ w'.cell? ⟨(ad242.add ((x9_3).toNat * 4)).block, (ad242.add ((x9_3).toNat * 4)).off + 3, none⟩ = some (.string ((rd_T25 x5_4 x9_3).f3))) (ds := []) #[false, false, false, false, false, false, false] (by kernel_rfl) rfl rfl ⟨(blk_cell BK241.out 0).trans rfl, (blk_cell BK241.out 1).trans rfl, (blk_cell BK241.out 2).trans rfl, (blk_cell BK241.out 3).trans rfl, hx242_0, hx242_1, hx242_2, hx242_3⟩ (fun hHeld => ?_)
                        generalize w32.drew = w33 at HO_5 BK241 HB hx242_0 hx242_1 hx242_2 hx242_3 hHeld ⊢
                        refine pure_ (i := 0) (N := some 65) (v := ?_) (a' := ?_) #[true, false, false, false, false, false, false] rfl rfl (by kernel_rfl) (fun _ _ _ h => h) (Or.inl ⟨by rfl, ?_⟩) ?_ ?_
                        rotate_left
                        · intro w'
                          go_simp
                          with_reducible rfl
                        rotate_left
                        · simp only [Act.put, List.setIfInBounds_toArray, List.set_cons_zero, List.set_cons_succ, i64_w, i32_w]
                          rfl
                        refine pure_ (i := 1) (N := some 66) (v := ?_) (a' := ?_) #[true, true, false, false, false, false, false] rfl rfl (by kernel_rfl) (fun _ _ _ h => h) (Or.inl ⟨by rfl, ?_⟩) ?_ ?_
                        rotate_left
                        · intro w'
                          go_simp
                          with_reducible rfl
                        rotate_left
                        · simp only [Act.put, List.setIfInBounds_toArray, List.set_cons_zero, List.set_cons_succ, i64_w, i32_w]
                          rfl
                        refine pure_ (i := 2) (N := some 67) (v := ?_) (a' := ?_) #[true, true, true, false, false, false, false] rfl rfl (by kernel_rfl) (fun _ _ _ h => h) (Or.inl ⟨by rfl, ?_⟩) ?_ ?_
                        rotate_left
                        · intro w'
                          go_simp
                          with_reducible rfl
                        rotate_left
                        · simp only [Act.put, List.setIfInBounds_toArray, List.set_cons_zero, List.set_cons_succ, i64_w, i32_w]
                          rfl
                        refine take_ (i := 3) (N := some 68) (v := ?_) (a' := ?_) #[true, true, true, true, false, false, false] rfl rfl (by kernel_rfl) (fun _ _ _ h => h) (Or.inl ⟨by rfl, ?_⟩) hHeld ?_ ?_
                        rotate_left
                        · rintro w' ⟨s0, s1, s2, s3, s4, s5, s6, s7⟩
                          go_simp
                          with_reducible rfl
                        rotate_left
                        · simp only [Act.put, List.setIfInBounds_toArray, List.set_cons_zero, List.set_cons_succ, i64_w, i32_w]
                          rfl
                        refine take_ (i := 4) (N := some 69) (v := ?_) (a' := ?_) #[true, true, true, true, true, false, false] rfl rfl (by kernel_rfl) (fun _ _ _ h => h) (Or.inl ⟨by rfl, ?_⟩) hHeld ?_ ?_
                        rotate_left
                        · rintro w' ⟨s0, s1, s2, s3, s4, s5, s6, s7⟩
                          go_simp
                          with_reducible rfl
                        rotate_left
                        · simp only [Act.put, List.setIfInBounds_toArray, List.set_cons_zero, List.set_cons_succ, i64_w, i32_w]
                          rfl
                        refine one_ (i := 5) (N := some 70) #[true, true, true, true, true, true, false] rfl rfl (by kernel_rfl) (by decide) (fun K hK => ?_)
                        refine goes_ Tryz.func19 (by kernel_rfl) rfl #[.agg #[.int .i64 ((rd_T25 x5_4 x9_3).f0), .int .i64 ((rd_T25 x5_4 x9_3).f1), .int .i64 ((rd_T25 x5_4 x9_3).f2), .string ((rd_T25 x5_4 x9_3).f3)], .agg #[.int .i64 t237, .int .i64 t238, .int .i64 t239, .string t240]] (by rfl) rfl rfl (by (try simp only [List.map_toArray, List.map_cons, List.map_nil]); first | done | rfl | (simp only [List.length_drop, List.length_take]; rfl)) ?_
                        with_reducible refine (ver_Cmp.calls k3 ((rd_T25 x5_4 x9_3).f0) ((rd_T25 x5_4 x9_3).f1) ((rd_T25 x5_4 x9_3).f2) ((rd_T25 x5_4 x9_3).f3) t237 t238 t239 t240 t243 _ ?side1 A27.out).mono ?_
                        (case side1 => exact GL.below0 hG (by repeat (first | (with_reducible first | exact HB.out | apply below_alloc | apply pw_below_drewN | apply below_drew1 | refine below_set ?_ GE241.out) | exact HB.out)))
                        rintro e w34 ⟨rfl, hb⟩
                        have HS4_ := (hb.cell (World.block_lt_of_cell? _ _ (hHeld.2.2.2.2.1))).trans (hHeld.2.2.2.2.1)
                        have HS5_ := (hb.cell (World.block_lt_of_cell? _ _ (hHeld.2.2.2.2.2.1))).trans (hHeld.2.2.2.2.2.1)
                        have HS6_ := (hb.cell (World.block_lt_of_cell? _ _ (hHeld.2.2.2.2.2.2.1))).trans (hHeld.2.2.2.2.2.2.1)
                        have HS7_ := (hb.cell (World.block_lt_of_cell? _ _ (hHeld.2.2.2.2.2.2.2))).trans (hHeld.2.2.2.2.2.2.2)
                        refine ⟨_, rfl, ?_⟩
                        have n0_ := Aside0.mk (Kd.R_below (by (with_reducible repeat (first | apply Kd.R_alloc | apply Kd.R_drewN | apply Kd.R_drew)); exact HO_5.out) hb)
                        have n1_ := Aside0.mk (blk_below (g := gb241) (o := .cells #[.int .i64 t237, .int .i64 t238, .int .i64 t239, .string t240] 25 (0, 0)) (by (with_reducible repeat (first | refine blk_drewN ?_ _ | refine blk_drew ?_ | refine blk_alloc ?_ _)); exact BK241.out) hb)
                        have n2_ := Aside0.mk (below_step (by repeat (first | (with_reducible first | exact HB.out | apply below_alloc | apply pw_below_drewN | apply below_drew1 | refine below_set ?_ GE241.out) | exact HB.out)) hb)
                        clear HO_5
                        clear BK241
                        clear HB
                        have HO_5 := n0_
                        have BK241 := n1_
                        have HB := n2_
                        clear n0_ n1_ n2_
                        (try clear hb)
                        (try clear hb2)
                        (try clear hk)
                        (try clear hi)
                        refine hK.out _ _ ⟨(blk_cell BK241.out 0).trans rfl, (blk_cell BK241.out 1).trans rfl, (blk_cell BK241.out 2).trans rfl, (blk_cell BK241.out 3).trans rfl, HS4_, HS5_, HS6_, HS7_⟩ (fun hHeld => ?_)
                        clear hK K
                        refine norm_ (a' := ?_) ?_ ?_
                        rotate_left
                        · show Act.put _ (some 70) _ = _
                          simp only [Act.put, List.setIfInBounds_toArray, List.set_cons_zero, List.set_cons_succ, i64_w, i32_w]
                          rfl
                        refine pure_ (i := 6) (N := some 71) (v := ?_) (a' := ?_) #[true, true, true, true, true, true, true] rfl rfl (by kernel_rfl) (fun _ _ _ h => h) (Or.inl ⟨by rfl, ?_⟩) ?_ ?_
                        rotate_left
                        · intro w'
                          go_simp
                          with_reducible rfl
                        rotate_left
                        · simp only [Act.put, List.setIfInBounds_toArray, List.set_cons_zero, List.set_cons_succ, i64_w, i32_w]
                          rfl
                        refine done_ (by kernel_rfl) ?_
                        try go_wp2
                        go_roundg k3
                        case measure => have := HJ4.out; have := HJ16.out; have := HK3.out; omega
                        case rel => exact ⟨(true), (wrap64 (x9_3 + 1)), (by first | rfl | (simp; done) | (simp [*]; done) | (simp; exact (fun l_ : List UInt8 => by cases l_ <;> rfl : ∀ l_ : List UInt8, l_.isEmpty = !(l_ != [])) _)), (by first | rfl | (simp; done) | (simp [*]; done) | (simp; exact (fun l_ : List UInt8 => by cases l_ <;> rfl : ∀ l_ : List UInt8, l_.isEmpty = !(l_ != [])) _)), H', ⟨by have := HJ4.out; have := HJ16.out; have := HK3.out; omega⟩, ⟨by (with_reducible repeat (first | apply Kd.R_alloc | apply Kd.R_drewN | apply Kd.R_drew)); exact HO_5.out⟩, ⟨by (with_reducible repeat (first | refine blk_drewN ?_ _ | refine blk_drew ?_ | refine blk_alloc ?_ _)); exact BK241.out⟩, ⟨by repeat (first | (with_reducible first | exact HB.out | apply below_alloc | apply pw_below_drewN | apply below_drew1 | refine below_set ?_ GE241.out) | exact HB.out)⟩⟩
                    · rw [if_neg c26] at H
                      exact absurd H (by simp)
                  · replace c25 := Bool.eq_false_iff.mpr c25
                    subst c25
                    have H1 : (if 0 ≤ x9_3 then ((ver_Cmp.f k3 ((rd_T25 x5_4 x9_3).f0) ((rd_T25 x5_4 x9_3).f1) ((rd_T25 x5_4 x9_3).f2) ((rd_T25 x5_4 x9_3).f3) t237 t238 t239 t240).bind fun t246 => (if t246 > 0 then (some false) else (transhumancelaw2_VerMax.l1 k3 x5_4 (((rd_T25 x5_4 x9_3).f0) == t237 && (((rd_T25 x5_4 x9_3).f1) == t238 && (((rd_T25 x5_4 x9_3).f2) == t239 && ((((rd_T25 x5_4 x9_3).f3).toList) == t240.toList)))) (wrap64 (x9_3 + 1)) t237 t238 t239 t240))) else (none)) = some r := by rw [if_neg (show ¬ (false = true) by decide)] at H; exact H
                    clear H
                    have H := H1
                    clear H1
                    by_cases c35 : 0 ≤ x9_3
                    · rw [if_pos c35] at H
                      have c35b0 : decide (0 ≤ x9_3) = true := decide_eq_true c35
                      clear c35
                      replace H := Option.bind_eq_some_iff.mp H
                      obtain ⟨t246, A360, H⟩ := H
                      replace H : (if t246 > 0 then (some false) else (transhumancelaw2_VerMax.l1 k3 x5_4 (((rd_T25 x5_4 x9_3).f0) == t237 && (((rd_T25 x5_4 x9_3).f1) == t238 && (((rd_T25 x5_4 x9_3).f2) == t239 && ((((rd_T25 x5_4 x9_3).f3).toList) == t240.toList)))) (wrap64 (x9_3 + 1)) t237 t238 t239 t240)) = some r := H
                      have A36 := Aside0.mk A360
                      clear A360
                      by_cases c37 : t246 > 0
                      · rw [if_pos c37] at H
                        have c37b0 : decide (0 < t246) = true := decide_eq_true c37
                        clear c37
                        obtain rfl := Option.some.inj H
                        try go_wp2
                        have n0_ := Aside0.mk (Kd.R_drew HO_5.out)
                        have n1_ := Aside0.mk (blk_drew BK241.out)
                        have n2_ := Aside0.mk (below_drew1 HB.out)
                        clear HO_5
                        clear BK241
                        clear HB
                        have HO_5 := n0_
                        have BK241 := n1_
                        have HB := n2_
                        clear n0_ n1_ n2_
                        have p244 : 0 ≤ (x9_3 : Int) := of_decide_eq_true (by first | (with_reducible assumption) | assumption)
                        have q244 : x9_3 < (x5_4.length : Int) := of_decide_eq_true (by first | (with_reducible assumption) | assumption)
                        obtain ⟨ad244, e244, hx244_0, hx244_1, hx244_2, hx244_3⟩ := at_T25 (Kd.R_reads' HO_5.out).2.2 x9_3 p244 q244
                        cases e244
                        replace p244 := eq_true p244
                        replace q244 := eq_true q244
                        refine start_ (n := 10) (S := fun w' => w'.cell? ⟨gb241, 0, none⟩ = some (.int .i64 t237) ∧ w'.cell? ⟨gb241, 1, none⟩ = some (.int .i64 t238) ∧ w'.cell? ⟨gb241, 2, none⟩ = some (.int .i64 t239) ∧ w'.cell? ⟨gb241, 3, none⟩ = some (.string t240) ∧ w'.cell? (ad244.add ((x9_3).toNat * 4)) = some (.int .i64 ((rd_T25 x5_4 x9_3).f0)) ∧ w'.cell? ⟨(ad244.add ((x9_3).toNat * 4)).block, (ad244.add ((x9_3).toNat * 4)).off + 1, none⟩ = some (.int .i64 ((rd_T25 x5_4 x9_3).f1)) ∧ w'.cell? ⟨(ad244.add ((x9_3).toNat * 4)).block, (ad244.add ((x9_3).toNat * 4)).off + 2, none⟩ = some (.int .i64 ((rd_T25 x5_4 x9_3).f2)) ∧ w'.cell? ⟨(ad244.add ((x9_3).toNat * 4)).block, (ad244.add ((x9_3).toNat * 4)).off + 3, none⟩ = some (.string ((rd_T25 x5_4 x9_3).f3))) (ds := []) #[false, false, false, false, false, false, false, false, false, false] (by kernel_rfl) rfl rfl ⟨(blk_cell BK241.out 0).trans rfl, (blk_cell BK241.out 1).trans rfl, (blk_cell BK241.out 2).trans rfl, (blk_cell BK241.out 3).trans rfl, hx244_0, hx244_1, hx244_2, hx244_3⟩ (fun hHeld => ?_); refine with_tabW transhumancelaw2_VerMax.tab13 transhumancelaw2_VerMax.bits13 (fun HT_ HW_ => ?_)
                        generalize wr.drew = w38 at HO_5 BK241 HB hx244_0 hx244_1 hx244_2 hx244_3 hHeld ⊢
                        refine pure_ (i := 0) (N := some 56) (v := ?_) (a' := ?_) #[true, false, false, false, false, false, false, false, false, false] rfl rfl (any_of HT_.out (by kernel_rfl)) (fun _ _ _ h => h) (Or.inl ⟨by rfl, ?_⟩) ?_ ?_
                        rotate_left
                        · intro w'
                          go_simp
                          with_reducible rfl
                        rotate_left
                        · simp only [Act.put, List.setIfInBounds_toArray, List.set_cons_zero, List.set_cons_succ, i64_w, i32_w]
                          rfl
                        refine pure_ (i := 1) (N := some 57) (v := ?_) (a' := ?_) #[true, true, false, false, false, false, false, false, false, false] rfl rfl (any_of HT_.out (by kernel_rfl)) (fun _ _ _ h => h) (Or.inl ⟨by rfl, ?_⟩) ?_ ?_
                        rotate_left
                        · intro w'
                          go_simp
                          with_reducible rfl
                        rotate_left
                        · simp only [Act.put, List.setIfInBounds_toArray, List.set_cons_zero, List.set_cons_succ, i64_w, i32_w]
                          rfl
                        refine pure_ (i := 2) (N := some 58) (v := ?_) (a' := ?_) #[true, true, true, false, false, false, false, false, false, false] rfl rfl (any_of HT_.out (by kernel_rfl)) (fun _ _ _ h => h) (Or.inl ⟨by rfl, ?_⟩) ?_ ?_
                        rotate_left
                        · intro w'
                          go_simp
                          with_reducible rfl
                        rotate_left
                        · simp only [Act.put, List.setIfInBounds_toArray, List.set_cons_zero, List.set_cons_succ, i64_w, i32_w]
                          rfl
                        refine pure_ (i := 3) (N := some 59) (v := ?_) (a' := ?_) #[true, true, true, true, false, false, false, false, false, false] rfl rfl (any_of HT_.out (by kernel_rfl)) (fun _ _ _ h => h) (Or.inl ⟨by rfl, ?_⟩) ?_ ?_
                        rotate_left
                        · intro w'
                          go_simp
                          with_reducible rfl
                        rotate_left
                        · simp only [Act.put, List.setIfInBounds_toArray, List.set_cons_zero, List.set_cons_succ, i64_w, i32_w]
                          rfl
                        refine pure_ (i := 4) (N := some 60) (v := ?_) (a' := ?_) #[true, true, true, true, true, false, false, false, false, false] rfl rfl (any_of HT_.out (by kernel_rfl)) (fun _ _ _ h => h) (Or.inl ⟨by rfl, ?_⟩) ?_ ?_
                        rotate_left
                        · intro w'
                          go_simp
                          with_reducible rfl
                        rotate_left
                        · simp only [Act.put, List.setIfInBounds_toArray, List.set_cons_zero, List.set_cons_succ, i64_w, i32_w]
                          rfl
                        refine take_ (i := 5) (N := some 61) (v := ?_) (a' := ?_) #[true, true, true, true, true, true, false, false, false, false] rfl rfl (take_ofW HT_.out HW_.out (by kernel_rfl)) (fun _ _ _ h => h) (Or.inl ⟨by rfl, ?_⟩) hHeld ?_ ?_
                        rotate_left
                        · rintro w' ⟨s0, s1, s2, s3, s4, s5, s6, s7⟩
                          go_simp
                          with_reducible rfl
                        rotate_left
                        · simp only [Act.put, List.setIfInBounds_toArray, List.set_cons_zero, List.set_cons_succ, i64_w, i32_w]
                          rfl
                        refine take_ (i := 6) (N := some 62) (v := ?_) (a' := ?_) #[true, true, true, true, true, true, true, false, false, false] rfl rfl (take_ofW HT_.out HW_.out (by kernel_rfl)) (fun _ _ _ h => h) (Or.inl ⟨by rfl, ?_⟩) hHeld ?_ ?_
                        rotate_left
                        · rintro w' ⟨s0, s1, s2, s3, s4, s5, s6, s7⟩
                          go_simp
                          with_reducible rfl
                        rotate_left
                        · simp only [Act.put, List.setIfInBounds_toArray, List.set_cons_zero, List.set_cons_succ, i64_w, i32_w]
                          rfl
                        refine pure_ (i := 7) (N := some 63) (v := ?_) (a' := ?_) #[true, true, true, true, true, true, true, true, false, false] rfl rfl (any_of HT_.out (by kernel_rfl)) (fun _ _ _ h => h) (Or.inl ⟨by rfl, ?_⟩) ?_ ?_
                        rotate_left
                        · intro w'
                          go_simp
                          with_reducible rfl
                        rotate_left
                        · simp only [Act.put, List.setIfInBounds_toArray, List.set_cons_zero, List.set_cons_succ, i64_w, i32_w]
                          rfl
                        refine pure_ (i := 8) (N := some 64) (v := ?_) (a' := ?_) #[true, true, true, true, true, true, true, true, true, false] rfl rfl (any_of HT_.out (by kernel_rfl)) (fun _ _ _ h => h) (Or.inl ⟨by rfl, ?_⟩) ?_ ?_
                        rotate_left
                        · intro w'
                          go_simp
                          with_reducible rfl
                        rotate_left
                        · simp only [Act.put, List.setIfInBounds_toArray, List.set_cons_zero, List.set_cons_succ, i64_w, i32_w]
                          rfl
                        refine pure_ (i := 9) (N := some 8) (v := ?_) (a' := ?_) #[true, true, true, true, true, true, true, true, true, true] rfl rfl (any_of HT_.out (by kernel_rfl)) (fun _ _ _ h => h) (Or.inl ⟨by rfl, ?_⟩) ?_ ?_
                        rotate_left
                        · intro w'
                          go_simp
                          with_reducible rfl
                        rotate_left
                        · simp only [Act.put, List.setIfInBounds_toArray, List.set_cons_zero, List.set_cons_succ, i64_w, i32_w]
                          rfl
                        refine done_ (done_of HT_.out (by kernel_rfl)) ?_
                        try go_wp2
                        have n0_ := Aside0.mk (Kd.R_drew HO_5.out)
                        have n1_ := Aside0.mk (blk_drew BK241.out)
                        have n2_ := Aside0.mk (below_drew1 HB.out)
                        clear HO_5
                        clear BK241
                        clear HB
                        have HO_5 := n0_
                        have BK241 := n1_
                        have HB := n2_
                        clear n0_ n1_ n2_
                        have p245 : 0 ≤ (x9_3 : Int) := of_decide_eq_true (by first | (with_reducible assumption) | assumption)
                        have q245 : x9_3 < (x5_4.length : Int) := of_decide_eq_true (by first | (with_reducible assumption) | assumption)
                        obtain ⟨ad245, e245, hx245_0, hx245_1, hx245_2, hx245_3⟩ := at_T25 (Kd.R_reads' HO_5.out).2.2 x9_3 p245 q245
                        obtain rfl : ad244 = ad245 := (by injection e245)
                        replace p245 := eq_true p245
                        replace q245 := eq_true q245
                        refine start_ (n := 7) (S := fun w' => w'.cell? ⟨gb241, 0, none⟩ = some (.int .i64 t237) ∧ w'.cell? ⟨gb241, 1, none⟩ = some (.int .i64 t238) ∧ w'.cell? ⟨gb241, 2, none⟩ = some (.int .i64 t239) ∧ w'.cell? ⟨gb241, 3, none⟩ = some (.string t240) ∧ w'.cell? (ad244.add ((x9_3).toNat * 4)) = some (.int .i64 ((rd_T25 x5_4 x9_3).f0)) ∧ w'.cell? ⟨(ad244.add ((x9_3).toNat * 4)).block, (ad244.add ((x9_3).toNat * 4)).off + 1, none⟩ = some (.int .i64 ((rd_T25 x5_4 x9_3).f1)) ∧ w'.cell? ⟨(ad244.add ((x9_3).toNat * 4)).block, (ad244.add ((x9_3).toNat * 4)).off + 2, none⟩ = some (.int .i64 ((rd_T25 x5_4 x9_3).f2)) ∧ w'.cell? ⟨(ad244.add ((x9_3).toNat * 4)).block, (ad244.add ((x9_3).toNat * 4)).off + 3, none⟩ = some (.string ((rd_T25 x5_4 x9_3).f3))) (ds := []) #[false, false, false, false, false, false, false] (by kernel_rfl) rfl rfl ⟨(blk_cell BK241.out 0).trans rfl, (blk_cell BK241.out 1).trans rfl, (blk_cell BK241.out 2).trans rfl, (blk_cell BK241.out 3).trans rfl, hx245_0, hx245_1, hx245_2, hx245_3⟩ (fun hHeld => ?_)
                        generalize w38.drew = w39 at HO_5 BK241 HB hx245_0 hx245_1 hx245_2 hx245_3 hHeld ⊢
                        refine pure_ (i := 0) (N := some 65) (v := ?_) (a' := ?_) #[true, false, false, false, false, false, false] rfl rfl (by kernel_rfl) (fun _ _ _ h => h) (Or.inl ⟨by rfl, ?_⟩) ?_ ?_
                        rotate_left
                        · intro w'
                          go_simp
                          with_reducible rfl
                        rotate_left
                        · simp only [Act.put, List.setIfInBounds_toArray, List.set_cons_zero, List.set_cons_succ, i64_w, i32_w]
                          rfl
                        refine pure_ (i := 1) (N := some 66) (v := ?_) (a' := ?_) #[true, true, false, false, false, false, false] rfl rfl (by kernel_rfl) (fun _ _ _ h => h) (Or.inl ⟨by rfl, ?_⟩) ?_ ?_
                        rotate_left
                        · intro w'
                          go_simp
                          with_reducible rfl
                        rotate_left
                        · simp only [Act.put, List.setIfInBounds_toArray, List.set_cons_zero, List.set_cons_succ, i64_w, i32_w]
                          rfl
                        refine pure_ (i := 2) (N := some 67) (v := ?_) (a' := ?_) #[true, true, true, false, false, false, false] rfl rfl (by kernel_rfl) (fun _ _ _ h => h) (Or.inl ⟨by rfl, ?_⟩) ?_ ?_
                        rotate_left
                        · intro w'
                          go_simp
                          with_reducible rfl
                        rotate_left
                        · simp only [Act.put, List.setIfInBounds_toArray, List.set_cons_zero, List.set_cons_succ, i64_w, i32_w]
                          rfl
                        refine take_ (i := 3) (N := some 68) (v := ?_) (a' := ?_) #[true, true, true, true, false, false, false] rfl rfl (by kernel_rfl) (fun _ _ _ h => h) (Or.inl ⟨by rfl, ?_⟩) hHeld ?_ ?_
                        rotate_left
                        · rintro w' ⟨s0, s1, s2, s3, s4, s5, s6, s7⟩
                          go_simp
                          with_reducible rfl
                        rotate_left
                        · simp only [Act.put, List.setIfInBounds_toArray, List.set_cons_zero, List.set_cons_succ, i64_w, i32_w]
                          rfl
                        refine take_ (i := 4) (N := some 69) (v := ?_) (a' := ?_) #[true, true, true, true, true, false, false] rfl rfl (by kernel_rfl) (fun _ _ _ h => h) (Or.inl ⟨by rfl, ?_⟩) hHeld ?_ ?_
                        rotate_left
                        · rintro w' ⟨s0, s1, s2, s3, s4, s5, s6, s7⟩
                          go_simp
                          with_reducible rfl
                        rotate_left
                        · simp only [Act.put, List.setIfInBounds_toArray, List.set_cons_zero, List.set_cons_succ, i64_w, i32_w]
                          rfl
                        refine one_ (i := 5) (N := some 70) #[true, true, true, true, true, true, false] rfl rfl (by kernel_rfl) (by decide) (fun K hK => ?_)
                        refine goes_ Tryz.func19 (by kernel_rfl) rfl #[.agg #[.int .i64 ((rd_T25 x5_4 x9_3).f0), .int .i64 ((rd_T25 x5_4 x9_3).f1), .int .i64 ((rd_T25 x5_4 x9_3).f2), .string ((rd_T25 x5_4 x9_3).f3)], .agg #[.int .i64 t237, .int .i64 t238, .int .i64 t239, .string t240]] (by rfl) rfl rfl (by (try simp only [List.map_toArray, List.map_cons, List.map_nil]); first | done | rfl | (simp only [List.length_drop, List.length_take]; rfl)) ?_
                        with_reducible refine (ver_Cmp.calls k3 ((rd_T25 x5_4 x9_3).f0) ((rd_T25 x5_4 x9_3).f1) ((rd_T25 x5_4 x9_3).f2) ((rd_T25 x5_4 x9_3).f3) t237 t238 t239 t240 t246 _ ?side1 A36.out).mono ?_
                        (case side1 => exact GL.below0 hG (by repeat (first | (with_reducible first | exact HB.out | apply below_alloc | apply pw_below_drewN | apply below_drew1 | refine below_set ?_ GE241.out) | exact HB.out)))
                        rintro e w40 ⟨rfl, hb⟩
                        have HS4_ := (hb.cell (World.block_lt_of_cell? _ _ (hHeld.2.2.2.2.1))).trans (hHeld.2.2.2.2.1)
                        have HS5_ := (hb.cell (World.block_lt_of_cell? _ _ (hHeld.2.2.2.2.2.1))).trans (hHeld.2.2.2.2.2.1)
                        have HS6_ := (hb.cell (World.block_lt_of_cell? _ _ (hHeld.2.2.2.2.2.2.1))).trans (hHeld.2.2.2.2.2.2.1)
                        have HS7_ := (hb.cell (World.block_lt_of_cell? _ _ (hHeld.2.2.2.2.2.2.2))).trans (hHeld.2.2.2.2.2.2.2)
                        refine ⟨_, rfl, ?_⟩
                        have n0_ := Aside0.mk (Kd.R_below (by (with_reducible repeat (first | apply Kd.R_alloc | apply Kd.R_drewN | apply Kd.R_drew)); exact HO_5.out) hb)
                        have n1_ := Aside0.mk (blk_below (g := gb241) (o := .cells #[.int .i64 t237, .int .i64 t238, .int .i64 t239, .string t240] 25 (0, 0)) (by (with_reducible repeat (first | refine blk_drewN ?_ _ | refine blk_drew ?_ | refine blk_alloc ?_ _)); exact BK241.out) hb)
                        have n2_ := Aside0.mk (below_step (by repeat (first | (with_reducible first | exact HB.out | apply below_alloc | apply pw_below_drewN | apply below_drew1 | refine below_set ?_ GE241.out) | exact HB.out)) hb)
                        clear HO_5
                        clear BK241
                        clear HB
                        have HO_5 := n0_
                        have BK241 := n1_
                        have HB := n2_
                        clear n0_ n1_ n2_
                        (try clear hb)
                        (try clear hb2)
                        (try clear hk)
                        (try clear hi)
                        refine hK.out _ _ ⟨(blk_cell BK241.out 0).trans rfl, (blk_cell BK241.out 1).trans rfl, (blk_cell BK241.out 2).trans rfl, (blk_cell BK241.out 3).trans rfl, HS4_, HS5_, HS6_, HS7_⟩ (fun hHeld => ?_)
                        clear hK K
                        refine norm_ (a' := ?_) ?_ ?_
                        rotate_left
                        · show Act.put _ (some 70) _ = _
                          simp only [Act.put, List.setIfInBounds_toArray, List.set_cons_zero, List.set_cons_succ, i64_w, i32_w]
                          rfl
                        refine pure_ (i := 6) (N := some 71) (v := ?_) (a' := ?_) #[true, true, true, true, true, true, true] rfl rfl (by kernel_rfl) (fun _ _ _ h => h) (Or.inl ⟨by rfl, ?_⟩) ?_ ?_
                        rotate_left
                        · intro w'
                          go_simp
                          with_reducible rfl
                        rotate_left
                        · simp only [Act.put, List.setIfInBounds_toArray, List.set_cons_zero, List.set_cons_succ, i64_w, i32_w]
                          rfl
                        refine done_ (by kernel_rfl) ?_
                        try go_wp2
                        go_ret
                        exact ⟨by first | rfl | (simp [errW_none, errW_some] <;> rfl) | (simp [*, errW_none, errW_some] <;> rfl), by repeat (first | (with_reducible first | exact HB.out | apply below_alloc | apply pw_below_drewN | apply below_drew1 | refine below_set ?_ GE241.out) | exact HB.out)⟩
                      · rw [if_neg c37] at H
                        have c37b0 : decide (0 < t246) = false := decide_eq_false c37
                        clear c37
                        have H' := Aside0.mk H
                        clear H
                        try go_wp2
                        have n0_ := Aside0.mk (Kd.R_drew HO_5.out)
                        have n1_ := Aside0.mk (blk_drew BK241.out)
                        have n2_ := Aside0.mk (below_drew1 HB.out)
                        clear HO_5
                        clear BK241
                        clear HB
                        have HO_5 := n0_
                        have BK241 := n1_
                        have HB := n2_
                        clear n0_ n1_ n2_
                        have p244 : 0 ≤ (x9_3 : Int) := of_decide_eq_true (by first | (with_reducible assumption) | assumption)
                        have q244 : x9_3 < (x5_4.length : Int) := of_decide_eq_true (by first | (with_reducible assumption) | assumption)
                        obtain ⟨ad244, e244, hx244_0, hx244_1, hx244_2, hx244_3⟩ := at_T25 (Kd.R_reads' HO_5.out).2.2 x9_3 p244 q244
                        cases e244
                        replace p244 := eq_true p244
                        replace q244 := eq_true q244
                        refine start_ (n := 10) (S := fun w' => w'.cell? ⟨gb241, 0, none⟩ = some (.int .i64 t237) ∧ w'.cell? ⟨gb241, 1, none⟩ = some (.int .i64 t238) ∧ w'.cell? ⟨gb241, 2, none⟩ = some (.int .i64 t239) ∧ w'.cell? ⟨gb241, 3, none⟩ = some (.string t240) ∧ w'.cell? (ad244.add ((x9_3).toNat * 4)) = some (.int .i64 ((rd_T25 x5_4 x9_3).f0)) ∧ w'.cell? ⟨(ad244.add ((x9_3).toNat * 4)).block, (ad244.add ((x9_3).toNat * 4)).off + 1, none⟩ = some (.int .i64 ((rd_T25 x5_4 x9_3).f1)) ∧ w'.cell? ⟨(ad244.add ((x9_3).toNat * 4)).block, (ad244.add ((x9_3).toNat * 4)).off + 2, none⟩ = some (.int .i64 ((rd_T25 x5_4 x9_3).f2)) ∧ w'.cell? ⟨(ad244.add ((x9_3).toNat * 4)).block, (ad244.add ((x9_3).toNat * 4)).off + 3, none⟩ = some (.string ((rd_T25 x5_4 x9_3).f3))) (ds := []) #[false, false, false, false, false, false, false, false, false, false] (by kernel_rfl) rfl rfl ⟨(blk_cell BK241.out 0).trans rfl, (blk_cell BK241.out 1).trans rfl, (blk_cell BK241.out 2).trans rfl, (blk_cell BK241.out 3).trans rfl, hx244_0, hx244_1, hx244_2, hx244_3⟩ (fun hHeld => ?_); refine with_tabW transhumancelaw2_VerMax.tab13 transhumancelaw2_VerMax.bits13 (fun HT_ HW_ => ?_)
                        generalize wr.drew = w41 at HO_5 BK241 HB hx244_0 hx244_1 hx244_2 hx244_3 hHeld ⊢
                        refine pure_ (i := 0) (N := some 56) (v := ?_) (a' := ?_) #[true, false, false, false, false, false, false, false, false, false] rfl rfl (any_of HT_.out (by kernel_rfl)) (fun _ _ _ h => h) (Or.inl ⟨by rfl, ?_⟩) ?_ ?_
                        rotate_left
                        · intro w'
                          go_simp
                          with_reducible rfl
                        rotate_left
                        · simp only [Act.put, List.setIfInBounds_toArray, List.set_cons_zero, List.set_cons_succ, i64_w, i32_w]
                          rfl
                        refine pure_ (i := 1) (N := some 57) (v := ?_) (a' := ?_) #[true, true, false, false, false, false, false, false, false, false] rfl rfl (any_of HT_.out (by kernel_rfl)) (fun _ _ _ h => h) (Or.inl ⟨by rfl, ?_⟩) ?_ ?_
                        rotate_left
                        · intro w'
                          go_simp
                          with_reducible rfl
                        rotate_left
                        · simp only [Act.put, List.setIfInBounds_toArray, List.set_cons_zero, List.set_cons_succ, i64_w, i32_w]
                          rfl
                        refine pure_ (i := 2) (N := some 58) (v := ?_) (a' := ?_) #[true, true, true, false, false, false, false, false, false, false] rfl rfl (any_of HT_.out (by kernel_rfl)) (fun _ _ _ h => h) (Or.inl ⟨by rfl, ?_⟩) ?_ ?_
                        rotate_left
                        · intro w'
                          go_simp
                          with_reducible rfl
                        rotate_left
                        · simp only [Act.put, List.setIfInBounds_toArray, List.set_cons_zero, List.set_cons_succ, i64_w, i32_w]
                          rfl
                        refine pure_ (i := 3) (N := some 59) (v := ?_) (a' := ?_) #[true, true, true, true, false, false, false, false, false, false] rfl rfl (any_of HT_.out (by kernel_rfl)) (fun _ _ _ h => h) (Or.inl ⟨by rfl, ?_⟩) ?_ ?_
                        rotate_left
                        · intro w'
                          go_simp
                          with_reducible rfl
                        rotate_left
                        · simp only [Act.put, List.setIfInBounds_toArray, List.set_cons_zero, List.set_cons_succ, i64_w, i32_w]
                          rfl
                        refine pure_ (i := 4) (N := some 60) (v := ?_) (a' := ?_) #[true, true, true, true, true, false, false, false, false, false] rfl rfl (any_of HT_.out (by kernel_rfl)) (fun _ _ _ h => h) (Or.inl ⟨by rfl, ?_⟩) ?_ ?_
                        rotate_left
                        · intro w'
                          go_simp
                          with_reducible rfl
                        rotate_left
                        · simp only [Act.put, List.setIfInBounds_toArray, List.set_cons_zero, List.set_cons_succ, i64_w, i32_w]
                          rfl
                        refine take_ (i := 5) (N := some 61) (v := ?_) (a' := ?_) #[true, true, true, true, true, true, false, false, false, false] rfl rfl (take_ofW HT_.out HW_.out (by kernel_rfl)) (fun _ _ _ h => h) (Or.inl ⟨by rfl, ?_⟩) hHeld ?_ ?_
                        rotate_left
                        · rintro w' ⟨s0, s1, s2, s3, s4, s5, s6, s7⟩
                          go_simp
                          with_reducible rfl
                        rotate_left
                        · simp only [Act.put, List.setIfInBounds_toArray, List.set_cons_zero, List.set_cons_succ, i64_w, i32_w]
                          rfl
                        refine take_ (i := 6) (N := some 62) (v := ?_) (a' := ?_) #[true, true, true, true, true, true, true, false, false, false] rfl rfl (take_ofW HT_.out HW_.out (by kernel_rfl)) (fun _ _ _ h => h) (Or.inl ⟨by rfl, ?_⟩) hHeld ?_ ?_
                        rotate_left
                        · rintro w' ⟨s0, s1, s2, s3, s4, s5, s6, s7⟩
                          go_simp
                          with_reducible rfl
                        rotate_left
                        · simp only [Act.put, List.setIfInBounds_toArray, List.set_cons_zero, List.set_cons_succ, i64_w, i32_w]
                          rfl
                        refine pure_ (i := 7) (N := some 63) (v := ?_) (a' := ?_) #[true, true, true, true, true, true, true, true, false, false] rfl rfl (any_of HT_.out (by kernel_rfl)) (fun _ _ _ h => h) (Or.inl ⟨by rfl, ?_⟩) ?_ ?_
                        rotate_left
                        · intro w'
                          go_simp
                          with_reducible rfl
                        rotate_left
                        · simp only [Act.put, List.setIfInBounds_toArray, List.set_cons_zero, List.set_cons_succ, i64_w, i32_w]
                          rfl
                        refine pure_ (i := 8) (N := some 64) (v := ?_) (a' := ?_) #[true, true, true, true, true, true, true, true, true, false] rfl rfl (any_of HT_.out (by kernel_rfl)) (fun _ _ _ h => h) (Or.inl ⟨by rfl, ?_⟩) ?_ ?_
                        rotate_left
                        · intro w'
                          go_simp
                          with_reducible rfl
                        rotate_left
                        · simp only [Act.put, List.setIfInBounds_toArray, List.set_cons_zero, List.set_cons_succ, i64_w, i32_w]
                          rfl
                        refine pure_ (i := 9) (N := some 8) (v := ?_) (a' := ?_) #[true, true, true, true, true, true, true, true, true, true] rfl rfl (any_of HT_.out (by kernel_rfl)) (fun _ _ _ h => h) (Or.inl ⟨by rfl, ?_⟩) ?_ ?_
                        rotate_left
                        · intro w'
                          go_simp
                          with_reducible rfl
                        rotate_left
                        · simp only [Act.put, List.setIfInBounds_toArray, List.set_cons_zero, List.set_cons_succ, i64_w, i32_w]
                          rfl
                        refine done_ (done_of HT_.out (by kernel_rfl)) ?_
                        try go_wp2
                        have n0_ := Aside0.mk (Kd.R_drew HO_5.out)
                        have n1_ := Aside0.mk (blk_drew BK241.out)
                        have n2_ := Aside0.mk (below_drew1 HB.out)
                        clear HO_5
                        clear BK241
                        clear HB
                        have HO_5 := n0_
                        have BK241 := n1_
                        have HB := n2_
                        clear n0_ n1_ n2_
                        have p245 : 0 ≤ (x9_3 : Int) := of_decide_eq_true (by first | (with_reducible assumption) | assumption)
                        have q245 : x9_3 < (x5_4.length : Int) := of_decide_eq_true (by first | (with_reducible assumption) | assumption)
                        obtain ⟨ad245, e245, hx245_0, hx245_1, hx245_2, hx245_3⟩ := at_T25 (Kd.R_reads' HO_5.out).2.2 x9_3 p245 q245
                        obtain rfl : ad244 = ad245 := (by injection e245)
                        replace p245 := eq_true p245
                        replace q245 := eq_true q245
                        refine start_ (n := 7) (S := fun w' => w'.cell? ⟨gb241, 0, none⟩ = some (.int .i64 t237) ∧ w'.cell? ⟨gb241, 1, none⟩ = some (.int .i64 t238) ∧ w'.cell? ⟨gb241, 2, none⟩ = some (.int .i64 t239) ∧ w'.cell? ⟨gb241, 3, none⟩ = some (.string t240) ∧ w'.cell? (ad244.add ((x9_3).toNat * 4)) = some (.int .i64 ((rd_T25 x5_4 x9_3).f0)) ∧ w'.cell? ⟨(ad244.add ((x9_3).toNat * 4)).block, (ad244.add ((x9_3).toNat * 4)).off + 1, none⟩ = some (.int .i64 ((rd_T25 x5_4 x9_3).f1)) ∧ w'.cell? ⟨(ad244.add ((x9_3).toNat * 4)).block, (ad244.add ((x9_3).toNat * 4)).off + 2, none⟩ = some (.int .i64 ((rd_T25 x5_4 x9_3).f2)) ∧ w'.cell? ⟨(ad244.add ((x9_3).toNat * 4)).block, (ad244.add ((x9_3).toNat * 4)).off + 3, none⟩ = some (.string ((rd_T25 x5_4 x9_3).f3))) (ds := []) #[false, false, false, false, false, false, false] (by kernel_rfl) rfl rfl ⟨(blk_cell BK241.out 0).trans rfl, (blk_cell BK241.out 1).trans rfl, (blk_cell BK241.out 2).trans rfl, (blk_cell BK241.out 3).trans rfl, hx245_0, hx245_1, hx245_2, hx245_3⟩ (fun hHeld => ?_)
                        generalize w41.drew = w42 at HO_5 BK241 HB hx245_0 hx245_1 hx245_2 hx245_3 hHeld ⊢
                        refine pure_ (i := 0) (N := some 65) (v := ?_) (a' := ?_) #[true, false, false, false, false, false, false] rfl rfl (by kernel_rfl) (fun _ _ _ h => h) (Or.inl ⟨by rfl, ?_⟩) ?_ ?_
                        rotate_left
                        · intro w'
                          go_simp
                          with_reducible rfl
                        rotate_left
                        · simp only [Act.put, List.setIfInBounds_toArray, List.set_cons_zero, List.set_cons_succ, i64_w, i32_w]
                          rfl
                        refine pure_ (i := 1) (N := some 66) (v := ?_) (a' := ?_) #[true, true, false, false, false, false, false] rfl rfl (by kernel_rfl) (fun _ _ _ h => h) (Or.inl ⟨by rfl, ?_⟩) ?_ ?_
                        rotate_left
                        · intro w'
                          go_simp
                          with_reducible rfl
                        rotate_left
                        · simp only [Act.put, List.setIfInBounds_toArray, List.set_cons_zero, List.set_cons_succ, i64_w, i32_w]
                          rfl
                        refine pure_ (i := 2) (N := some 67) (v := ?_) (a' := ?_) #[true, true, true, false, false, false, false] rfl rfl (by kernel_rfl) (fun _ _ _ h => h) (Or.inl ⟨by rfl, ?_⟩) ?_ ?_
                        rotate_left
                        · intro w'
                          go_simp
                          with_reducible rfl
                        rotate_left
                        · simp only [Act.put, List.setIfInBounds_toArray, List.set_cons_zero, List.set_cons_succ, i64_w, i32_w]
                          rfl
                        refine take_ (i := 3) (N := some 68) (v := ?_) (a' := ?_) #[true, true, true, true, false, false, false] rfl rfl (by kernel_rfl) (fun _ _ _ h => h) (Or.inl ⟨by rfl, ?_⟩) hHeld ?_ ?_
                        rotate_left
                        · rintro w' ⟨s0, s1, s2, s3, s4, s5, s6, s7⟩
                          go_simp
                          with_reducible rfl
                        rotate_left
                        · simp only [Act.put, List.setIfInBounds_toArray, List.set_cons_zero, List.set_cons_succ, i64_w, i32_w]
                          rfl
                        refine take_ (i := 4) (N := some 69) (v := ?_) (a' := ?_) #[true, true, true, true, true, false, false] rfl rfl (by kernel_rfl) (fun _ _ _ h => h) (Or.inl ⟨by rfl, ?_⟩) hHeld ?_ ?_
                        rotate_left
                        · rintro w' ⟨s0, s1, s2, s3, s4, s5, s6, s7⟩
                          go_simp
                          with_reducible rfl
                        rotate_left
                        · simp only [Act.put, List.setIfInBounds_toArray, List.set_cons_zero, List.set_cons_succ, i64_w, i32_w]
                          rfl
                        refine one_ (i := 5) (N := some 70) #[true, true, true, true, true, true, false] rfl rfl (by kernel_rfl) (by decide) (fun K hK => ?_)
                        refine goes_ Tryz.func19 (by kernel_rfl) rfl #[.agg #[.int .i64 ((rd_T25 x5_4 x9_3).f0), .int .i64 ((rd_T25 x5_4 x9_3).f1), .int .i64 ((rd_T25 x5_4 x9_3).f2), .string ((rd_T25 x5_4 x9_3).f3)], .agg #[.int .i64 t237, .int .i64 t238, .int .i64 t239, .string t240]] (by rfl) rfl rfl (by (try simp only [List.map_toArray, List.map_cons, List.map_nil]); first | done | rfl | (simp only [List.length_drop, List.length_take]; rfl)) ?_
                        with_reducible refine (ver_Cmp.calls k3 ((rd_T25 x5_4 x9_3).f0) ((rd_T25 x5_4 x9_3).f1) ((rd_T25 x5_4 x9_3).f2) ((rd_T25 x5_4 x9_3).f3) t237 t238 t239 t240 t246 _ ?side1 A36.out).mono ?_
                        (case side1 => exact GL.below0 hG (by repeat (first | (with_reducible first | exact HB.out | apply below_alloc | apply pw_below_drewN | apply below_drew1 | refine below_set ?_ GE241.out) | exact HB.out)))
                        rintro e w43 ⟨rfl, hb⟩
                        have HS4_ := (hb.cell (World.block_lt_of_cell? _ _ (hHeld.2.2.2.2.1))).trans (hHeld.2.2.2.2.1)
                        have HS5_ := (hb.cell (World.block_lt_of_cell? _ _ (hHeld.2.2.2.2.2.1))).trans (hHeld.2.2.2.2.2.1)
                        have HS6_ := (hb.cell (World.block_lt_of_cell? _ _ (hHeld.2.2.2.2.2.2.1))).trans (hHeld.2.2.2.2.2.2.1)
                        have HS7_ := (hb.cell (World.block_lt_of_cell? _ _ (hHeld.2.2.2.2.2.2.2))).trans (hHeld.2.2.2.2.2.2.2)
                        refine ⟨_, rfl, ?_⟩
                        have n0_ := Aside0.mk (Kd.R_below (by (with_reducible repeat (first | apply Kd.R_alloc | apply Kd.R_drewN | apply Kd.R_drew)); exact HO_5.out) hb)
                        have n1_ := Aside0.mk (blk_below (g := gb241) (o := .cells #[.int .i64 t237, .int .i64 t238, .int .i64 t239, .string t240] 25 (0, 0)) (by (with_reducible repeat (first | refine blk_drewN ?_ _ | refine blk_drew ?_ | refine blk_alloc ?_ _)); exact BK241.out) hb)
                        have n2_ := Aside0.mk (below_step (by repeat (first | (with_reducible first | exact HB.out | apply below_alloc | apply pw_below_drewN | apply below_drew1 | refine below_set ?_ GE241.out) | exact HB.out)) hb)
                        clear HO_5
                        clear BK241
                        clear HB
                        have HO_5 := n0_
                        have BK241 := n1_
                        have HB := n2_
                        clear n0_ n1_ n2_
                        (try clear hb)
                        (try clear hb2)
                        (try clear hk)
                        (try clear hi)
                        refine hK.out _ _ ⟨(blk_cell BK241.out 0).trans rfl, (blk_cell BK241.out 1).trans rfl, (blk_cell BK241.out 2).trans rfl, (blk_cell BK241.out 3).trans rfl, HS4_, HS5_, HS6_, HS7_⟩ (fun hHeld => ?_)
                        clear hK K
                        refine norm_ (a' := ?_) ?_ ?_
                        rotate_left
                        · show Act.put _ (some 70) _ = _
                          simp only [Act.put, List.setIfInBounds_toArray, List.set_cons_zero, List.set_cons_succ, i64_w, i32_w]
                          rfl
                        refine pure_ (i := 6) (N := some 71) (v := ?_) (a' := ?_) #[true, true, true, true, true, true, true] rfl rfl (by kernel_rfl) (fun _ _ _ h => h) (Or.inl ⟨by rfl, ?_⟩) ?_ ?_
                        rotate_left
                        · intro w'
                          go_simp
                          with_reducible rfl
                        rotate_left
                        · simp only [Act.put, List.setIfInBounds_toArray, List.set_cons_zero, List.set_cons_succ, i64_w, i32_w]
                          rfl
                        refine done_ (by kernel_rfl) ?_
                        try go_wp2
                        go_roundg k3
                        case measure => have := HJ4.out; have := HJ16.out; have := HK3.out; omega
                        case rel => exact ⟨((((rd_T25 x5_4 x9_3).f0) == t237 && (((rd_T25 x5_4 x9_3).f1) == t238 && (((rd_T25 x5_4 x9_3).f2) == t239 && ((((rd_T25 x5_4 x9_3).f3).toList) == t240.toList))))), (wrap64 (x9_3 + 1)), (by first | rfl | (simp; done) | (simp [*]; done) | (simp; exact (fun l_ : List UInt8 => by cases l_ <;> rfl : ∀ l_ : List UInt8, l_.isEmpty = !(l_ != [])) _)), (by first | rfl | (simp; done) | (simp [*]; done) | (simp; exact (fun l_ : List UInt8 => by cases l_ <;> rfl : ∀ l_ : List UInt8, l_.isEmpty = !(l_ != [])) _)), H', ⟨by have := HJ4.out; have := HJ16.out; have := HK3.out; omega⟩, ⟨by (with_reducible repeat (first | apply Kd.R_alloc | apply Kd.R_drewN | apply Kd.R_drew)); exact HO_5.out⟩, ⟨by (with_reducible repeat (first | refine blk_drewN ?_ _ | refine blk_drew ?_ | refine blk_alloc ?_ _)); exact BK241.out⟩, ⟨by repeat (first | (with_reducible first | exact HB.out | apply below_alloc | apply pw_below_drewN | apply below_drew1 | refine below_set ?_ GE241.out) | exact HB.out)⟩⟩
                    · rw [if_neg c35] at H
                      exact absurd H (by simp)
                · rw [if_neg c24] at H
                  have c24b0 : decide (x9_3 < (x5_4.length : Int)) = false := decide_eq_false c24
                  clear c24
                  by_cases c44 : x8_3 = true
                  · subst c44
                    have H1 : ((transhumanceref2_Max.f k3 x5_4).bind fun bt247 => (some (t237 == bt247.1 && (t238 == bt247.2.1 && (t239 == bt247.2.2.1 && (t240.toList == bt247.2.2.2.toList)))))) = some r := by rw [if_pos rfl] at H; exact H
                    clear H
                    have H := H1
                    clear H1
                    replace H := Option.bind_eq_some_iff.mp H
                    obtain ⟨⟨t247, t248, t249, t250⟩, A450, H⟩ := H
                    replace H : (some (t237 == t247 && (t238 == t248 && (t239 == t249 && (t240.toList == t250.toList))))) = some r := H
                    have A45 := Aside0.mk A450
                    clear A450
                    obtain rfl := Option.some.inj H
                    try go_wp2
                    have n0_ := Aside0.mk (Kd.R_drew HO_5.out)
                    have n1_ := Aside0.mk (blk_drew BK241.out)
                    have n2_ := Aside0.mk (below_drew1 HB.out)
                    clear HO_5
                    clear BK241
                    clear HB
                    have HO_5 := n0_
                    have BK241 := n1_
                    have HB := n2_
                    clear n0_ n1_ n2_
                    refine start_ (n := 8) (S := fun w' => w'.cell? ⟨gb241, 0, none⟩ = some (.int .i64 t237) ∧ w'.cell? ⟨gb241, 1, none⟩ = some (.int .i64 t238) ∧ w'.cell? ⟨gb241, 2, none⟩ = some (.int .i64 t239) ∧ w'.cell? ⟨gb241, 3, none⟩ = some (.string t240)) (ds := []) #[false, false, false, false, false, false, false, false] (by kernel_rfl) rfl rfl ⟨(blk_cell BK241.out 0).trans rfl, (blk_cell BK241.out 1).trans rfl, (blk_cell BK241.out 2).trans rfl, (blk_cell BK241.out 3).trans rfl⟩ (fun hHeld => ?_); refine with_tabW transhumancelaw2_VerMax.tab16 transhumancelaw2_VerMax.bits16 (fun HT_ HW_ => ?_)
                    generalize wr.drew = w46 at HO_5 BK241 HB hHeld ⊢
                    refine pure_ (i := 0) (N := some 72) (v := ?_) (a' := ?_) #[true, false, false, false, false, false, false, false] rfl rfl (any_of HT_.out (by kernel_rfl)) (fun _ _ _ h => h) (Or.inl ⟨by rfl, ?_⟩) ?_ ?_
                    rotate_left
                    · intro w'
                      go_simp
                      with_reducible rfl
                    rotate_left
                    · simp only [Act.put, List.setIfInBounds_toArray, List.set_cons_zero, List.set_cons_succ, i64_w, i32_w]
                      rfl
                    refine pure_ (i := 1) (N := some 73) (v := ?_) (a' := ?_) #[true, true, false, false, false, false, false, false] rfl rfl (any_of HT_.out (by kernel_rfl)) (fun _ _ _ h => h) (Or.inl ⟨by rfl, ?_⟩) ?_ ?_
                    rotate_left
                    · intro w'
                      go_simp
                      with_reducible rfl
                    rotate_left
                    · simp only [Act.put, List.setIfInBounds_toArray, List.set_cons_zero, List.set_cons_succ, i64_w, i32_w]
                      rfl
                    refine pure_ (i := 3) (N := some 75) (v := ?_) (a' := ?_) #[true, true, false, true, false, false, false, false] rfl rfl (any_of HT_.out (by kernel_rfl)) (fun _ _ _ h => h) (Or.inl ⟨by rfl, ?_⟩) ?_ ?_
                    rotate_left
                    · intro w'
                      go_simp
                      with_reducible rfl
                    rotate_left
                    · simp only [Act.put, List.setIfInBounds_toArray, List.set_cons_zero, List.set_cons_succ, i64_w, i32_w]
                      rfl
                    refine take_ (i := 2) (N := some 74) (v := ?_) (a' := ?_) #[true, true, true, true, false, false, false, false] rfl rfl (take_ofW HT_.out HW_.out (by kernel_rfl)) (fun _ _ _ h => h) (Or.inl ⟨by rfl, ?_⟩) hHeld ?_ ?_
                    rotate_left
                    · rintro w' ⟨s0, s1, s2, s3⟩
                      go_simp
                      with_reducible rfl
                    rotate_left
                    · simp only [Act.put, List.setIfInBounds_toArray, List.set_cons_zero, List.set_cons_succ, i64_w, i32_w]
                      rfl
                    refine one_ (i := 4) (N := some 76) #[true, true, true, true, true, false, false, false] rfl rfl (one_of HT_.out (by kernel_rfl)) (by decide) (fun K hK => ?_)
                    refine goes_ Tryz.func22 (by kernel_rfl) rfl #[.slice Ao18 x5_4.length co18] (by rfl) rfl rfl (by (try simp only [List.map_toArray, List.map_cons, List.map_nil]); first | done | rfl | (simp only [List.length_drop, List.length_take]; rfl)) ?_
                    with_reducible refine (transhumanceref2_Max.calls k3 _ _ x5_4 t247 t248 t249 t250 _ ?side1 ?side2 A45.out).mono ?_
                    (case side1 => repeat (first | exact (Kd.R_reads' HO_5.out).2.2 | (with_reducible refine Kd.C_alloc ?_ _) | (with_reducible refine Kd.C_drewN ?_ _) | (with_reducible refine Kd.C_drew ?_)))
                    (case side2 => exact (Kd.R_reads' HO_5.out).2.1)
                    rintro e w47 ⟨rfl, hb⟩
                    refine ⟨_, rfl, ?_⟩
                    have n0_ := Aside0.mk (Kd.R_below (by (with_reducible repeat (first | apply Kd.R_alloc | apply Kd.R_drewN | apply Kd.R_drew)); exact HO_5.out) hb)
                    have n1_ := Aside0.mk (blk_below (g := gb241) (o := .cells #[.int .i64 t237, .int .i64 t238, .int .i64 t239, .string t240] 25 (0, 0)) (by (with_reducible repeat (first | refine blk_drewN ?_ _ | refine blk_drew ?_ | refine blk_alloc ?_ _)); exact BK241.out) hb)
                    have n2_ := Aside0.mk (below_step (by repeat (first | (with_reducible first | exact HB.out | apply below_alloc | apply pw_below_drewN | apply below_drew1 | refine below_set ?_ GE241.out) | exact HB.out)) hb)
                    clear HO_5
                    clear BK241
                    clear HB
                    have HO_5 := n0_
                    have BK241 := n1_
                    have HB := n2_
                    clear n0_ n1_ n2_
                    (try clear hb)
                    (try clear hb2)
                    (try clear hk)
                    (try clear hi)
                    refine hK.out _ _ ⟨(blk_cell BK241.out 0).trans rfl, (blk_cell BK241.out 1).trans rfl, (blk_cell BK241.out 2).trans rfl, (blk_cell BK241.out 3).trans rfl⟩ (fun hHeld => ?_)
                    clear hK K
                    refine norm_ (a' := ?_) ?_ ?_
                    rotate_left
                    · show Act.put _ (some 76) _ = _
                      simp only [Act.put, List.setIfInBounds_toArray, List.set_cons_zero, List.set_cons_succ, i64_w, i32_w]
                      rfl
                    refine pure_ (i := 5) (N := some 77) (v := ?_) (a' := ?_) #[true, true, true, true, true, true, false, false] rfl rfl (any_of HT_.out (by kernel_rfl)) (fun _ _ _ h => h) (Or.inl ⟨by rfl, ?_⟩) ?_ ?_
                    rotate_left
                    · intro w'
                      go_simp
                      with_reducible rfl
                    rotate_left
                    · simp only [Act.put, List.setIfInBounds_toArray, List.set_cons_zero, List.set_cons_succ, i64_w, i32_w]
                      rfl
                    refine pure_ (i := 6) (N := some 78) (v := ?_) (a' := ?_) #[true, true, true, true, true, true, true, false] rfl rfl (any_of HT_.out (by kernel_rfl)) (fun _ _ _ h => h) (Or.inl ⟨by rfl, ?_⟩) ?_ ?_
                    rotate_left
                    · intro w'
                      go_simp
                      with_reducible rfl
                    rotate_left
                    · simp only [Act.put, List.setIfInBounds_toArray, List.set_cons_zero, List.set_cons_succ, i64_w, i32_w]
                      rfl
                    refine pure_ (i := 7) (N := some 4) (v := ?_) (a' := ?_) #[true, true, true, true, true, true, true, true] rfl rfl (any_of HT_.out (by kernel_rfl)) (fun _ _ _ h => h) (Or.inl ⟨by rfl, ?_⟩) ?_ ?_
                    rotate_left
                    · intro w'
                      go_simp
                      with_reducible rfl
                    rotate_left
                    · simp only [Act.put, List.setIfInBounds_toArray, List.set_cons_zero, List.set_cons_succ, i64_w, i32_w]
                      rfl
                    refine done_ (done_of HT_.out (by kernel_rfl)) ?_
                    try go_wp2
                    go_ret
                    exact ⟨by first | rfl | (simp [errW_none, errW_some] <;> rfl) | (simp [*, errW_none, errW_some] <;> rfl), by repeat (first | (with_reducible first | exact HB.out | apply below_alloc | apply pw_below_drewN | apply below_drew1 | refine below_set ?_ GE241.out) | exact HB.out)⟩
                  · replace c44 := Bool.eq_false_iff.mpr c44
                    subst c44
                    have H1 : (some false) = some r := by rw [if_neg (show ¬ (false = true) by decide)] at H; exact H
                    clear H
                    have H := H1
                    clear H1
                    obtain rfl := Option.some.inj H
                    try go_wp2
                    have n0_ := Aside0.mk (Kd.R_drew HO_5.out)
                    have n1_ := Aside0.mk (blk_drew BK241.out)
                    have n2_ := Aside0.mk (below_drew1 HB.out)
                    clear HO_5
                    clear BK241
                    clear HB
                    have HO_5 := n0_
                    have BK241 := n1_
                    have HB := n2_
                    clear n0_ n1_ n2_
                    refine start_ (n := 8) (S := fun w' => True) (ds := []) #[false, false, false, false, false, false, false, false] (by kernel_rfl) rfl rfl trivial (fun hHeld => ?_); refine with_tabW transhumancelaw2_VerMax.tab16 transhumancelaw2_VerMax.bits16 (fun HT_ HW_ => ?_)
                    generalize wr.drew = w48 at HO_5 BK241 HB hHeld ⊢
                    refine pure_ (i := 0) (N := some 72) (v := ?_) (a' := ?_) #[true, false, false, false, false, false, false, false] rfl rfl (any_of HT_.out (by kernel_rfl)) (fun _ _ _ h => h) (Or.inl ⟨by rfl, ?_⟩) ?_ ?_
                    rotate_left
                    · intro w'
                      go_simp
                      with_reducible rfl
                    rotate_left
                    · simp only [Act.put, List.setIfInBounds_toArray, List.set_cons_zero, List.set_cons_succ, i64_w, i32_w]
                      rfl
                    refine pure_ (i := 1) (N := some 73) (v := ?_) (a' := ?_) #[true, true, false, false, false, false, false, false] rfl rfl (any_of HT_.out (by kernel_rfl)) (fun _ _ _ h => h) (Or.inl ⟨by rfl, ?_⟩) ?_ ?_
                    rotate_left
                    · intro w'
                      go_simp
                      with_reducible rfl
                    rotate_left
                    · simp only [Act.put, List.setIfInBounds_toArray, List.set_cons_zero, List.set_cons_succ, i64_w, i32_w]
                      rfl
                    refine pure_ (i := 2) (N := some 74) (v := undef) (a' := ?_) #[true, true, true, false, false, false, false, false] rfl rfl (any_of HT_.out (by kernel_rfl)) (fun _ _ _ h => h) (Or.inr ⟨by rfl, rfl⟩) ?_ ?_
                    rotate_left
                    · simp only [Act.put, List.setIfInBounds_toArray, List.set_cons_zero, List.set_cons_succ, i64_w, i32_w]
                      rfl
                    refine pure_ (i := 3) (N := some 75) (v := undef) (a' := ?_) #[true, true, true, true, false, false, false, false] rfl rfl (any_of HT_.out (by kernel_rfl)) (fun _ _ _ h => h) (Or.inr ⟨by rfl, rfl⟩) ?_ ?_
                    rotate_left
                    · simp only [Act.put, List.setIfInBounds_toArray, List.set_cons_zero, List.set_cons_succ, i64_w, i32_w]
                      rfl
                    refine pure_ (i := 4) (N := some 76) (v := undef) (a' := ?_) #[true, true, true, true, true, false, false, false] rfl rfl (any_of HT_.out (by kernel_rfl)) (fun _ _ _ h => h) (Or.inr ⟨by rfl, rfl⟩) ?_ ?_
                    rotate_left
                    · simp only [Act.put, List.setIfInBounds_toArray, List.set_cons_zero, List.set_cons_succ, i64_w, i32_w]
                      rfl
                    refine pure_ (i := 5) (N := some 77) (v := undef) (a' := ?_) #[true, true, true, true, true, true, false, false] rfl rfl (any_of HT_.out (by kernel_rfl)) (fun _ _ _ h => h) (Or.inr ⟨by rfl, rfl⟩) ?_ ?_
                    rotate_left
                    · simp only [Act.put, List.setIfInBounds_toArray, List.set_cons_zero, List.set_cons_succ, i64_w, i32_w]
                      rfl
                    refine pure_ (i := 6) (N := some 78) (v := ?_) (a' := ?_) #[true, true, true, true, true, true, true, false] rfl rfl (any_of HT_.out (by kernel_rfl)) (fun _ _ _ h => h) (Or.inl ⟨by rfl, ?_⟩) ?_ ?_
                    rotate_left
                    · intro w'
                      go_simp
                      with_reducible rfl
                    rotate_left
                    · simp only [Act.put, List.setIfInBounds_toArray, List.set_cons_zero, List.set_cons_succ, i64_w, i32_w]
                      rfl
                    refine pure_ (i := 7) (N := some 4) (v := ?_) (a' := ?_) #[true, true, true, true, true, true, true, true] rfl rfl (any_of HT_.out (by kernel_rfl)) (fun _ _ _ h => h) (Or.inl ⟨by rfl, ?_⟩) ?_ ?_
                    rotate_left
                    · intro w'
                      go_simp
                      with_reducible rfl
                    rotate_left
                    · simp only [Act.put, List.setIfInBounds_toArray, List.set_cons_zero, List.set_cons_succ, i64_w, i32_w]
                      rfl
                    refine done_ (done_of HT_.out (by kernel_rfl)) ?_
                    try go_wp2
                    go_ret
                    exact ⟨by first | rfl | (simp [errW_none, errW_some] <;> rfl) | (simp [*, errW_none, errW_some] <;> rfl), by repeat (first | (with_reducible first | exact HB.out | apply below_alloc | apply pw_below_drewN | apply below_drew1 | refine below_set ?_ GE241.out) | exact HB.out)⟩
  · replace c4 := Bool.eq_false_iff.mpr c4
    subst c4
    have H1 : (some false) = some r := by rw [if_neg (show ¬ (false = true) by decide)] at H; exact H
    clear H
    have H := H1
    clear H1
    obtain rfl := Option.some.inj H
    go_enter Tryz.func6, Tryz.ntmps6
    go_wp2_with (first | ((with_reducible refine gate_callee (f := 10) rfl ?_); refine goesL_ (some 10) rfl rfl Tryz.func10 (by kernel_rfl) rfl #[] rfl (by (try simp only [List.map_toArray, List.map_cons, List.map_nil]); first | done | rfl | (simp only [List.length_drop, List.length_take]; rfl)) ?_; (with_reducible refine (transhumancelaw2_known.calls  false _ ?side1 A3.out).mono ?_); (case side1 => exact GL.below0 hG (by repeat (first | (with_reducible first | exact HB.out | apply below_alloc | apply pw_below_drewN | apply below_drew1) | exact HB.out))); rintro e w49 ⟨rfl, hb⟩; refine ⟨_, rfl, ?_⟩; have n0_ := Aside0.mk (below_step (by repeat (first | (with_reducible first | exact HB.out | apply below_alloc | apply pw_below_drewN | apply below_drew1) | exact HB.out)) hb); clear HB; have HB := n0_; clear n0_; (try clear hb); (try clear hb2); (try clear hk); (try clear hi)))
    go_ret
    exact ⟨by first | rfl | (simp [errW_none, errW_some] <;> rfl) | (simp [*, errW_none, errW_some] <;> rfl), by repeat (first | (with_reducible first | exact HB.out | apply below_alloc | apply pw_below_drewN | apply below_drew1) | exact HB.out)⟩
def transhumancelaw2_VerMax.Pure : Prop := ∀ (l0 : List Int) (l1 : List Int), l0.length ≤ maxLen → l0.length * 8 ≤ 140737488351232 → (∀ x ∈ l0, (Lit.int .i64 x).wf = true) → l1.length ≤ maxLen → l1.length * 8 ≤ 140737488351232 → (∀ x ∈ l1, (Lit.int .i64 x).wf = true) → ∃ k, transhumancelaw2_VerMax.f k l0 l1 = some true
theorem transhumancelaw2_VerMax.walk (P : transhumancelaw2_VerMax.Pure) (a0 : Option Addr) (len0 cap0 : Nat) (z0 : List Int) (a1 : Option Addr) (len1 cap1 : Nat) (z1 : List Int) (w : World) (w0 : (a0 = none ∧ len0 = 0 ∧ cap0 = 0 ∧ z0 = []) ∨ ∃ x, a0 = some x ∧ len0 ≤ cap0 ∧ cap0 ≤ maxLen ∧ z0.length = cap0 ∧ (∀ i, i < z0.length → w.cell? (x.add i) = some (.int .i64 (z0.getD i 0))) ∧ ∀ n ∈ z0, (Lit.int .i64 n).wf = true) (y0 : len0 * 8 ≤ 140737488351232) (w1 : (a1 = none ∧ len1 = 0 ∧ cap1 = 0 ∧ z1 = []) ∨ ∃ x, a1 = some x ∧ len1 ≤ cap1 ∧ cap1 ≤ maxLen ∧ z1.length = cap1 ∧ (∀ i, i < z1.length → w.cell? (x.add i) = some (.int .i64 (z1.getD i 0))) ∧ ∀ n ∈ z1, (Lit.int .i64 n).wf = true) (y1 : len1 * 8 ≤ 140737488351232) (hG : GL w) :
    Calls Tryz.prog 6 #[.slice a0 len0 cap0, .slice a1 len1 cap1] w fun e w' => e = .returned (.bool true) ∧ Below w.heap.size w w' := by
  obtain ⟨l0, rfl, hr0, hm0, hw0, hc0⟩ := ReadsInt.ofRowC w0
  obtain ⟨l1, rfl, hr1, hm1, hw1, hc1⟩ := ReadsInt.ofRowC w1
  obtain ⟨k, h⟩ := P l0 l1 hm0 y0 hw0 hm1 y1 hw1
  refine (transhumancelaw2_VerMax.calls k _ _ l0 _ _ l1 true w hG (Kd.C_of_reads (d := (0 : Int)) (h1 := fun _ => rfl) hr0) hc0 (Kd.C_of_reads (d := (0 : Int)) (h1 := fun _ => rfl) hr1) hc1 h).mono ?_
  rintro e w' ⟨rfl, hd⟩
  exact ⟨rfl, hd⟩
end Go.Proofs.YtbdojilhmgfdcaaGreatDoor.Q
