import Derived.Test.YtghencpiejbecaaGreatDoorZQ0
import Derived.Test.YtghencpiejbecaaGreatDoorZQ1
import Derived.Test.YtghencpiejbecaaGreatDoorZQ2
import Derived.Test.YtghencpiejbecaaGreatDoorZQ9
import Derived.Test.YtghencpiejbecaaGreatDoorZQ13
import Derived.Test.YtghencpiejbecaaGreatDoorZQ14
import Derived.Test.YtghencpiejbecaaGreatDoorZDLocks
namespace Go.Proofs.YtghencpiejbecaaGreatDoor.Q
open Go.RowKit Go.Proofs.YtghencpiejbecaaGreatDoorW.PrintWords Go.Proofs.YtghencpiejbecaaGreatDoorW.PrintLast Go.Proofs.YtghencpiejbecaaGreatDoorW.PrintMore
attribute [local go_sem] max2_int min2_int max_two min_two max_three min_three max_four min_four
set_option linter.unusedVariables false
set_option linter.unusedSimpArgs false
attribute [local go_sem high] eqA29
def transhumancelaw7_DentBad.j0 : Nat → List Int → List Int → Int → Int → Bool → Option (Bool)
  | 0, _, _, _, _, _ => none
  | k + 1, x0, x1, x2, x3, x35 => if x35 = true then (some true) else ((transhumancelaw5_Locks.f k x0 x1 5).bind fun t209 => ((transhumanceref7_Write.f k t209).bind fun t212 => (if 14 + t212.size ≤ 9223372036854775807 then (if ((⟨#[35, 32, 115, 111, 10, 108, 111, 99, 107, 115, 58, 10, 120, 10]⟩ : ByteArray) ++ t212).size + 5 ≤ 9223372036854775807 then ((transhumancelaw7_within.f x2 (wrap64 (((((⟨#[35, 32, 115, 111, 10, 108, 111, 99, 107, 115, 58, 10, 120, 10]⟩ : ByteArray) ++ t212) ++ (⟨#[35, 32, 101, 110, 100]⟩ : ByteArray)).size : Int) + 1))).bind fun t213 => (if 0 ≤ t213 then (if t213 ≤ ((((⟨#[35, 32, 115, 111, 10, 108, 111, 99, 107, 115, 58, 10, 120, 10]⟩ : ByteArray) ++ t212) ++ (⟨#[35, 32, 101, 110, 100]⟩ : ByteArray)).size : Int) then ((some (([x3] : List Int) : List Int)).bind fun y214 => (if ((((⟨#[35, 32, 115, 111, 10, 108, 111, 99, 107, 115, 58, 10, 120, 10]⟩ : ByteArray) ++ t212) ++ (⟨#[35, 32, 101, 110, 100]⟩ : ByteArray)).extract 0 (t213 : Int).toNat).size + (strOfNums y214).size ≤ 9223372036854775807 then (if (((((⟨#[35, 32, 115, 111, 10, 108, 111, 99, 107, 115, 58, 10, 120, 10]⟩ : ByteArray) ++ t212) ++ (⟨#[35, 32, 101, 110, 100]⟩ : ByteArray)).extract 0 (t213 : Int).toNat) ++ (strOfNums y214)).size + ((((⟨#[35, 32, 115, 111, 10, 108, 111, 99, 107, 115, 58, 10, 120, 10]⟩ : ByteArray) ++ t212) ++ (⟨#[35, 32, 101, 110, 100]⟩ : ByteArray)).extract (t213 : Int).toNat (((⟨#[35, 32, 115, 111, 10, 108, 111, 99, 107, 115, 58, 10, 120, 10]⟩ : ByteArray) ++ t212) ++ (⟨#[35, 32, 101, 110, 100]⟩ : ByteArray)).size).size ≤ 9223372036854775807 then ((dent_Locks.f ((((((⟨#[35, 32, 115, 111, 10, 108, 111, 99, 107, 115, 58, 10, 120, 10]⟩ : ByteArray) ++ t212) ++ (⟨#[35, 32, 101, 110, 100]⟩ : ByteArray)).extract 0 (t213 : Int).toNat) ++ (strOfNums y214)) ++ ((((⟨#[35, 32, 115, 111, 10, 108, 111, 99, 107, 115, 58, 10, 120, 10]⟩ : ByteArray) ++ t212) ++ (⟨#[35, 32, 101, 110, 100]⟩ : ByteArray)).extract (t213 : Int).toNat (((⟨#[35, 32, 115, 111, 10, 108, 111, 99, 107, 115, 58, 10, 120, 10]⟩ : ByteArray) ++ t212) ++ (⟨#[35, 32, 101, 110, 100]⟩ : ByteArray)).size))).bind fun bt217 => (if bt217.2.2.2 = 1 then ((transhumanceref1_Place.f k ((((((⟨#[35, 32, 115, 111, 10, 108, 111, 99, 107, 115, 58, 10, 120, 10]⟩ : ByteArray) ++ t212) ++ (⟨#[35, 32, 101, 110, 100]⟩ : ByteArray)).extract 0 (t213 : Int).toNat) ++ (strOfNums y214)) ++ ((((⟨#[35, 32, 115, 111, 10, 108, 111, 99, 107, 115, 58, 10, 120, 10]⟩ : ByteArray) ++ t212) ++ (⟨#[35, 32, 101, 110, 100]⟩ : ByteArray)).extract (t213 : Int).toNat (((⟨#[35, 32, 115, 111, 10, 108, 111, 99, 107, 115, 58, 10, 120, 10]⟩ : ByteArray) ++ t212) ++ (⟨#[35, 32, 101, 110, 100]⟩ : ByteArray)).size)) t213).bind fun bt224 => (if (bt217.2.1 == bt224.1 && (bt217.2.2.1 == bt224.2)) = true then (some ((bt217.1.length : Int) == 0)) else (some false))) else (some false))) else (none)) else (none))) else (none)) else (none))) else (none)) else (none))))
def transhumancelaw7_DentBad.f (k : Nat) (l0 : List Int) (l1 : List Int) (a2 : Int) (a3 : Int) : Option (Bool) := (transhumancelaw7_known.f).bind fun t208 => (if t208 = true then (if (l1.length : Int) > 60 then (transhumancelaw7_DentBad.j0 k l0 l1 a2 a3 true) else (if a3 = 9 then (transhumancelaw7_DentBad.j0 k l0 l1 a2 a3 true) else (if a3 = 10 then (transhumancelaw7_DentBad.j0 k l0 l1 a2 a3 true) else (if a3 ≥ 32 then (transhumancelaw7_DentBad.j0 k l0 l1 a2 a3 (decide (a3 ≤ 126))) else (transhumancelaw7_DentBad.j0 k l0 l1 a2 a3 false))))) else (some false))
def transhumancelaw7_DentBad.T7 : Bool × List (List Nat × List Nat) := (true, [([], []), ([], []), ([0, 1], [0, 1]), ([], []), ([3], [3]), ([4], [4]), ([2, 5], [2, 5]), ([], []), ([], []), ([7, 8], [7, 8]), ([6, 9], [6, 9]), ([10, 0, 1, 2, 3, 4, 5, 6, 7, 8, 9, 10], [10])])
def transhumancelaw7_DentBad.B7 : List Nat := [0, 0, 3, 0, 8, 24, 63, 0, 0, 384, 1023, 2047]
theorem transhumancelaw7_DentBad.tab7 : rtab .any (opsOf Tryz.f7 7) = transhumancelaw7_DentBad.T7 := by kernel_rfl
theorem transhumancelaw7_DentBad.bits7 : waitsOk transhumancelaw7_DentBad.T7.2 transhumancelaw7_DentBad.B7 = true := by kernel_rfl
def transhumancelaw7_DentBad.T9 : Bool × List (List Nat × List Nat) := (true, [([], []), ([0], [0]), ([1], [1]), ([2], [2]), ([2], [2]), ([2], [2]), ([4, 5, 2, 2], [2, 4, 5]), ([3, 6, 2], [2, 3, 6]), ([2, 7], [2, 7]), ([8, 6], [8]), ([9], [9]), ([10, 9], [9, 10]), ([11, 9], [9, 11]), ([9, 12], [9, 12]), ([13, 9, 0, 1, 2, 3, 4, 5, 6, 7, 8, 9, 10, 11, 12, 13], [13])])
def transhumancelaw7_DentBad.B9 : List Nat := [0, 1, 3, 7, 7, 7, 55, 127, 255, 511, 1023, 2047, 4095, 8191, 16383]
theorem transhumancelaw7_DentBad.tab9 : rtab .any (opsOf Tryz.f7 9) = transhumancelaw7_DentBad.T9 := by kernel_rfl
theorem transhumancelaw7_DentBad.bits9 : waitsOk transhumancelaw7_DentBad.T9.2 transhumancelaw7_DentBad.B9 = true := by kernel_rfl
set_option maxHeartbeats 8000000 in
set_option maxRecDepth 100000 in
theorem transhumancelaw7_DentBad.calls (k : Nat) (A0 : Option Addr) (c0 : Nat) (l0 : List Int) (A1 : Option Addr) (c1 : Nat) (l1 : List Int) (a2 : Int) (a3 : Int) (r : Bool) (w : World) (hG : GL w) (hr0 : Kd.C (Kd.int .i64) w A0 l0.length l0) (hc0 : l0.length ≤ c0) (hr1 : Kd.C (Kd.int .u8) w A1 l1.length l1) (hc1 : l1.length ≤ c1) (h : transhumancelaw7_DentBad.f k l0 l1 a2 a3 = some r) :
    Calls Tryz.prog 7 #[.slice A0 l0.length c0, .slice A1 l1.length c1, .int .i64 a2, .int .u8 a3] w fun e w' => e = .returned (.bool r) ∧ Below w.heap.size w w' := by
  have hu29 := Tryz.underlying29
  have HR0 := Aside0.mk hr0
  have HC0 := Aside0.mk hc0
  clear hr0 hc0
  have HR1 := Aside0.mk hr1
  have HC1 := Aside0.mk hc1
  clear hr1 hc1
  have HB := Aside0.mk (Below.refl w.heap.size w)
  have H : ((transhumancelaw7_known.f).bind fun t208 => (if t208 = true then (if (l1.length : Int) > 60 then (transhumancelaw7_DentBad.j0 k l0 l1 a2 a3 true) else (if a3 = 9 then (transhumancelaw7_DentBad.j0 k l0 l1 a2 a3 true) else (if a3 = 10 then (transhumancelaw7_DentBad.j0 k l0 l1 a2 a3 true) else (if a3 ≥ 32 then (transhumancelaw7_DentBad.j0 k l0 l1 a2 a3 (decide (a3 ≤ 126))) else (transhumancelaw7_DentBad.j0 k l0 l1 a2 a3 false))))) else (some false))) = some r := h
  clear h
  replace H := Option.bind_eq_some_iff.mp H
  obtain ⟨t208, A50, H⟩ := H
  replace H : (if t208 = true then (if (l1.length : Int) > 60 then (transhumancelaw7_DentBad.j0 k l0 l1 a2 a3 true) else (if a3 = 9 then (transhumancelaw7_DentBad.j0 k l0 l1 a2 a3 true) else (if a3 = 10 then (transhumancelaw7_DentBad.j0 k l0 l1 a2 a3 true) else (if a3 ≥ 32 then (transhumancelaw7_DentBad.j0 k l0 l1 a2 a3 (decide (a3 ≤ 126))) else (transhumancelaw7_DentBad.j0 k l0 l1 a2 a3 false))))) else (some false)) = some r := H
  have A5 := Aside0.mk A50
  clear A50
  by_cases c6 : t208 = true
  · subst c6
    have H1 : (if (l1.length : Int) > 60 then (transhumancelaw7_DentBad.j0 k l0 l1 a2 a3 true) else (if a3 = 9 then (transhumancelaw7_DentBad.j0 k l0 l1 a2 a3 true) else (if a3 = 10 then (transhumancelaw7_DentBad.j0 k l0 l1 a2 a3 true) else (if a3 ≥ 32 then (transhumancelaw7_DentBad.j0 k l0 l1 a2 a3 (decide (a3 ≤ 126))) else (transhumancelaw7_DentBad.j0 k l0 l1 a2 a3 false))))) = some r := by rw [if_pos rfl] at H; exact H
    clear H
    have H := H1
    clear H1
    have HC7 := Aside0.mk H
    clear H
    go_enter Tryz.func7, Tryz.ntmps7
    go_upto_region 3 with (first | ((with_reducible refine gate_callee (f := 10) rfl ?_); refine goesL_ (some 15) rfl rfl Tryz.func10 (by kernel_rfl) rfl #[] rfl (by (try simp only [List.map_toArray, List.map_cons, List.map_nil]); first | done | rfl | (simp only [List.length_drop, List.length_take]; rfl) | (simp only [ByteArray.size_append, Int.natCast_add]; first | done | rfl)) ?_; (with_reducible refine (transhumancelaw7_known.calls  true _ ?side1 A5.out).mono ?_); (case side1 => exact GL.below0 hG (by repeat (first | (with_reducible first | exact HB.out | apply below_alloc | apply pw_below_drewN | apply below_drew1) | exact HB.out))); rintro e w8 ⟨rfl, hb⟩; refine ⟨_, rfl, ?_⟩; have n0_ := Aside0.mk (below_step (by repeat (first | (with_reducible first | exact HB.out | apply below_alloc | apply pw_below_drewN | apply below_drew1) | exact HB.out)) hb); clear HB; have HB := n0_; clear n0_; (try clear hb); (try clear hb2); (try clear hk); (try clear hi)))
    (try simp only [Act.put, List.setIfInBounds_toArray, List.set_cons_zero, List.set_cons_succ])
    go_cut [35] (fun v35 wc => ∃ (kq : Nat) (x35_6 : Bool), v35 = .bool x35_6 ∧ Aside0 (transhumancelaw7_DentBad.j0 kq l0 l1 a2 a3 x35_6 = some r) ∧ Aside0 (kq ≤ k) ∧ Aside0 (Below w.heap.size w wc))
    case first =>
      have H := HC7.out
      clear HC7
      by_cases c9 : (l1.length : Int) > 60
      · rw [if_pos c9] at H
        have c9b0 : decide (60 < (l1.length : Int)) = true := decide_eq_true c9
        have c9b1 : decide (60 < l1.length) = true := decide_eq_true (by omega)
        clear c9
        (first | rw [c9b0] | (simp only [i64_w, i32_w]; rw [c9b0]) | skip)
        have H' := Aside0.mk H
        clear H
        go_wp2
        go_meet
        case rel => exact ⟨_, (true), (by first | rfl | (simp; done) | (simp [*]; done) | (simp; exact (fun l_ : List UInt8 => by cases l_ <;> rfl : ∀ l_ : List UInt8, l_.isEmpty = !(l_ != [])) _)), H', ⟨by first | omega | exact Nat.le_refl _⟩, ⟨by repeat (first | (with_reducible first | exact HB.out | apply below_alloc | apply pw_below_drewN | apply below_drew1) | exact HB.out)⟩⟩
      · rw [if_neg c9] at H
        have c9b0 : decide (60 < (l1.length : Int)) = false := decide_eq_false c9
        have c9b1 : decide (60 < l1.length) = false := decide_eq_false (by omega)
        clear c9
        (first | rw [c9b0] | (simp only [i64_w, i32_w]; rw [c9b0]) | skip)
        by_cases c10 : a3 = 9
        · rw [if_pos c10] at H
          have c10b0 : (a3 == 9) = true := beq_iff_eq.mpr c10
          have c10b1 : (a3 != 9) = false := bne_eq_false_iff_eq.mpr c10
          clear c10
          have H' := Aside0.mk H
          clear H
          go_wp2
          go_meet
          case rel => exact ⟨_, (true), (by first | rfl | (simp; done) | (simp [*]; done) | (simp; exact (fun l_ : List UInt8 => by cases l_ <;> rfl : ∀ l_ : List UInt8, l_.isEmpty = !(l_ != [])) _)), H', ⟨by first | omega | exact Nat.le_refl _⟩, ⟨by repeat (first | (with_reducible first | exact HB.out | apply below_alloc | apply pw_below_drewN | apply below_drew1) | exact HB.out)⟩⟩
        · rw [if_neg c10] at H
          have c10b0 : (a3 == 9) = false := beq_eq_false_iff_ne.mpr c10
          have c10b1 : (a3 != 9) = true := bne_iff_ne.mpr c10
          by_cases c11 : a3 = 10
          · rw [if_pos c11] at H
            have c11b0 : (a3 == 10) = true := beq_iff_eq.mpr c11
            have c11b1 : (a3 != 10) = false := bne_eq_false_iff_eq.mpr c11
            clear c11
            have H' := Aside0.mk H
            clear H
            go_wp2
            go_meet
            case rel => exact ⟨_, (true), (by first | rfl | (simp; done) | (simp [*]; done) | (simp; exact (fun l_ : List UInt8 => by cases l_ <;> rfl : ∀ l_ : List UInt8, l_.isEmpty = !(l_ != [])) _)), H', ⟨by first | omega | exact Nat.le_refl _⟩, ⟨by repeat (first | (with_reducible first | exact HB.out | apply below_alloc | apply pw_below_drewN | apply below_drew1) | exact HB.out)⟩⟩
          · rw [if_neg c11] at H
            have c11b0 : (a3 == 10) = false := beq_eq_false_iff_ne.mpr c11
            have c11b1 : (a3 != 10) = true := bne_iff_ne.mpr c11
            by_cases c12 : a3 ≥ 32
            · rw [if_pos c12] at H
              have c12b0 : decide (32 ≤ a3) = true := decide_eq_true c12
              clear c12
              have H' := Aside0.mk H
              clear H
              go_wp2
              go_meet
              case rel => exact ⟨_, (decide (a3 ≤ 126)), (by first | rfl | (simp; done) | (simp [*]; done) | (simp; exact (fun l_ : List UInt8 => by cases l_ <;> rfl : ∀ l_ : List UInt8, l_.isEmpty = !(l_ != [])) _)), H', ⟨by first | omega | exact Nat.le_refl _⟩, ⟨by repeat (first | (with_reducible first | exact HB.out | apply below_alloc | apply pw_below_drewN | apply below_drew1) | exact HB.out)⟩⟩
            · rw [if_neg c12] at H
              have c12b0 : decide (32 ≤ a3) = false := decide_eq_false c12
              clear c12
              have H' := Aside0.mk H
              clear H
              go_wp2
              go_meet
              case rel => exact ⟨_, (false), (by first | rfl | (simp; done) | (simp [*]; done) | (simp; exact (fun l_ : List UInt8 => by cases l_ <;> rfl : ∀ l_ : List UInt8, l_.isEmpty = !(l_ != [])) _)), H', ⟨by first | omega | exact Nat.le_refl _⟩, ⟨by repeat (first | (with_reducible first | exact HB.out | apply below_alloc | apply pw_below_drewN | apply below_drew1) | exact HB.out)⟩⟩
    case rest =>
      clear HC7
      try clear c1
      try clear p2
      try clear c6
      try clear c7
      try clear c9
      try clear c9b0
      try clear c9b1
      try clear c10
      try clear c10b0
      try clear c10b1
      try clear c11
      try clear c11b0
      try clear c11b1
      try clear c12
      try clear c12b0
      obtain ⟨kq, x35_6, rfl, HA, HJ6, HB⟩ := hcut
      cases kq with
      | zero => exact absurd HA.out (by simp [transhumancelaw7_DentBad.j0])
      | succ kj6 =>
        have H := HA.out
        clear HA
        simp only [transhumancelaw7_DentBad.j0] at H
        by_cases c13 : x35_6 = true
        · subst c13
          have H1 : (some true) = some r := by rw [if_pos rfl] at H; exact H
          clear H
          have H := H1
          clear H1
          obtain rfl := Option.some.inj H
          go_wp2
          go_ret
          exact ⟨by first | rfl | (simp [errW_none, errW_some] <;> rfl) | (simp [*, errW_none, errW_some] <;> rfl), by repeat (first | (with_reducible first | exact HB.out | apply below_alloc | apply pw_below_drewN | apply below_drew1) | exact HB.out)⟩
        · replace c13 := Bool.eq_false_iff.mpr c13
          subst c13
          have H1 : ((transhumancelaw5_Locks.f kj6 l0 l1 5).bind fun t209 => ((transhumanceref7_Write.f kj6 t209).bind fun t212 => (if 14 + t212.size ≤ 9223372036854775807 then (if ((⟨#[35, 32, 115, 111, 10, 108, 111, 99, 107, 115, 58, 10, 120, 10]⟩ : ByteArray) ++ t212).size + 5 ≤ 9223372036854775807 then ((transhumancelaw7_within.f a2 (wrap64 (((((⟨#[35, 32, 115, 111, 10, 108, 111, 99, 107, 115, 58, 10, 120, 10]⟩ : ByteArray) ++ t212) ++ (⟨#[35, 32, 101, 110, 100]⟩ : ByteArray)).size : Int) + 1))).bind fun t213 => (if 0 ≤ t213 then (if t213 ≤ ((((⟨#[35, 32, 115, 111, 10, 108, 111, 99, 107, 115, 58, 10, 120, 10]⟩ : ByteArray) ++ t212) ++ (⟨#[35, 32, 101, 110, 100]⟩ : ByteArray)).size : Int) then ((some (([a3] : List Int) : List Int)).bind fun y214 => (if ((((⟨#[35, 32, 115, 111, 10, 108, 111, 99, 107, 115, 58, 10, 120, 10]⟩ : ByteArray) ++ t212) ++ (⟨#[35, 32, 101, 110, 100]⟩ : ByteArray)).extract 0 (t213 : Int).toNat).size + (strOfNums y214).size ≤ 9223372036854775807 then (if (((((⟨#[35, 32, 115, 111, 10, 108, 111, 99, 107, 115, 58, 10, 120, 10]⟩ : ByteArray) ++ t212) ++ (⟨#[35, 32, 101, 110, 100]⟩ : ByteArray)).extract 0 (t213 : Int).toNat) ++ (strOfNums y214)).size + ((((⟨#[35, 32, 115, 111, 10, 108, 111, 99, 107, 115, 58, 10, 120, 10]⟩ : ByteArray) ++ t212) ++ (⟨#[35, 32, 101, 110, 100]⟩ : ByteArray)).extract (t213 : Int).toNat (((⟨#[35, 32, 115, 111, 10, 108, 111, 99, 107, 115, 58, 10, 120, 10]⟩ : ByteArray) ++ t212) ++ (⟨#[35, 32, 101, 110, 100]⟩ : ByteArray)).size).size ≤ 9223372036854775807 then ((dent_Locks.f ((((((⟨#[35, 32, 115, 111, 10, 108, 111, 99, 107, 115, 58, 10, 120, 10]⟩ : ByteArray) ++ t212) ++ (⟨#[35, 32, 101, 110, 100]⟩ : ByteArray)).extract 0 (t213 : Int).toNat) ++ (strOfNums y214)) ++ ((((⟨#[35, 32, 115, 111, 10, 108, 111, 99, 107, 115, 58, 10, 120, 10]⟩ : ByteArray) ++ t212) ++ (⟨#[35, 32, 101, 110, 100]⟩ : ByteArray)).extract (t213 : Int).toNat (((⟨#[35, 32, 115, 111, 10, 108, 111, 99, 107, 115, 58, 10, 120, 10]⟩ : ByteArray) ++ t212) ++ (⟨#[35, 32, 101, 110, 100]⟩ : ByteArray)).size))).bind fun bt217 => (if bt217.2.2.2 = 1 then ((transhumanceref1_Place.f kj6 ((((((⟨#[35, 32, 115, 111, 10, 108, 111, 99, 107, 115, 58, 10, 120, 10]⟩ : ByteArray) ++ t212) ++ (⟨#[35, 32, 101, 110, 100]⟩ : ByteArray)).extract 0 (t213 : Int).toNat) ++ (strOfNums y214)) ++ ((((⟨#[35, 32, 115, 111, 10, 108, 111, 99, 107, 115, 58, 10, 120, 10]⟩ : ByteArray) ++ t212) ++ (⟨#[35, 32, 101, 110, 100]⟩ : ByteArray)).extract (t213 : Int).toNat (((⟨#[35, 32, 115, 111, 10, 108, 111, 99, 107, 115, 58, 10, 120, 10]⟩ : ByteArray) ++ t212) ++ (⟨#[35, 32, 101, 110, 100]⟩ : ByteArray)).size)) t213).bind fun bt224 => (if (bt217.2.1 == bt224.1 && (bt217.2.2.1 == bt224.2)) = true then (some ((bt217.1.length : Int) == 0)) else (some false))) else (some false))) else (none)) else (none))) else (none)) else (none))) else (none)) else (none)))) = some r := by rw [if_neg (show ¬ (false = true) by decide)] at H; exact H
          clear H
          have H := H1
          clear H1
          replace H := Option.bind_eq_some_iff.mp H
          obtain ⟨t209, A140, H⟩ := H
          replace H : ((transhumanceref7_Write.f kj6 t209).bind fun t212 => (if 14 + t212.size ≤ 9223372036854775807 then (if ((⟨#[35, 32, 115, 111, 10, 108, 111, 99, 107, 115, 58, 10, 120, 10]⟩ : ByteArray) ++ t212).size + 5 ≤ 9223372036854775807 then ((transhumancelaw7_within.f a2 (wrap64 (((((⟨#[35, 32, 115, 111, 10, 108, 111, 99, 107, 115, 58, 10, 120, 10]⟩ : ByteArray) ++ t212) ++ (⟨#[35, 32, 101, 110, 100]⟩ : ByteArray)).size : Int) + 1))).bind fun t213 => (if 0 ≤ t213 then (if t213 ≤ ((((⟨#[35, 32, 115, 111, 10, 108, 111, 99, 107, 115, 58, 10, 120, 10]⟩ : ByteArray) ++ t212) ++ (⟨#[35, 32, 101, 110, 100]⟩ : ByteArray)).size : Int) then ((some (([a3] : List Int) : List Int)).bind fun y214 => (if ((((⟨#[35, 32, 115, 111, 10, 108, 111, 99, 107, 115, 58, 10, 120, 10]⟩ : ByteArray) ++ t212) ++ (⟨#[35, 32, 101, 110, 100]⟩ : ByteArray)).extract 0 (t213 : Int).toNat).size + (strOfNums y214).size ≤ 9223372036854775807 then (if (((((⟨#[35, 32, 115, 111, 10, 108, 111, 99, 107, 115, 58, 10, 120, 10]⟩ : ByteArray) ++ t212) ++ (⟨#[35, 32, 101, 110, 100]⟩ : ByteArray)).extract 0 (t213 : Int).toNat) ++ (strOfNums y214)).size + ((((⟨#[35, 32, 115, 111, 10, 108, 111, 99, 107, 115, 58, 10, 120, 10]⟩ : ByteArray) ++ t212) ++ (⟨#[35, 32, 101, 110, 100]⟩ : ByteArray)).extract (t213 : Int).toNat (((⟨#[35, 32, 115, 111, 10, 108, 111, 99, 107, 115, 58, 10, 120, 10]⟩ : ByteArray) ++ t212) ++ (⟨#[35, 32, 101, 110, 100]⟩ : ByteArray)).size).size ≤ 9223372036854775807 then ((dent_Locks.f ((((((⟨#[35, 32, 115, 111, 10, 108, 111, 99, 107, 115, 58, 10, 120, 10]⟩ : ByteArray) ++ t212) ++ (⟨#[35, 32, 101, 110, 100]⟩ : ByteArray)).extract 0 (t213 : Int).toNat) ++ (strOfNums y214)) ++ ((((⟨#[35, 32, 115, 111, 10, 108, 111, 99, 107, 115, 58, 10, 120, 10]⟩ : ByteArray) ++ t212) ++ (⟨#[35, 32, 101, 110, 100]⟩ : ByteArray)).extract (t213 : Int).toNat (((⟨#[35, 32, 115, 111, 10, 108, 111, 99, 107, 115, 58, 10, 120, 10]⟩ : ByteArray) ++ t212) ++ (⟨#[35, 32, 101, 110, 100]⟩ : ByteArray)).size))).bind fun bt217 => (if bt217.2.2.2 = 1 then ((transhumanceref1_Place.f kj6 ((((((⟨#[35, 32, 115, 111, 10, 108, 111, 99, 107, 115, 58, 10, 120, 10]⟩ : ByteArray) ++ t212) ++ (⟨#[35, 32, 101, 110, 100]⟩ : ByteArray)).extract 0 (t213 : Int).toNat) ++ (strOfNums y214)) ++ ((((⟨#[35, 32, 115, 111, 10, 108, 111, 99, 107, 115, 58, 10, 120, 10]⟩ : ByteArray) ++ t212) ++ (⟨#[35, 32, 101, 110, 100]⟩ : ByteArray)).extract (t213 : Int).toNat (((⟨#[35, 32, 115, 111, 10, 108, 111, 99, 107, 115, 58, 10, 120, 10]⟩ : ByteArray) ++ t212) ++ (⟨#[35, 32, 101, 110, 100]⟩ : ByteArray)).size)) t213).bind fun bt224 => (if (bt217.2.1 == bt224.1 && (bt217.2.2.1 == bt224.2)) = true then (some ((bt217.1.length : Int) == 0)) else (some false))) else (some false))) else (none)) else (none))) else (none)) else (none))) else (none)) else (none))) = some r := H
          have A14 := Aside0.mk A140
          clear A140
          replace H := Option.bind_eq_some_iff.mp H
          obtain ⟨t212, A150, H⟩ := H
          replace H : (if 14 + t212.size ≤ 9223372036854775807 then (if ((⟨#[35, 32, 115, 111, 10, 108, 111, 99, 107, 115, 58, 10, 120, 10]⟩ : ByteArray) ++ t212).size + 5 ≤ 9223372036854775807 then ((transhumancelaw7_within.f a2 (wrap64 (((((⟨#[35, 32, 115, 111, 10, 108, 111, 99, 107, 115, 58, 10, 120, 10]⟩ : ByteArray) ++ t212) ++ (⟨#[35, 32, 101, 110, 100]⟩ : ByteArray)).size : Int) + 1))).bind fun t213 => (if 0 ≤ t213 then (if t213 ≤ ((((⟨#[35, 32, 115, 111, 10, 108, 111, 99, 107, 115, 58, 10, 120, 10]⟩ : ByteArray) ++ t212) ++ (⟨#[35, 32, 101, 110, 100]⟩ : ByteArray)).size : Int) then ((some (([a3] : List Int) : List Int)).bind fun y214 => (if ((((⟨#[35, 32, 115, 111, 10, 108, 111, 99, 107, 115, 58, 10, 120, 10]⟩ : ByteArray) ++ t212) ++ (⟨#[35, 32, 101, 110, 100]⟩ : ByteArray)).extract 0 (t213 : Int).toNat).size + (strOfNums y214).size ≤ 9223372036854775807 then (if (((((⟨#[35, 32, 115, 111, 10, 108, 111, 99, 107, 115, 58, 10, 120, 10]⟩ : ByteArray) ++ t212) ++ (⟨#[35, 32, 101, 110, 100]⟩ : ByteArray)).extract 0 (t213 : Int).toNat) ++ (strOfNums y214)).size + ((((⟨#[35, 32, 115, 111, 10, 108, 111, 99, 107, 115, 58, 10, 120, 10]⟩ : ByteArray) ++ t212) ++ (⟨#[35, 32, 101, 110, 100]⟩ : ByteArray)).extract (t213 : Int).toNat (((⟨#[35, 32, 115, 111, 10, 108, 111, 99, 107, 115, 58, 10, 120, 10]⟩ : ByteArray) ++ t212) ++ (⟨#[35, 32, 101, 110, 100]⟩ : ByteArray)).size).size ≤ 9223372036854775807 then ((dent_Locks.f ((((((⟨#[35, 32, 115, 111, 10, 108, 111, 99, 107, 115, 58, 10, 120, 10]⟩ : ByteArray) ++ t212) ++ (⟨#[35, 32, 101, 110, 100]⟩ : ByteArray)).extract 0 (t213 : Int).toNat) ++ (strOfNums y214)) ++ ((((⟨#[35, 32, 115, 111, 10, 108, 111, 99, 107, 115, 58, 10, 120, 10]⟩ : ByteArray) ++ t212) ++ (⟨#[35, 32, 101, 110, 100]⟩ : ByteArray)).extract (t213 : Int).toNat (((⟨#[35, 32, 115, 111, 10, 108, 111, 99, 107, 115, 58, 10, 120, 10]⟩ : ByteArray) ++ t212) ++ (⟨#[35, 32, 101, 110, 100]⟩ : ByteArray)).size))).bind fun bt217 => (if bt217.2.2.2 = 1 then ((transhumanceref1_Place.f kj6 ((((((⟨#[35, 32, 115, 111, 10, 108, 111, 99, 107, 115, 58, 10, 120, 10]⟩ : ByteArray) ++ t212) ++ (⟨#[35, 32, 101, 110, 100]⟩ : ByteArray)).extract 0 (t213 : Int).toNat) ++ (strOfNums y214)) ++ ((((⟨#[35, 32, 115, 111, 10, 108, 111, 99, 107, 115, 58, 10, 120, 10]⟩ : ByteArray) ++ t212) ++ (⟨#[35, 32, 101, 110, 100]⟩ : ByteArray)).extract (t213 : Int).toNat (((⟨#[35, 32, 115, 111, 10, 108, 111, 99, 107, 115, 58, 10, 120, 10]⟩ : ByteArray) ++ t212) ++ (⟨#[35, 32, 101, 110, 100]⟩ : ByteArray)).size)) t213).bind fun bt224 => (if (bt217.2.1 == bt224.1 && (bt217.2.2.1 == bt224.2)) = true then (some ((bt217.1.length : Int) == 0)) else (some false))) else (some false))) else (none)) else (none))) else (none)) else (none))) else (none)) else (none)) = some r := H
          have A15 := Aside0.mk A150
          clear A150
          by_cases c16 : 14 + t212.size ≤ 9223372036854775807
          · rw [if_pos c16] at H
            have c16b0 := eq_true c16
            have c16b1 : decide (14 + t212.size ≤ 9223372036854775807) = true := decide_eq_true c16
            try have c16b2 : (9223372036854775807 < 14 + t212.size) = False := eq_false (Nat.not_lt.2 c16)
            by_cases c17 : ((⟨#[35, 32, 115, 111, 10, 108, 111, 99, 107, 115, 58, 10, 120, 10]⟩ : ByteArray) ++ t212).size + 5 ≤ 9223372036854775807
            · rw [if_pos c17] at H
              have c17b0 := eq_true c17
              have c17b1 : decide (((⟨#[35, 32, 115, 111, 10, 108, 111, 99, 107, 115, 58, 10, 120, 10]⟩ : ByteArray) ++ t212).size + 5 ≤ 9223372036854775807) = true := decide_eq_true c17
              try have c17b4 : (9223372036854775807 < 14 + t212.size + 5) = False := eq_false (by have h_ := c17; (try simp only [ByteArray.size_append] at h_); first | omega | (simp [go_sem] at h_; omega))
              try have c17b2 : (9223372036854775807 < ((⟨#[35, 32, 115, 111, 10, 108, 111, 99, 107, 115, 58, 10, 120, 10]⟩ : ByteArray) ++ t212).size + 5) = False := eq_false (Nat.not_lt.2 c17)
              replace H := Option.bind_eq_some_iff.mp H
              obtain ⟨t213, A180, H⟩ := H
              replace H : (if 0 ≤ t213 then (if t213 ≤ ((((⟨#[35, 32, 115, 111, 10, 108, 111, 99, 107, 115, 58, 10, 120, 10]⟩ : ByteArray) ++ t212) ++ (⟨#[35, 32, 101, 110, 100]⟩ : ByteArray)).size : Int) then ((some (([a3] : List Int) : List Int)).bind fun y214 => (if ((((⟨#[35, 32, 115, 111, 10, 108, 111, 99, 107, 115, 58, 10, 120, 10]⟩ : ByteArray) ++ t212) ++ (⟨#[35, 32, 101, 110, 100]⟩ : ByteArray)).extract 0 (t213 : Int).toNat).size + (strOfNums y214).size ≤ 9223372036854775807 then (if (((((⟨#[35, 32, 115, 111, 10, 108, 111, 99, 107, 115, 58, 10, 120, 10]⟩ : ByteArray) ++ t212) ++ (⟨#[35, 32, 101, 110, 100]⟩ : ByteArray)).extract 0 (t213 : Int).toNat) ++ (strOfNums y214)).size + ((((⟨#[35, 32, 115, 111, 10, 108, 111, 99, 107, 115, 58, 10, 120, 10]⟩ : ByteArray) ++ t212) ++ (⟨#[35, 32, 101, 110, 100]⟩ : ByteArray)).extract (t213 : Int).toNat (((⟨#[35, 32, 115, 111, 10, 108, 111, 99, 107, 115, 58, 10, 120, 10]⟩ : ByteArray) ++ t212) ++ (⟨#[35, 32, 101, 110, 100]⟩ : ByteArray)).size).size ≤ 9223372036854775807 then ((dent_Locks.f ((((((⟨#[35, 32, 115, 111, 10, 108, 111, 99, 107, 115, 58, 10, 120, 10]⟩ : ByteArray) ++ t212) ++ (⟨#[35, 32, 101, 110, 100]⟩ : ByteArray)).extract 0 (t213 : Int).toNat) ++ (strOfNums y214)) ++ ((((⟨#[35, 32, 115, 111, 10, 108, 111, 99, 107, 115, 58, 10, 120, 10]⟩ : ByteArray) ++ t212) ++ (⟨#[35, 32, 101, 110, 100]⟩ : ByteArray)).extract (t213 : Int).toNat (((⟨#[35, 32, 115, 111, 10, 108, 111, 99, 107, 115, 58, 10, 120, 10]⟩ : ByteArray) ++ t212) ++ (⟨#[35, 32, 101, 110, 100]⟩ : ByteArray)).size))).bind fun bt217 => (if bt217.2.2.2 = 1 then ((transhumanceref1_Place.f kj6 ((((((⟨#[35, 32, 115, 111, 10, 108, 111, 99, 107, 115, 58, 10, 120, 10]⟩ : ByteArray) ++ t212) ++ (⟨#[35, 32, 101, 110, 100]⟩ : ByteArray)).extract 0 (t213 : Int).toNat) ++ (strOfNums y214)) ++ ((((⟨#[35, 32, 115, 111, 10, 108, 111, 99, 107, 115, 58, 10, 120, 10]⟩ : ByteArray) ++ t212) ++ (⟨#[35, 32, 101, 110, 100]⟩ : ByteArray)).extract (t213 : Int).toNat (((⟨#[35, 32, 115, 111, 10, 108, 111, 99, 107, 115, 58, 10, 120, 10]⟩ : ByteArray) ++ t212) ++ (⟨#[35, 32, 101, 110, 100]⟩ : ByteArray)).size)) t213).bind fun bt224 => (if (bt217.2.1 == bt224.1 && (bt217.2.2.1 == bt224.2)) = true then (some ((bt217.1.length : Int) == 0)) else (some false))) else (some false))) else (none)) else (none))) else (none)) else (none)) = some r := H
              have A18 := Aside0.mk A180
              clear A180
              by_cases c19 : 0 ≤ t213
              · rw [if_pos c19] at H
                have c19b0 := eq_true c19
                have c19b1 : decide (0 ≤ t213) = true := decide_eq_true c19
                clear c19
                by_cases c20 : t213 ≤ ((((⟨#[35, 32, 115, 111, 10, 108, 111, 99, 107, 115, 58, 10, 120, 10]⟩ : ByteArray) ++ t212) ++ (⟨#[35, 32, 101, 110, 100]⟩ : ByteArray)).size : Int)
                · rw [if_pos c20] at H
                  have c20b0 := eq_true c20
                  have c20b9 : (t213 ≤ ((14 + ((t212.size : Nat) : Int)) + 5)) = True := eq_true (by have h_ := c20; simp only [ByteArray.size_append, Int.natCast_add] at h_; exact h_)
                  have c20b1 : decide (t213 ≤ ((((⟨#[35, 32, 115, 111, 10, 108, 111, 99, 107, 115, 58, 10, 120, 10]⟩ : ByteArray) ++ t212) ++ (⟨#[35, 32, 101, 110, 100]⟩ : ByteArray)).size : Int)) = true := decide_eq_true c20
                  obtain ⟨y214, hy214⟩ : ∃ y_ : List Int, y_ = (([a3] : List Int)) := ⟨_, rfl⟩
                  replace H : (if ((((⟨#[35, 32, 115, 111, 10, 108, 111, 99, 107, 115, 58, 10, 120, 10]⟩ : ByteArray) ++ t212) ++ (⟨#[35, 32, 101, 110, 100]⟩ : ByteArray)).extract 0 (t213 : Int).toNat).size + (strOfNums y214).size ≤ 9223372036854775807 then (if (((((⟨#[35, 32, 115, 111, 10, 108, 111, 99, 107, 115, 58, 10, 120, 10]⟩ : ByteArray) ++ t212) ++ (⟨#[35, 32, 101, 110, 100]⟩ : ByteArray)).extract 0 (t213 : Int).toNat) ++ (strOfNums y214)).size + ((((⟨#[35, 32, 115, 111, 10, 108, 111, 99, 107, 115, 58, 10, 120, 10]⟩ : ByteArray) ++ t212) ++ (⟨#[35, 32, 101, 110, 100]⟩ : ByteArray)).extract (t213 : Int).toNat (((⟨#[35, 32, 115, 111, 10, 108, 111, 99, 107, 115, 58, 10, 120, 10]⟩ : ByteArray) ++ t212) ++ (⟨#[35, 32, 101, 110, 100]⟩ : ByteArray)).size).size ≤ 9223372036854775807 then ((dent_Locks.f ((((((⟨#[35, 32, 115, 111, 10, 108, 111, 99, 107, 115, 58, 10, 120, 10]⟩ : ByteArray) ++ t212) ++ (⟨#[35, 32, 101, 110, 100]⟩ : ByteArray)).extract 0 (t213 : Int).toNat) ++ (strOfNums y214)) ++ ((((⟨#[35, 32, 115, 111, 10, 108, 111, 99, 107, 115, 58, 10, 120, 10]⟩ : ByteArray) ++ t212) ++ (⟨#[35, 32, 101, 110, 100]⟩ : ByteArray)).extract (t213 : Int).toNat (((⟨#[35, 32, 115, 111, 10, 108, 111, 99, 107, 115, 58, 10, 120, 10]⟩ : ByteArray) ++ t212) ++ (⟨#[35, 32, 101, 110, 100]⟩ : ByteArray)).size))).bind fun bt217 => (if bt217.2.2.2 = 1 then ((transhumanceref1_Place.f kj6 ((((((⟨#[35, 32, 115, 111, 10, 108, 111, 99, 107, 115, 58, 10, 120, 10]⟩ : ByteArray) ++ t212) ++ (⟨#[35, 32, 101, 110, 100]⟩ : ByteArray)).extract 0 (t213 : Int).toNat) ++ (strOfNums y214)) ++ ((((⟨#[35, 32, 115, 111, 10, 108, 111, 99, 107, 115, 58, 10, 120, 10]⟩ : ByteArray) ++ t212) ++ (⟨#[35, 32, 101, 110, 100]⟩ : ByteArray)).extract (t213 : Int).toNat (((⟨#[35, 32, 115, 111, 10, 108, 111, 99, 107, 115, 58, 10, 120, 10]⟩ : ByteArray) ++ t212) ++ (⟨#[35, 32, 101, 110, 100]⟩ : ByteArray)).size)) t213).bind fun bt224 => (if (bt217.2.1 == bt224.1 && (bt217.2.2.1 == bt224.2)) = true then (some ((bt217.1.length : Int) == 0)) else (some false))) else (some false))) else (none)) else (none)) = some r := by first | (rw [hy214]; with_reducible exact H) | (have H2_ := (Option.bind_some _ _).symm.trans H; rw [hy214]; with_reducible exact H2_) | (have H2_ := (Option.bind_some _ _).symm.trans H; with_reducible exact H2_) | with_reducible exact H | (rw [hy214]; exact H) | exact H
                  have Ny214 := Aside0.mk hy214
                  clear hy214
                  by_cases c21 : ((((⟨#[35, 32, 115, 111, 10, 108, 111, 99, 107, 115, 58, 10, 120, 10]⟩ : ByteArray) ++ t212) ++ (⟨#[35, 32, 101, 110, 100]⟩ : ByteArray)).extract 0 (t213 : Int).toNat).size + (strOfNums y214).size ≤ 9223372036854775807
                  · rw [if_pos c21] at H
                    have cA9 : (9223372036854775807 < t213.toNat + (strOfNums y214).size) = False := eq_false (by have hT_ : ((((⟨#[35, 32, 115, 111, 10, 108, 111, 99, 107, 115, 58, 10, 120, 10]⟩ : ByteArray) ++ t212) ++ (⟨#[35, 32, 101, 110, 100]⟩ : ByteArray))).size = 14 + t212.size + 5 := (by simp only [ByteArray.size_append]; first | done | rfl); have h1_ := c21; have h2_ := of_eq_true c20b9; rw [ByteArray.size_extract, hT_] at h1_; omega)
                    have c21b0 := eq_true c21
                    have c21b1 : decide (((((⟨#[35, 32, 115, 111, 10, 108, 111, 99, 107, 115, 58, 10, 120, 10]⟩ : ByteArray) ++ t212) ++ (⟨#[35, 32, 101, 110, 100]⟩ : ByteArray)).extract 0 (t213 : Int).toNat).size + (strOfNums y214).size ≤ 9223372036854775807) = true := decide_eq_true c21
                    try have c21b2 : (9223372036854775807 < ((((⟨#[35, 32, 115, 111, 10, 108, 111, 99, 107, 115, 58, 10, 120, 10]⟩ : ByteArray) ++ t212) ++ (⟨#[35, 32, 101, 110, 100]⟩ : ByteArray)).extract 0 (t213 : Int).toNat).size + (strOfNums y214).size) = False := eq_false (Nat.not_lt.2 c21)
                    have c22b0 := eq_true (of_decide_eq_true (by first | (with_reducible assumption) | assumption) : 0 ≤ t213)
                    have c23b0 := eq_true (of_decide_eq_true (by first | (with_reducible assumption) | assumption) : t213 ≤ ((((⟨#[35, 32, 115, 111, 10, 108, 111, 99, 107, 115, 58, 10, 120, 10]⟩ : ByteArray) ++ t212) ++ (⟨#[35, 32, 101, 110, 100]⟩ : ByteArray)).size : Int))
                    by_cases c24 : (((((⟨#[35, 32, 115, 111, 10, 108, 111, 99, 107, 115, 58, 10, 120, 10]⟩ : ByteArray) ++ t212) ++ (⟨#[35, 32, 101, 110, 100]⟩ : ByteArray)).extract 0 (t213 : Int).toNat) ++ (strOfNums y214)).size + ((((⟨#[35, 32, 115, 111, 10, 108, 111, 99, 107, 115, 58, 10, 120, 10]⟩ : ByteArray) ++ t212) ++ (⟨#[35, 32, 101, 110, 100]⟩ : ByteArray)).extract (t213 : Int).toNat (((⟨#[35, 32, 115, 111, 10, 108, 111, 99, 107, 115, 58, 10, 120, 10]⟩ : ByteArray) ++ t212) ++ (⟨#[35, 32, 101, 110, 100]⟩ : ByteArray)).size).size ≤ 9223372036854775807
                    · rw [if_pos c24] at H
                      have cB9 : (9223372036854775807 < t213.toNat + (strOfNums y214).size + (14 + t212.size + 5 - t213.toNat)) = False := eq_false (by have hT_ : ((((⟨#[35, 32, 115, 111, 10, 108, 111, 99, 107, 115, 58, 10, 120, 10]⟩ : ByteArray) ++ t212) ++ (⟨#[35, 32, 101, 110, 100]⟩ : ByteArray))).size = 14 + t212.size + 5 := (by simp only [ByteArray.size_append]; first | done | rfl); have h1_ := c24; have h2_ := of_eq_true c20b9; rw [ByteArray.size_append, ByteArray.size_extract, ByteArray.size_extract, hT_] at h1_; omega)
                      have c24b0 := eq_true c24
                      have c24b1 : decide ((((((⟨#[35, 32, 115, 111, 10, 108, 111, 99, 107, 115, 58, 10, 120, 10]⟩ : ByteArray) ++ t212) ++ (⟨#[35, 32, 101, 110, 100]⟩ : ByteArray)).extract 0 (t213 : Int).toNat) ++ (strOfNums y214)).size + ((((⟨#[35, 32, 115, 111, 10, 108, 111, 99, 107, 115, 58, 10, 120, 10]⟩ : ByteArray) ++ t212) ++ (⟨#[35, 32, 101, 110, 100]⟩ : ByteArray)).extract (t213 : Int).toNat (((⟨#[35, 32, 115, 111, 10, 108, 111, 99, 107, 115, 58, 10, 120, 10]⟩ : ByteArray) ++ t212) ++ (⟨#[35, 32, 101, 110, 100]⟩ : ByteArray)).size).size ≤ 9223372036854775807) = true := decide_eq_true c24
                      try have c24b4 : (9223372036854775807 < ((((⟨#[35, 32, 115, 111, 10, 108, 111, 99, 107, 115, 58, 10, 120, 10]⟩ : ByteArray) ++ t212) ++ (⟨#[35, 32, 101, 110, 100]⟩ : ByteArray)).extract 0 (t213 : Int).toNat).size + (strOfNums y214).size + ((((⟨#[35, 32, 115, 111, 10, 108, 111, 99, 107, 115, 58, 10, 120, 10]⟩ : ByteArray) ++ t212) ++ (⟨#[35, 32, 101, 110, 100]⟩ : ByteArray)).extract (t213 : Int).toNat (((⟨#[35, 32, 115, 111, 10, 108, 111, 99, 107, 115, 58, 10, 120, 10]⟩ : ByteArray) ++ t212) ++ (⟨#[35, 32, 101, 110, 100]⟩ : ByteArray)).size).size) = False := eq_false (by have h_ := c24; (try simp only [ByteArray.size_append] at h_); first | omega | (simp [go_sem] at h_; omega))
                      try have c24b2 : (9223372036854775807 < (((((⟨#[35, 32, 115, 111, 10, 108, 111, 99, 107, 115, 58, 10, 120, 10]⟩ : ByteArray) ++ t212) ++ (⟨#[35, 32, 101, 110, 100]⟩ : ByteArray)).extract 0 (t213 : Int).toNat) ++ (strOfNums y214)).size + ((((⟨#[35, 32, 115, 111, 10, 108, 111, 99, 107, 115, 58, 10, 120, 10]⟩ : ByteArray) ++ t212) ++ (⟨#[35, 32, 101, 110, 100]⟩ : ByteArray)).extract (t213 : Int).toNat (((⟨#[35, 32, 115, 111, 10, 108, 111, 99, 107, 115, 58, 10, 120, 10]⟩ : ByteArray) ++ t212) ++ (⟨#[35, 32, 101, 110, 100]⟩ : ByteArray)).size).size) = False := eq_false (Nat.not_lt.2 c24)
                      replace H := Option.bind_eq_some_iff.mp H
                      obtain ⟨⟨t217, t220, t221, t222⟩, A250, H⟩ := H
                      replace H : (if t222 = 1 then ((transhumanceref1_Place.f kj6 ((((((⟨#[35, 32, 115, 111, 10, 108, 111, 99, 107, 115, 58, 10, 120, 10]⟩ : ByteArray) ++ t212) ++ (⟨#[35, 32, 101, 110, 100]⟩ : ByteArray)).extract 0 (t213 : Int).toNat) ++ (strOfNums y214)) ++ ((((⟨#[35, 32, 115, 111, 10, 108, 111, 99, 107, 115, 58, 10, 120, 10]⟩ : ByteArray) ++ t212) ++ (⟨#[35, 32, 101, 110, 100]⟩ : ByteArray)).extract (t213 : Int).toNat (((⟨#[35, 32, 115, 111, 10, 108, 111, 99, 107, 115, 58, 10, 120, 10]⟩ : ByteArray) ++ t212) ++ (⟨#[35, 32, 101, 110, 100]⟩ : ByteArray)).size)) t213).bind fun bt224 => (if (t220 == bt224.1 && (t221 == bt224.2)) = true then (some ((t217.length : Int) == 0)) else (some false))) else (some false)) = some r := H
                      have A25 := Aside0.mk A250
                      clear A250
                      by_cases c26 : t222 = 1
                      · rw [if_pos c26] at H
                        have c26b0 : (t222 == 1) = true := beq_iff_eq.mpr c26
                        have c26b1 : (t222 != 1) = false := bne_eq_false_iff_eq.mpr c26
                        clear c26
                        replace H := Option.bind_eq_some_iff.mp H
                        obtain ⟨⟨t224, t225⟩, A270, H⟩ := H
                        replace H : (if (t220 == t224 && (t221 == t225)) = true then (some ((t217.length : Int) == 0)) else (some false)) = some r := H
                        have A27 := Aside0.mk A270
                        clear A270
                        by_cases c28 : (t220 == t224 && (t221 == t225)) = true
                        · rw [if_pos c28] at H
                          have c28b0 : (t220 == t224 && (t221 == t225)) = true := c28
                          (try (have c28b1 : decide (t220 = t224 && (t221 == t225)) = true := by simpa using c28))
                          (try (have c28b2 : (t220 == t224 && (t221 == t225)) = true := by simpa using c28))
                          clear c28
                          obtain rfl := Option.some.inj H
                          try go_wp2_with (first | ((with_reducible refine gate_callee (f := 11) rfl ?_); refine goesL_ (some 38) rfl rfl Tryz.func11 (by kernel_rfl) rfl #[.slice A0 l0.length c0, .slice A1 l1.length c1, .int .i64 5] rfl (by (try simp only [List.map_toArray, List.map_cons, List.map_nil]); first | done | rfl | (simp only [List.length_drop, List.length_take]; rfl) | (simp only [ByteArray.size_append, Int.natCast_add]; first | done | rfl)) ?_; (with_reducible refine (transhumancelaw5_Locks.calls kj6 _ _ l0 _ _ l1 5 t209 _ ?side1 ?side2 ?side3 ?side4 A14.out).mono ?_); (case side1 => repeat (first | exact (Kd.C_below HR0.out HB.out) | (with_reducible refine Kd.C_alloc ?_ _) | (with_reducible refine Kd.C_drewN ?_ _) | (with_reducible refine Kd.C_drew ?_))); (case side2 => exact HC0.out); (case side3 => repeat (first | exact (Kd.C_below HR1.out HB.out) | (with_reducible refine Kd.C_alloc ?_ _) | (with_reducible refine Kd.C_drewN ?_ _) | (with_reducible refine Kd.C_drew ?_))); (case side4 => exact HC1.out); rintro e w29 ⟨v210, rfl, ho0, hb⟩; refine ⟨_, rfl, ?_⟩; have n0_ := Aside0.mk (Kd.R_lower ho0 (below_size (by repeat (first | (with_reducible first | exact HB.out | apply below_alloc | apply pw_below_drewN | apply below_drew1) | exact HB.out)))); have n1_ := Aside0.mk (below_step (by repeat (first | (with_reducible first | exact HB.out | apply below_alloc | apply pw_below_drewN | apply below_drew1) | exact HB.out)) hb); clear HB; have HO211 := n0_; have HB := n1_; clear n0_ n1_; (try clear hb); (try clear hb2); (try clear hk); (try clear hi); (try clear ho0); obtain ⟨Ao30, co30, eo30⟩ := Kd.R_slice HO211.out; subst eo30) | ((with_reducible refine gate_callee (f := 14) rfl ?_); refine goesL_ (some 39) rfl rfl Tryz.func14 (by kernel_rfl) rfl #[.slice Ao30 t209.length co30] rfl (by (try simp only [List.map_toArray, List.map_cons, List.map_nil]); first | done | rfl | (simp only [List.length_drop, List.length_take]; rfl) | (simp only [ByteArray.size_append, Int.natCast_add]; first | done | rfl)) ?_; (with_reducible refine (transhumanceref7_Write.calls kj6 _ _ t209 t212 _ ?side1 ?side2 A15.out).mono ?_); (case side1 => repeat (first | exact (Kd.R_reads' HO211.out).2.2 | (with_reducible refine Kd.C_alloc ?_ _) | (with_reducible refine Kd.C_drewN ?_ _) | (with_reducible refine Kd.C_drew ?_))); (case side2 => exact (Kd.R_reads' HO211.out).2.1); rintro e w31 ⟨rfl, hb⟩; refine ⟨_, rfl, ?_⟩; have n0_ := Aside0.mk (Kd.R_below (by (with_reducible repeat (first | apply Kd.R_alloc | apply Kd.R_drewN | apply Kd.R_drew)); exact HO211.out) hb); have n1_ := Aside0.mk (below_step (by repeat (first | (with_reducible first | exact HB.out | apply below_alloc | apply pw_below_drewN | apply below_drew1) | exact HB.out)) hb); clear HO211; clear HB; have HO211 := n0_; have HB := n1_; clear n0_ n1_; (try clear hb); (try clear hb2); (try clear hk); (try clear hi)) | ((with_reducible refine gate_callee (f := 16) rfl ?_); refine goesL_ (some 46) rfl rfl Tryz.func16 (by kernel_rfl) rfl #[.int .i64 a2, .int .i64 (wrap64 (((((⟨#[35, 32, 115, 111, 10, 108, 111, 99, 107, 115, 58, 10, 120, 10]⟩ : ByteArray) ++ t212) ++ (⟨#[35, 32, 101, 110, 100]⟩ : ByteArray)).size : Int) + 1))] rfl (by (try simp only [List.map_toArray, List.map_cons, List.map_nil]); first | done | rfl | (simp only [List.length_drop, List.length_take]; rfl) | (simp only [ByteArray.size_append, Int.natCast_add]; first | done | rfl)) ?_; (with_reducible refine (transhumancelaw7_within.calls a2 (wrap64 (((((⟨#[35, 32, 115, 111, 10, 108, 111, 99, 107, 115, 58, 10, 120, 10]⟩ : ByteArray) ++ t212) ++ (⟨#[35, 32, 101, 110, 100]⟩ : ByteArray)).size : Int) + 1)) t213 _ A18.out).mono ?_); rintro e w' ⟨rfl, ⟨nd, rfl⟩⟩; refine ⟨_, rfl, ?_⟩; (try (rw [drewN_self w31]; generalize hq_ : World.drewN w31 _ = w31; have n0_ : Aside0 (Kd.R k43 43 w31 w.heap.size (fun _ => True) (.slice Ao30 t209.length co30) t209) := ⟨by rw [← hq_]; exact (by (with_reducible repeat (first | apply Kd.R_alloc | apply Kd.R_drewN | apply Kd.R_drew)); exact HO211.out)⟩; have n1_ : Aside0 (Below w.heap.size w w31) := ⟨by rw [← hq_]; exact (by repeat (first | (with_reducible first | exact HB.out | apply below_alloc | apply pw_below_drewN | apply below_drew1) | exact HB.out))⟩; clear HO211 HB hq_; have HO211 := n0_; have HB := n1_; clear n0_ n1_))))
                          have n0_ := Aside0.mk (Kd.R_drew HO211.out)
                          have n1_ := Aside0.mk (below_drew1 HB.out)
                          clear HO211
                          clear HB
                          have HO211 := n0_
                          have HB := n1_
                          clear n0_ n1_
                          refine start_ (n := 12) (S := fun w' => True) (ds := []) #[false, false, false, false, false, false, false, false, false, false, false, false] (by kernel_rfl) rfl rfl trivial (fun hHeld => ?_); refine with_tabW transhumancelaw7_DentBad.tab7 transhumancelaw7_DentBad.bits7 (fun HT_ HW_ => ?_)
                          generalize w31.drew = w32 at HO211 HB hHeld ⊢
                          refine pure_ (i := 0) (N := some 47) (v := ?_) (a' := ?_) #[true, false, false, false, false, false, false, false, false, false, false, false] rfl rfl (any_of HT_.out (by kernel_rfl)) (fun _ _ _ h => h) (Or.inl ⟨by rfl, ?_⟩) ?_ ?_
                          rotate_left
                          · intro w'
                            go_simp
                            with_reducible rfl
                          rotate_left
                          · simp only [Act.put, List.setIfInBounds_toArray, List.set_cons_zero, List.set_cons_succ, i64_w, i32_w]
                            rfl
                          refine pure_ (i := 1) (N := some 48) (v := ?_) (a' := ?_) #[true, true, false, false, false, false, false, false, false, false, false, false] rfl rfl (any_of HT_.out (by kernel_rfl)) (fun _ _ _ h => h) (Or.inl ⟨by rfl, ?_⟩) ?_ ?_
                          rotate_left
                          · intro w'
                            go_simp
                            with_reducible rfl
                          rotate_left
                          · simp only [Act.put, List.setIfInBounds_toArray, List.set_cons_zero, List.set_cons_succ, i64_w, i32_w]
                            rfl
                          refine pure_ (i := 2) (N := some 49) (v := ?_) (a' := ?_) #[true, true, true, false, false, false, false, false, false, false, false, false] rfl rfl (any_of HT_.out (by kernel_rfl)) (fun _ _ _ h => h) (Or.inl ⟨by rfl, ?_⟩) ?_ ?_
                          rotate_left
                          · intro w'
                            go_simp
                            with_reducible rfl
                          rotate_left
                          · simp only [Act.put, List.setIfInBounds_toArray, List.set_cons_zero, List.set_cons_succ, i64_w, i32_w]
                            rfl
                          refine pure_ (i := 3) (N := some 50) (v := ?_) (a' := ?_) #[true, true, true, true, false, false, false, false, false, false, false, false] rfl rfl (any_of HT_.out (by kernel_rfl)) (fun _ _ _ h => h) (Or.inl ⟨by rfl, ?_⟩) ?_ ?_
                          rotate_left
                          · intro w'
                            go_simp
                            with_reducible rfl
                          rotate_left
                          · simp only [Act.put, List.setIfInBounds_toArray, List.set_cons_zero, List.set_cons_succ, i64_w, i32_w]
                            rfl
                          refine pure_ (i := 7) (N := some 54) (v := ?_) (a' := ?_) #[true, true, true, true, false, false, false, true, false, false, false, false] rfl rfl (any_of HT_.out (by kernel_rfl)) (fun _ _ _ h => h) (Or.inl ⟨by rfl, ?_⟩) ?_ ?_
                          rotate_left
                          · intro w'
                            go_simp
                            with_reducible rfl
                          rotate_left
                          · simp only [Act.put, List.setIfInBounds_toArray, List.set_cons_zero, List.set_cons_succ, i64_w, i32_w]
                            rfl
                          refine pure_ (i := 8) (N := some 55) (v := ?_) (a' := ?_) #[true, true, true, true, false, false, false, true, true, false, false, false] rfl rfl (any_of HT_.out (by kernel_rfl)) (fun _ _ _ h => h) (Or.inl ⟨by rfl, ?_⟩) ?_ ?_
                          rotate_left
                          · intro w'
                            go_simp
                            with_reducible rfl
                          rotate_left
                          · simp only [Act.put, List.setIfInBounds_toArray, List.set_cons_zero, List.set_cons_succ, i64_w, i32_w]
                            rfl
                          refine pure_ (i := 9) (N := some 56) (v := ?_) (a' := ?_) #[true, true, true, true, false, false, false, true, true, true, false, false] rfl rfl (any_of HT_.out (by kernel_rfl)) (fun _ _ _ h => h) (Or.inl ⟨by rfl, ?_⟩) ?_ ?_
                          rotate_left
                          · intro w'
                            go_simp
                            with_reducible rfl
                          rotate_left
                          · simp only [Act.put, List.setIfInBounds_toArray, List.set_cons_zero, List.set_cons_succ, i64_w, i32_w]
                            rfl
                          refine one_ (i := 4) (N := some 51) #[true, true, true, true, true, false, false, true, true, true, false, false] rfl rfl (one_of HT_.out (by kernel_rfl)) (by decide) (fun K hK => ?_)
                          refine Kd.R_lit_step (Kd.int .u8) _ 5 ?hg (N := 51) ?hd (xs := ([a3] : List Int)) (inner := [.int .u8 a3]) (ok := fun _ => True) (okp := fun _ => True) ?hr ?hp (fun _ hk => hk) trivial (Below.refl _ _) (Nat.le_refl _) (by simp) ?_; (case hd => rfl); (case hg => rfl); (case hr => first | (go_simp; done) | (go_simp; rfl)); (case hp => exact (Reps.one (show Kd.M (Kd.int .u8) _ _ _ a3 [.int .u8 a3] from rfl) (Reps.none _ _)))
                          intro v215 w33 ho34 hb hg_ hnew_
                          clear hg_ hnew_
                          (first | rw [← Ny214.out] at ho34 | (simp only [Int.reduceToNat] at ho34; rw [← Ny214.out] at ho34))
                          have n0_ := Aside0.mk (Kd.R_below (by (with_reducible repeat (first | apply Kd.R_alloc | apply Kd.R_drewN | apply Kd.R_drew)); exact HO211.out) hb)
                          have n1_ := Aside0.mk (Kd.R_lower ho34 (below_size (by repeat (first | (with_reducible first | exact HB.out | apply below_alloc | apply pw_below_drewN | apply below_drew1) | exact HB.out))))
                          have n2_ := Aside0.mk (below_step (by repeat (first | (with_reducible first | exact HB.out | apply below_alloc | apply pw_below_drewN | apply below_drew1) | exact HB.out)) hb)
                          clear HO211
                          clear HB
                          have HO211 := n0_
                          have HO216 := n1_
                          have HB := n2_
                          clear n0_ n1_ n2_
                          clear hb ho34
                          refine hK.out _ _ trivial (fun hHeld => ?_)
                          clear hK K
                          refine norm_ (a' := ?_) ?_ ?_
                          rotate_left
                          · show Act.put _ (some 51) _ = _
                            simp only [Act.put, List.setIfInBounds_toArray, List.set_cons_zero, List.set_cons_succ, i64_w, i32_w]
                            rfl
                          refine one_ (i := 5) (N := some 52) #[true, true, true, true, true, true, false, true, true, true, false, false] rfl rfl (one_of HT_.out (by kernel_rfl)) (by decide) (fun K hK => ?_)
                          have hcv35 := own_string (P := Tryz.prog) Tryz.underlying23 Tryz.underlying5 Tryz.underlying9 (Kd.own_of_R HO216.out)
                          refine value_ (w1 := ?_) (v := ?_) (by rfl) rfl ?_ ?_
                          rotate_left 2
                          · go_simp
                            constructor
                            · rfl
                            · rfl
                          clear hcv35
                          refine hK.out _ _ trivial (fun hHeld => ?_)
                          clear hK K
                          refine norm_ (a' := ?_) ?_ ?_
                          rotate_left
                          · show Act.put _ (some 52) _ = _
                            simp only [Act.put, List.setIfInBounds_toArray, List.set_cons_zero, List.set_cons_succ, i64_w, i32_w]
                            rfl
                          refine pure_ (i := 6) (N := some 53) (v := ?_) (a' := ?_) #[true, true, true, true, true, true, true, true, true, true, false, false] rfl rfl (any_of HT_.out (by kernel_rfl)) (fun _ _ _ h => h) (Or.inl ⟨by rfl, ?_⟩) ?_ ?_
                          rotate_left
                          · intro w'
                            go_simp
                            with_reducible rfl
                          rotate_left
                          · simp only [Act.put, List.setIfInBounds_toArray, List.set_cons_zero, List.set_cons_succ, i64_w, i32_w]
                            rfl
                          refine pure_ (i := 10) (N := some 57) (v := ?_) (a' := ?_) #[true, true, true, true, true, true, true, true, true, true, true, false] rfl rfl (any_of HT_.out (by kernel_rfl)) (fun _ _ _ h => h) (Or.inl ⟨by rfl, ?_⟩) ?_ ?_
                          rotate_left
                          · intro w'
                            go_simp
                            with_reducible rfl
                          rotate_left
                          · simp only [Act.put, List.setIfInBounds_toArray, List.set_cons_zero, List.set_cons_succ, i64_w, i32_w]
                            rfl
                          refine pure_ (i := 11) (N := some 11) (v := ?_) (a' := ?_) #[true, true, true, true, true, true, true, true, true, true, true, true] rfl rfl (any_of HT_.out (by kernel_rfl)) (fun _ _ _ h => h) (Or.inl ⟨by rfl, ?_⟩) ?_ ?_
                          rotate_left
                          · intro w'
                            go_simp
                            with_reducible rfl
                          rotate_left
                          · simp only [Act.put, List.setIfInBounds_toArray, List.set_cons_zero, List.set_cons_succ, i64_w, i32_w]
                            rfl
                          refine done_ (done_of HT_.out (by kernel_rfl)) ?_
                          try go_wp2_with (first | ((with_reducible refine gate_callee (f := 13) rfl ?_); refine goesL_ (some 60) rfl rfl Tryz.func13 (by kernel_rfl) rfl #[.string ((((((⟨#[35, 32, 115, 111, 10, 108, 111, 99, 107, 115, 58, 10, 120, 10]⟩ : ByteArray) ++ t212) ++ (⟨#[35, 32, 101, 110, 100]⟩ : ByteArray)).extract 0 (t213 : Int).toNat) ++ (strOfNums y214)) ++ ((((⟨#[35, 32, 115, 111, 10, 108, 111, 99, 107, 115, 58, 10, 120, 10]⟩ : ByteArray) ++ t212) ++ (⟨#[35, 32, 101, 110, 100]⟩ : ByteArray)).extract (t213 : Int).toNat (((⟨#[35, 32, 115, 111, 10, 108, 111, 99, 107, 115, 58, 10, 120, 10]⟩ : ByteArray) ++ t212) ++ (⟨#[35, 32, 101, 110, 100]⟩ : ByteArray)).size))] rfl (by (try simp only [List.map_toArray, List.map_cons, List.map_nil]); first | done | rfl | (simp only [List.length_drop, List.length_take]; rfl) | (simp only [ByteArray.size_append, Int.natCast_add]; first | done | rfl)) ?_; (with_reducible refine (dent_Locks.calls ((((((⟨#[35, 32, 115, 111, 10, 108, 111, 99, 107, 115, 58, 10, 120, 10]⟩ : ByteArray) ++ t212) ++ (⟨#[35, 32, 101, 110, 100]⟩ : ByteArray)).extract 0 (t213 : Int).toNat) ++ (strOfNums y214)) ++ ((((⟨#[35, 32, 115, 111, 10, 108, 111, 99, 107, 115, 58, 10, 120, 10]⟩ : ByteArray) ++ t212) ++ (⟨#[35, 32, 101, 110, 100]⟩ : ByteArray)).extract (t213 : Int).toNat (((⟨#[35, 32, 115, 111, 10, 108, 111, 99, 107, 115, 58, 10, 120, 10]⟩ : ByteArray) ++ t212) ++ (⟨#[35, 32, 101, 110, 100]⟩ : ByteArray)).size)) t217 t220 t221 t222 _ ?side1 A25.out).mono ?_); (case side1 => exact GL.below0 hG (by repeat (first | (with_reducible first | exact HB.out | apply below_alloc | apply pw_below_drewN | apply below_drew1) | exact HB.out))); rintro e w36 ⟨v218, rfl, ho0, hb⟩; refine ⟨_, rfl, ?_⟩; have n0_ := Aside0.mk (Kd.R_elder' (by (with_reducible repeat (first | apply Kd.R_alloc | apply Kd.R_drewN | apply Kd.R_drew)); exact HO211.out) (Kd.R_base ho0) hb); have n1_ := Aside0.mk (Kd.R_below (by (with_reducible repeat (first | apply Kd.R_alloc | apply Kd.R_drewN | apply Kd.R_drew)); exact HO216.out) hb); have n2_ := Aside0.mk (Kd.R_lower (Kd.R_new' ho0 (Kd.R_lt (by (with_reducible repeat (first | apply Kd.R_alloc | apply Kd.R_drewN | apply Kd.R_drew)); exact HO211.out))) (below_size (by repeat (first | (with_reducible first | exact HB.out | apply below_alloc | apply pw_below_drewN | apply below_drew1) | exact HB.out)))); have n3_ := Aside0.mk (below_step (by repeat (first | (with_reducible first | exact HB.out | apply below_alloc | apply pw_below_drewN | apply below_drew1) | exact HB.out)) hb); clear HO211; clear HO216; clear HB; have HO211 := n0_; have HO216 := n1_; have HO219 := n2_; have HB := n3_; clear n0_ n1_ n2_ n3_; (try clear hb); (try clear hb2); (try clear hk); (try clear hi); (try clear ho0)) | ((with_reducible refine gate_dst (N := 13) rfl ?_); (try (refine gate_guard (by rfl) ?_; dsimp only)); refine box_event ?hg (N := 13) ?hd (cs := #[.int .i64 0, .int .i64 0]) (t := 29) ?hr ?_; (case hd => rfl); (case hg => rfl); (case hr => first | (go_simp; done) | (go_simp; rfl)); intro gb223 hg w37 hbox hb; have n0_ := Aside0.mk (Kd.R_below (by (with_reducible repeat (first | apply Kd.R_alloc | apply Kd.R_drewN | apply Kd.R_drew)); exact HO211.out) hb); have n1_ := Aside0.mk (Kd.R_below (by (with_reducible repeat (first | apply Kd.R_alloc | apply Kd.R_drewN | apply Kd.R_drew)); exact HO216.out) hb); have n2_ := Aside0.mk (Kd.R_below (by (with_reducible repeat (first | apply Kd.R_alloc | apply Kd.R_drewN | apply Kd.R_drew)); exact HO219.out) hb); have n3_ := Aside0.mk (below_step (by repeat (first | (with_reducible first | exact HB.out | apply below_alloc | apply pw_below_drewN | apply below_drew1) | exact HB.out)) hb); have n4_ := Aside0.mk (hbox); have n5_ := Aside0.mk ((by rw [hg]; exact (below_size (by repeat (first | (with_reducible first | exact HB.out | apply below_alloc | apply pw_below_drewN | apply below_drew1) | exact HB.out))) : w.heap.size ≤ gb223)); have n6_ := Aside0.mk ((by rw [hg]; exact (below_size (by repeat (first | (with_reducible first | exact HB.out | apply below_alloc | apply pw_below_drewN | apply below_drew1) | exact HB.out))) : w.heap.size ≤ gb223)); clear HO211; clear HO216; clear HO219; clear HB; have HO211 := n0_; have HO216 := n1_; have HO219 := n2_; have HB := n3_; have BK223 := n4_; have GW223 := n5_; have GE223 := n6_; clear n0_ n1_ n2_ n3_ n4_ n5_ n6_; clear hb hbox hg; have hcz38_0 : w37.cell? ⟨gb223, 0, none⟩ = some (.int .i64 0) := (blk_cell BK223.out 0).trans rfl; have hcz38_1 : w37.cell? ⟨gb223, 1, none⟩ = some (.int .i64 0) := (blk_cell BK223.out 1).trans rfl; have hfz38_0 := blk_frozen BK223.out 0; have hfz38_1 := blk_frozen BK223.out 1))
                          have n0_ : Aside0 (Kd.R k43 43 ((w37.setCell ⟨gb223, 0, none⟩ (.int .i64 t220)).setCell ⟨gb223, 1, none⟩ (.int .i64 t221)) w.heap.size (fun k_ => some k_ ≠ (v218 : Value).ownBlock) (.slice Ao30 t209.length co30) t209) := ⟨by (with_reducible repeat (first | apply Kd.R_alloc | apply Kd.R_drewN | apply Kd.R_drew)); exact Kd.R_mono (Kd.R_far (p := ⟨gb223, 1, none⟩) (Kd.R_far (p := ⟨gb223, 0, none⟩) (Kd.R_types HO211.out BK223.out (by decide)) (fun _ hk => hk.2) (.int .i64 t220)) (fun _ hk => hk.2) (.int .i64 t221)) (fun _ hk => hk.1.2)⟩
                          have n1_ : Aside0 (Kd.R (Kd.int .u8) 5 ((w37.setCell ⟨gb223, 0, none⟩ (.int .i64 t220)).setCell ⟨gb223, 1, none⟩ (.int .i64 t221)) w.heap.size (fun _ => True) v215 y214) := ⟨by (with_reducible repeat (first | apply Kd.R_alloc | apply Kd.R_drewN | apply Kd.R_drew)); exact Kd.R_mono (Kd.R_far (p := ⟨gb223, 1, none⟩) (Kd.R_far (p := ⟨gb223, 0, none⟩) (Kd.R_types HO216.out BK223.out (by decide)) (fun _ hk => hk.2) (.int .i64 t220)) (fun _ hk => hk.2) (.int .i64 t221)) (fun _ hk => trivial)⟩
                          have n2_ : Aside0 (Kd.R k43 43 ((w37.setCell ⟨gb223, 0, none⟩ (.int .i64 t220)).setCell ⟨gb223, 1, none⟩ (.int .i64 t221)) w.heap.size (fun k_ => some k_ ≠ (.slice Ao30 t209.length co30 : Value).ownBlock) v218 t217) := ⟨by (with_reducible repeat (first | apply Kd.R_alloc | apply Kd.R_drewN | apply Kd.R_drew)); exact Kd.R_mono (Kd.R_far (p := ⟨gb223, 1, none⟩) (Kd.R_far (p := ⟨gb223, 0, none⟩) (Kd.R_types HO219.out BK223.out (by decide)) (fun _ hk => hk.2) (.int .i64 t220)) (fun _ hk => hk.2) (.int .i64 t221)) (fun _ hk => hk.1.2)⟩
                          have n3_ : Aside0 (((w37.setCell ⟨gb223, 0, none⟩ (.int .i64 t220)).setCell ⟨gb223, 1, none⟩ (.int .i64 t221)).heap[gb223]? = some (.cells #[.int .i64 t220, .int .i64 t221] 29 (0, 0))) := ⟨by (with_reducible repeat (first | refine blk_drewN ?_ _ | refine blk_drew ?_ | refine blk_alloc ?_ _)); refine blk_put (cs := #[.int .i64 t220, .int .i64 0]) ?_ 1 _ rfl; (with_reducible repeat (first | refine blk_drewN ?_ _ | refine blk_drew ?_ | refine blk_alloc ?_ _)); refine blk_put (cs := #[.int .i64 0, .int .i64 0]) ?_ 0 _ rfl; (with_reducible repeat (first | refine blk_drewN ?_ _ | refine blk_drew ?_ | refine blk_alloc ?_ _)); exact BK223.out⟩
                          have n4_ : Aside0 (Below w.heap.size w ((w37.setCell ⟨gb223, 0, none⟩ (.int .i64 t220)).setCell ⟨gb223, 1, none⟩ (.int .i64 t221))) := ⟨by repeat (first | (with_reducible first | exact HB.out | apply below_alloc | apply pw_below_drewN | apply below_drew1 | refine below_set ?_ GE223.out) | exact HB.out)⟩
                          (try clear HO211)
                          (try clear HO216)
                          (try clear HO219)
                          (try clear BK223)
                          (try clear HB)
                          generalize ((w37.setCell ⟨gb223, 0, none⟩ (.int .i64 t220)).setCell ⟨gb223, 1, none⟩ (.int .i64 t221)) = w39 at n0_ n1_ n2_ n3_ n4_ ⊢
                          have HO211 := n0_
                          have HO216 := n1_
                          have HO219 := n2_
                          have BK223 := n3_
                          have HB := n4_
                          clear n0_ n1_ n2_ n3_ n4_
                          have n0_ := Aside0.mk (Kd.R_drew HO211.out)
                          have n1_ := Aside0.mk (Kd.R_drew HO216.out)
                          have n2_ := Aside0.mk (Kd.R_drew HO219.out)
                          have n3_ := Aside0.mk (blk_drew BK223.out)
                          have n4_ := Aside0.mk (below_drew1 HB.out)
                          clear HO211
                          clear HO216
                          clear HO219
                          clear BK223
                          clear HB
                          have HO211 := n0_
                          have HO216 := n1_
                          have HO219 := n2_
                          have BK223 := n3_
                          have HB := n4_
                          clear n0_ n1_ n2_ n3_ n4_
                          refine start_ (n := 15) (S := fun w' => w'.cell? ⟨gb223, 0, none⟩ = some (.int .i64 t220) ∧ w'.cell? ⟨gb223, 1, none⟩ = some (.int .i64 t221)) (ds := []) #[false, false, false, false, false, false, false, false, false, false, false, false, false, false, false] (by kernel_rfl) rfl rfl ⟨(blk_cell BK223.out 0).trans rfl, (blk_cell BK223.out 1).trans rfl⟩ (fun hHeld => ?_); refine with_tabW transhumancelaw7_DentBad.tab9 transhumancelaw7_DentBad.bits9 (fun HT_ HW_ => ?_)
                          generalize w39.drew = w40 at HO211 HO216 HO219 BK223 HB hHeld ⊢
                          refine pure_ (i := 0) (N := some 64) (v := ?_) (a' := ?_) #[true, false, false, false, false, false, false, false, false, false, false, false, false, false, false] rfl rfl (any_of HT_.out (by kernel_rfl)) (fun _ _ _ h => h) (Or.inl ⟨by rfl, ?_⟩) ?_ ?_
                          rotate_left
                          · intro w'
                            go_simp
                            with_reducible rfl
                          rotate_left
                          · simp only [Act.put, List.setIfInBounds_toArray, List.set_cons_zero, List.set_cons_succ, i64_w, i32_w]
                            rfl
                          refine pure_ (i := 1) (N := some 65) (v := ?_) (a' := ?_) #[true, true, false, false, false, false, false, false, false, false, false, false, false, false, false] rfl rfl (any_of HT_.out (by kernel_rfl)) (fun _ _ _ h => h) (Or.inl ⟨by rfl, ?_⟩) ?_ ?_
                          rotate_left
                          · intro w'
                            go_simp
                            with_reducible rfl
                          rotate_left
                          · simp only [Act.put, List.setIfInBounds_toArray, List.set_cons_zero, List.set_cons_succ, i64_w, i32_w]
                            rfl
                          refine pure_ (i := 2) (N := some 66) (v := ?_) (a' := ?_) #[true, true, true, false, false, false, false, false, false, false, false, false, false, false, false] rfl rfl (any_of HT_.out (by kernel_rfl)) (fun _ _ _ h => h) (Or.inl ⟨by rfl, ?_⟩) ?_ ?_
                          rotate_left
                          · intro w'
                            go_simp
                            with_reducible rfl
                          rotate_left
                          · simp only [Act.put, List.setIfInBounds_toArray, List.set_cons_zero, List.set_cons_succ, i64_w, i32_w]
                            rfl
                          refine pure_ (i := 4) (N := some 68) (v := ?_) (a' := ?_) #[true, true, true, false, true, false, false, false, false, false, false, false, false, false, false] rfl rfl (any_of HT_.out (by kernel_rfl)) (fun _ _ _ h => h) (Or.inl ⟨by rfl, ?_⟩) ?_ ?_
                          rotate_left
                          · intro w'
                            go_simp
                            with_reducible rfl
                          rotate_left
                          · simp only [Act.put, List.setIfInBounds_toArray, List.set_cons_zero, List.set_cons_succ, i64_w, i32_w]
                            rfl
                          refine pure_ (i := 5) (N := some 69) (v := ?_) (a' := ?_) #[true, true, true, false, true, true, false, false, false, false, false, false, false, false, false] rfl rfl (any_of HT_.out (by kernel_rfl)) (fun _ _ _ h => h) (Or.inl ⟨by rfl, ?_⟩) ?_ ?_
                          rotate_left
                          · intro w'
                            go_simp
                            with_reducible rfl
                          rotate_left
                          · simp only [Act.put, List.setIfInBounds_toArray, List.set_cons_zero, List.set_cons_succ, i64_w, i32_w]
                            rfl
                          refine take_ (i := 3) (N := some 67) (v := ?_) (a' := ?_) #[true, true, true, true, true, true, false, false, false, false, false, false, false, false, false] rfl rfl (take_ofW HT_.out HW_.out (by kernel_rfl)) (fun _ _ _ h => h) (Or.inl ⟨by rfl, ?_⟩) hHeld ?_ ?_
                          rotate_left
                          · rintro w' ⟨s0, s1⟩
                            go_simp
                            with_reducible rfl
                          rotate_left
                          · simp only [Act.put, List.setIfInBounds_toArray, List.set_cons_zero, List.set_cons_succ, i64_w, i32_w]
                            rfl
                          refine one_ (i := 6) (N := some 70) #[true, true, true, true, true, true, true, false, false, false, false, false, false, false, false] rfl rfl (one_of HT_.out (by kernel_rfl)) (by decide) (fun K hK => ?_)
                          refine goes_ Tryz.func21 (by kernel_rfl) rfl #[.string ((((((⟨#[35, 32, 115, 111, 10, 108, 111, 99, 107, 115, 58, 10, 120, 10]⟩ : ByteArray) ++ t212) ++ (⟨#[35, 32, 101, 110, 100]⟩ : ByteArray)).extract 0 (t213 : Int).toNat) ++ (strOfNums y214)) ++ ((((⟨#[35, 32, 115, 111, 10, 108, 111, 99, 107, 115, 58, 10, 120, 10]⟩ : ByteArray) ++ t212) ++ (⟨#[35, 32, 101, 110, 100]⟩ : ByteArray)).extract (t213 : Int).toNat (((⟨#[35, 32, 115, 111, 10, 108, 111, 99, 107, 115, 58, 10, 120, 10]⟩ : ByteArray) ++ t212) ++ (⟨#[35, 32, 101, 110, 100]⟩ : ByteArray)).size)), .int .i64 t213] (by rfl) rfl rfl (by (try simp only [List.map_toArray, List.map_cons, List.map_nil]); first | done | rfl | (simp only [List.length_drop, List.length_take]; rfl) | (simp only [ByteArray.size_append, Int.natCast_add]; first | done | rfl)) ?_
                          with_reducible refine (transhumanceref1_Place.calls kj6 ((((((⟨#[35, 32, 115, 111, 10, 108, 111, 99, 107, 115, 58, 10, 120, 10]⟩ : ByteArray) ++ t212) ++ (⟨#[35, 32, 101, 110, 100]⟩ : ByteArray)).extract 0 (t213 : Int).toNat) ++ (strOfNums y214)) ++ ((((⟨#[35, 32, 115, 111, 10, 108, 111, 99, 107, 115, 58, 10, 120, 10]⟩ : ByteArray) ++ t212) ++ (⟨#[35, 32, 101, 110, 100]⟩ : ByteArray)).extract (t213 : Int).toNat (((⟨#[35, 32, 115, 111, 10, 108, 111, 99, 107, 115, 58, 10, 120, 10]⟩ : ByteArray) ++ t212) ++ (⟨#[35, 32, 101, 110, 100]⟩ : ByteArray)).size)) t213 t224 t225 _ A27.out).mono ?_
                          rintro e w41 ⟨rfl, hb⟩
                          refine ⟨_, rfl, ?_⟩
                          have n0_ := Aside0.mk (Kd.R_below (by (with_reducible repeat (first | apply Kd.R_alloc | apply Kd.R_drewN | apply Kd.R_drew)); exact HO211.out) hb)
                          have n1_ := Aside0.mk (Kd.R_below (by (with_reducible repeat (first | apply Kd.R_alloc | apply Kd.R_drewN | apply Kd.R_drew)); exact HO216.out) hb)
                          have n2_ := Aside0.mk (Kd.R_below (by (with_reducible repeat (first | apply Kd.R_alloc | apply Kd.R_drewN | apply Kd.R_drew)); exact HO219.out) hb)
                          have n3_ := Aside0.mk (blk_below (g := gb223) (o := .cells #[.int .i64 t220, .int .i64 t221] 29 (0, 0)) (by (with_reducible repeat (first | refine blk_drewN ?_ _ | refine blk_drew ?_ | refine blk_alloc ?_ _)); exact BK223.out) hb)
                          have n4_ := Aside0.mk (below_step (by repeat (first | (with_reducible first | exact HB.out | apply below_alloc | apply pw_below_drewN | apply below_drew1 | refine below_set ?_ GE223.out) | exact HB.out)) hb)
                          clear HO211
                          clear HO216
                          clear HO219
                          clear BK223
                          clear HB
                          have HO211 := n0_
                          have HO216 := n1_
                          have HO219 := n2_
                          have BK223 := n3_
                          have HB := n4_
                          clear n0_ n1_ n2_ n3_ n4_
                          (try clear hb)
                          (try clear hb2)
                          (try clear hk)
                          (try clear hi)
                          obtain ⟨Ao42, co42, eo42⟩ := Kd.R_slice HO219.out
                          (first | subst eo42 | (injection eo42 with f1_ f2_ f3_; have f4_ := f1_.symm; have f5_ := f3_.symm; clear f1_ f2_ f3_; subst f4_; subst f5_))
                          refine hK.out _ _ ⟨(blk_cell BK223.out 0).trans rfl, (blk_cell BK223.out 1).trans rfl⟩ (fun hHeld => ?_)
                          clear hK K
                          refine norm_ (a' := ?_) ?_ ?_
                          rotate_left
                          · show Act.put _ (some 70) _ = _
                            simp only [Act.put, List.setIfInBounds_toArray, List.set_cons_zero, List.set_cons_succ, i64_w, i32_w]
                            rfl
                          refine pure_ (i := 7) (N := some 71) (v := ?_) (a' := ?_) #[true, true, true, true, true, true, true, true, false, false, false, false, false, false, false] rfl rfl (any_of HT_.out (by kernel_rfl)) (fun _ _ _ h => h) (Or.inl ⟨by rfl, ?_⟩) ?_ ?_
                          rotate_left
                          · intro w'
                            go_simp
                            with_reducible rfl
                          rotate_left
                          · simp only [Act.put, List.setIfInBounds_toArray, List.set_cons_zero, List.set_cons_succ, i64_w, i32_w]
                            rfl
                          refine pure_ (i := 8) (N := some 72) (v := ?_) (a' := ?_) #[true, true, true, true, true, true, true, true, true, false, false, false, false, false, false] rfl rfl (any_of HT_.out (by kernel_rfl)) (fun _ _ _ h => h) (Or.inl ⟨by rfl, ?_⟩) ?_ ?_
                          rotate_left
                          · intro w'
                            go_simp
                            with_reducible rfl
                          rotate_left
                          · simp only [Act.put, List.setIfInBounds_toArray, List.set_cons_zero, List.set_cons_succ, i64_w, i32_w]
                            rfl
                          refine pure_ (i := 9) (N := some 73) (v := ?_) (a' := ?_) #[true, true, true, true, true, true, true, true, true, true, false, false, false, false, false] rfl rfl (any_of HT_.out (by kernel_rfl)) (fun _ _ _ h => h) (Or.inl ⟨by rfl, ?_⟩) ?_ ?_
                          rotate_left
                          · intro w'
                            go_simp
                            with_reducible rfl
                          rotate_left
                          · simp only [Act.put, List.setIfInBounds_toArray, List.set_cons_zero, List.set_cons_succ, i64_w, i32_w]
                            rfl
                          refine pure_ (i := 10) (N := some 74) (v := ?_) (a' := ?_) #[true, true, true, true, true, true, true, true, true, true, true, false, false, false, false] rfl rfl (any_of HT_.out (by kernel_rfl)) (fun _ _ _ h => h) (Or.inl ⟨by rfl, ?_⟩) ?_ ?_
                          rotate_left
                          · intro w'
                            go_simp
                            with_reducible rfl
                          rotate_left
                          · simp only [Act.put, List.setIfInBounds_toArray, List.set_cons_zero, List.set_cons_succ, i64_w, i32_w]
                            rfl
                          refine pure_ (i := 11) (N := some 75) (v := ?_) (a' := ?_) #[true, true, true, true, true, true, true, true, true, true, true, true, false, false, false] rfl rfl (any_of HT_.out (by kernel_rfl)) (fun _ _ _ h => h) (Or.inl ⟨by rfl, ?_⟩) ?_ ?_
                          rotate_left
                          · intro w'
                            go_simp
                            with_reducible rfl
                          rotate_left
                          · simp only [Act.put, List.setIfInBounds_toArray, List.set_cons_zero, List.set_cons_succ, i64_w, i32_w]
                            rfl
                          refine pure_ (i := 12) (N := some 76) (v := ?_) (a' := ?_) #[true, true, true, true, true, true, true, true, true, true, true, true, true, false, false] rfl rfl (any_of HT_.out (by kernel_rfl)) (fun _ _ _ h => h) (Or.inl ⟨by rfl, ?_⟩) ?_ ?_
                          rotate_left
                          · intro w'
                            go_simp
                            with_reducible rfl
                          rotate_left
                          · simp only [Act.put, List.setIfInBounds_toArray, List.set_cons_zero, List.set_cons_succ, i64_w, i32_w]
                            rfl
                          refine pure_ (i := 13) (N := some 77) (v := ?_) (a' := ?_) #[true, true, true, true, true, true, true, true, true, true, true, true, true, true, false] rfl rfl (any_of HT_.out (by kernel_rfl)) (fun _ _ _ h => h) (Or.inl ⟨by rfl, ?_⟩) ?_ ?_
                          rotate_left
                          · intro w'
                            go_simp
                            with_reducible rfl
                          rotate_left
                          · simp only [Act.put, List.setIfInBounds_toArray, List.set_cons_zero, List.set_cons_succ, i64_w, i32_w]
                            rfl
                          refine pure_ (i := 14) (N := some 8) (v := ?_) (a' := ?_) #[true, true, true, true, true, true, true, true, true, true, true, true, true, true, true] rfl rfl (any_of HT_.out (by kernel_rfl)) (fun _ _ _ h => h) (Or.inl ⟨by rfl, ?_⟩) ?_ ?_
                          rotate_left
                          · intro w'
                            go_simp
                            with_reducible rfl
                          rotate_left
                          · simp only [Act.put, List.setIfInBounds_toArray, List.set_cons_zero, List.set_cons_succ, i64_w, i32_w]
                            rfl
                          refine done_ (done_of HT_.out (by kernel_rfl)) ?_
                          try go_wp2
                          go_ret
                          exact ⟨by first | rfl | (simp [errW_none, errW_some] <;> rfl) | (simp [*, errW_none, errW_some] <;> rfl), by repeat (first | (with_reducible first | exact HB.out | apply below_alloc | apply pw_below_drewN | apply below_drew1 | refine below_set ?_ GE223.out) | exact HB.out)⟩
                        · rw [if_neg c28] at H
                          have c28b0 : (t220 == t224 && (t221 == t225)) = false := by simpa using c28
                          (try (have c28b1 : decide (t220 = t224 && (t221 == t225)) = false := by simpa using c28))
                          (try (have c28b2 : (t220 == t224 && (t221 == t225)) = false := by simpa using c28))
                          (try (have c28b3 : ¬ (t220 = t224 && (t221 == t225)) := by simpa using c28))
                          clear c28
                          obtain rfl := Option.some.inj H
                          try go_wp2_with (first | ((with_reducible refine gate_callee (f := 11) rfl ?_); refine goesL_ (some 38) rfl rfl Tryz.func11 (by kernel_rfl) rfl #[.slice A0 l0.length c0, .slice A1 l1.length c1, .int .i64 5] rfl (by (try simp only [List.map_toArray, List.map_cons, List.map_nil]); first | done | rfl | (simp only [List.length_drop, List.length_take]; rfl) | (simp only [ByteArray.size_append, Int.natCast_add]; first | done | rfl)) ?_; (with_reducible refine (transhumancelaw5_Locks.calls kj6 _ _ l0 _ _ l1 5 t209 _ ?side1 ?side2 ?side3 ?side4 A14.out).mono ?_); (case side1 => repeat (first | exact (Kd.C_below HR0.out HB.out) | (with_reducible refine Kd.C_alloc ?_ _) | (with_reducible refine Kd.C_drewN ?_ _) | (with_reducible refine Kd.C_drew ?_))); (case side2 => exact HC0.out); (case side3 => repeat (first | exact (Kd.C_below HR1.out HB.out) | (with_reducible refine Kd.C_alloc ?_ _) | (with_reducible refine Kd.C_drewN ?_ _) | (with_reducible refine Kd.C_drew ?_))); (case side4 => exact HC1.out); rintro e w43 ⟨v210, rfl, ho0, hb⟩; refine ⟨_, rfl, ?_⟩; have n0_ := Aside0.mk (Kd.R_lower ho0 (below_size (by repeat (first | (with_reducible first | exact HB.out | apply below_alloc | apply pw_below_drewN | apply below_drew1) | exact HB.out)))); have n1_ := Aside0.mk (below_step (by repeat (first | (with_reducible first | exact HB.out | apply below_alloc | apply pw_below_drewN | apply below_drew1) | exact HB.out)) hb); clear HB; have HO211 := n0_; have HB := n1_; clear n0_ n1_; (try clear hb); (try clear hb2); (try clear hk); (try clear hi); (try clear ho0); obtain ⟨Ao44, co44, eo44⟩ := Kd.R_slice HO211.out; subst eo44) | ((with_reducible refine gate_callee (f := 14) rfl ?_); refine goesL_ (some 39) rfl rfl Tryz.func14 (by kernel_rfl) rfl #[.slice Ao44 t209.length co44] rfl (by (try simp only [List.map_toArray, List.map_cons, List.map_nil]); first | done | rfl | (simp only [List.length_drop, List.length_take]; rfl) | (simp only [ByteArray.size_append, Int.natCast_add]; first | done | rfl)) ?_; (with_reducible refine (transhumanceref7_Write.calls kj6 _ _ t209 t212 _ ?side1 ?side2 A15.out).mono ?_); (case side1 => repeat (first | exact (Kd.R_reads' HO211.out).2.2 | (with_reducible refine Kd.C_alloc ?_ _) | (with_reducible refine Kd.C_drewN ?_ _) | (with_reducible refine Kd.C_drew ?_))); (case side2 => exact (Kd.R_reads' HO211.out).2.1); rintro e w45 ⟨rfl, hb⟩; refine ⟨_, rfl, ?_⟩; have n0_ := Aside0.mk (Kd.R_below (by (with_reducible repeat (first | apply Kd.R_alloc | apply Kd.R_drewN | apply Kd.R_drew)); exact HO211.out) hb); have n1_ := Aside0.mk (below_step (by repeat (first | (with_reducible first | exact HB.out | apply below_alloc | apply pw_below_drewN | apply below_drew1) | exact HB.out)) hb); clear HO211; clear HB; have HO211 := n0_; have HB := n1_; clear n0_ n1_; (try clear hb); (try clear hb2); (try clear hk); (try clear hi)) | ((with_reducible refine gate_callee (f := 16) rfl ?_); refine goesL_ (some 46) rfl rfl Tryz.func16 (by kernel_rfl) rfl #[.int .i64 a2, .int .i64 (wrap64 (((((⟨#[35, 32, 115, 111, 10, 108, 111, 99, 107, 115, 58, 10, 120, 10]⟩ : ByteArray) ++ t212) ++ (⟨#[35, 32, 101, 110, 100]⟩ : ByteArray)).size : Int) + 1))] rfl (by (try simp only [List.map_toArray, List.map_cons, List.map_nil]); first | done | rfl | (simp only [List.length_drop, List.length_take]; rfl) | (simp only [ByteArray.size_append, Int.natCast_add]; first | done | rfl)) ?_; (with_reducible refine (transhumancelaw7_within.calls a2 (wrap64 (((((⟨#[35, 32, 115, 111, 10, 108, 111, 99, 107, 115, 58, 10, 120, 10]⟩ : ByteArray) ++ t212) ++ (⟨#[35, 32, 101, 110, 100]⟩ : ByteArray)).size : Int) + 1)) t213 _ A18.out).mono ?_); rintro e w' ⟨rfl, ⟨nd, rfl⟩⟩; refine ⟨_, rfl, ?_⟩; (try (rw [drewN_self w45]; generalize hq_ : World.drewN w45 _ = w45; have n0_ : Aside0 (Kd.R k43 43 w45 w.heap.size (fun _ => True) (.slice Ao44 t209.length co44) t209) := ⟨by rw [← hq_]; exact (by (with_reducible repeat (first | apply Kd.R_alloc | apply Kd.R_drewN | apply Kd.R_drew)); exact HO211.out)⟩; have n1_ : Aside0 (Below w.heap.size w w45) := ⟨by rw [← hq_]; exact (by repeat (first | (with_reducible first | exact HB.out | apply below_alloc | apply pw_below_drewN | apply below_drew1) | exact HB.out))⟩; clear HO211 HB hq_; have HO211 := n0_; have HB := n1_; clear n0_ n1_))))
                          have n0_ := Aside0.mk (Kd.R_drew HO211.out)
                          have n1_ := Aside0.mk (below_drew1 HB.out)
                          clear HO211
                          clear HB
                          have HO211 := n0_
                          have HB := n1_
                          clear n0_ n1_
                          refine start_ (n := 12) (S := fun w' => True) (ds := []) #[false, false, false, false, false, false, false, false, false, false, false, false] (by kernel_rfl) rfl rfl trivial (fun hHeld => ?_); refine with_tabW transhumancelaw7_DentBad.tab7 transhumancelaw7_DentBad.bits7 (fun HT_ HW_ => ?_)
                          generalize w45.drew = w46 at HO211 HB hHeld ⊢
                          refine pure_ (i := 0) (N := some 47) (v := ?_) (a' := ?_) #[true, false, false, false, false, false, false, false, false, false, false, false] rfl rfl (any_of HT_.out (by kernel_rfl)) (fun _ _ _ h => h) (Or.inl ⟨by rfl, ?_⟩) ?_ ?_
                          rotate_left
                          · intro w'
                            go_simp
                            with_reducible rfl
                          rotate_left
                          · simp only [Act.put, List.setIfInBounds_toArray, List.set_cons_zero, List.set_cons_succ, i64_w, i32_w]
                            rfl
                          refine pure_ (i := 1) (N := some 48) (v := ?_) (a' := ?_) #[true, true, false, false, false, false, false, false, false, false, false, false] rfl rfl (any_of HT_.out (by kernel_rfl)) (fun _ _ _ h => h) (Or.inl ⟨by rfl, ?_⟩) ?_ ?_
                          rotate_left
                          · intro w'
                            go_simp
                            with_reducible rfl
                          rotate_left
                          · simp only [Act.put, List.setIfInBounds_toArray, List.set_cons_zero, List.set_cons_succ, i64_w, i32_w]
                            rfl
                          refine pure_ (i := 2) (N := some 49) (v := ?_) (a' := ?_) #[true, true, true, false, false, false, false, false, false, false, false, false] rfl rfl (any_of HT_.out (by kernel_rfl)) (fun _ _ _ h => h) (Or.inl ⟨by rfl, ?_⟩) ?_ ?_
                          rotate_left
                          · intro w'
                            go_simp
                            with_reducible rfl
                          rotate_left
                          · simp only [Act.put, List.setIfInBounds_toArray, List.set_cons_zero, List.set_cons_succ, i64_w, i32_w]
                            rfl
                          refine pure_ (i := 3) (N := some 50) (v := ?_) (a' := ?_) #[true, true, true, true, false, false, false, false, false, false, false, false] rfl rfl (any_of HT_.out (by kernel_rfl)) (fun _ _ _ h => h) (Or.inl ⟨by rfl, ?_⟩) ?_ ?_
                          rotate_left
                          · intro w'
                            go_simp
                            with_reducible rfl
                          rotate_left
                          · simp only [Act.put, List.setIfInBounds_toArray, List.set_cons_zero, List.set_cons_succ, i64_w, i32_w]
                            rfl
                          refine pure_ (i := 7) (N := some 54) (v := ?_) (a' := ?_) #[true, true, true, true, false, false, false, true, false, false, false, false] rfl rfl (any_of HT_.out (by kernel_rfl)) (fun _ _ _ h => h) (Or.inl ⟨by rfl, ?_⟩) ?_ ?_
                          rotate_left
                          · intro w'
                            go_simp
                            with_reducible rfl
                          rotate_left
                          · simp only [Act.put, List.setIfInBounds_toArray, List.set_cons_zero, List.set_cons_succ, i64_w, i32_w]
                            rfl
                          refine pure_ (i := 8) (N := some 55) (v := ?_) (a' := ?_) #[true, true, true, true, false, false, false, true, true, false, false, false] rfl rfl (any_of HT_.out (by kernel_rfl)) (fun _ _ _ h => h) (Or.inl ⟨by rfl, ?_⟩) ?_ ?_
                          rotate_left
                          · intro w'
                            go_simp
                            with_reducible rfl
                          rotate_left
                          · simp only [Act.put, List.setIfInBounds_toArray, List.set_cons_zero, List.set_cons_succ, i64_w, i32_w]
                            rfl
                          refine pure_ (i := 9) (N := some 56) (v := ?_) (a' := ?_) #[true, true, true, true, false, false, false, true, true, true, false, false] rfl rfl (any_of HT_.out (by kernel_rfl)) (fun _ _ _ h => h) (Or.inl ⟨by rfl, ?_⟩) ?_ ?_
                          rotate_left
                          · intro w'
                            go_simp
                            with_reducible rfl
                          rotate_left
                          · simp only [Act.put, List.setIfInBounds_toArray, List.set_cons_zero, List.set_cons_succ, i64_w, i32_w]
                            rfl
                          refine one_ (i := 4) (N := some 51) #[true, true, true, true, true, false, false, true, true, true, false, false] rfl rfl (one_of HT_.out (by kernel_rfl)) (by decide) (fun K hK => ?_)
                          refine Kd.R_lit_step (Kd.int .u8) _ 5 ?hg (N := 51) ?hd (xs := ([a3] : List Int)) (inner := [.int .u8 a3]) (ok := fun _ => True) (okp := fun _ => True) ?hr ?hp (fun _ hk => hk) trivial (Below.refl _ _) (Nat.le_refl _) (by simp) ?_; (case hd => rfl); (case hg => rfl); (case hr => first | (go_simp; done) | (go_simp; rfl)); (case hp => exact (Reps.one (show Kd.M (Kd.int .u8) _ _ _ a3 [.int .u8 a3] from rfl) (Reps.none _ _)))
                          intro v215 w47 ho48 hb hg_ hnew_
                          clear hg_ hnew_
                          (first | rw [← Ny214.out] at ho48 | (simp only [Int.reduceToNat] at ho48; rw [← Ny214.out] at ho48))
                          have n0_ := Aside0.mk (Kd.R_below (by (with_reducible repeat (first | apply Kd.R_alloc | apply Kd.R_drewN | apply Kd.R_drew)); exact HO211.out) hb)
                          have n1_ := Aside0.mk (Kd.R_lower ho48 (below_size (by repeat (first | (with_reducible first | exact HB.out | apply below_alloc | apply pw_below_drewN | apply below_drew1) | exact HB.out))))
                          have n2_ := Aside0.mk (below_step (by repeat (first | (with_reducible first | exact HB.out | apply below_alloc | apply pw_below_drewN | apply below_drew1) | exact HB.out)) hb)
                          clear HO211
                          clear HB
                          have HO211 := n0_
                          have HO216 := n1_
                          have HB := n2_
                          clear n0_ n1_ n2_
                          clear hb ho48
                          refine hK.out _ _ trivial (fun hHeld => ?_)
                          clear hK K
                          refine norm_ (a' := ?_) ?_ ?_
                          rotate_left
                          · show Act.put _ (some 51) _ = _
                            simp only [Act.put, List.setIfInBounds_toArray, List.set_cons_zero, List.set_cons_succ, i64_w, i32_w]
                            rfl
                          refine one_ (i := 5) (N := some 52) #[true, true, true, true, true, true, false, true, true, true, false, false] rfl rfl (one_of HT_.out (by kernel_rfl)) (by decide) (fun K hK => ?_)
                          have hcv49 := own_string (P := Tryz.prog) Tryz.underlying23 Tryz.underlying5 Tryz.underlying9 (Kd.own_of_R HO216.out)
                          refine value_ (w1 := ?_) (v := ?_) (by rfl) rfl ?_ ?_
                          rotate_left 2
                          · go_simp
                            constructor
                            · rfl
                            · rfl
                          clear hcv49
                          refine hK.out _ _ trivial (fun hHeld => ?_)
                          clear hK K
                          refine norm_ (a' := ?_) ?_ ?_
                          rotate_left
                          · show Act.put _ (some 52) _ = _
                            simp only [Act.put, List.setIfInBounds_toArray, List.set_cons_zero, List.set_cons_succ, i64_w, i32_w]
                            rfl
                          refine pure_ (i := 6) (N := some 53) (v := ?_) (a' := ?_) #[true, true, true, true, true, true, true, true, true, true, false, false] rfl rfl (any_of HT_.out (by kernel_rfl)) (fun _ _ _ h => h) (Or.inl ⟨by rfl, ?_⟩) ?_ ?_
                          rotate_left
                          · intro w'
                            go_simp
                            with_reducible rfl
                          rotate_left
                          · simp only [Act.put, List.setIfInBounds_toArray, List.set_cons_zero, List.set_cons_succ, i64_w, i32_w]
                            rfl
                          refine pure_ (i := 10) (N := some 57) (v := ?_) (a' := ?_) #[true, true, true, true, true, true, true, true, true, true, true, false] rfl rfl (any_of HT_.out (by kernel_rfl)) (fun _ _ _ h => h) (Or.inl ⟨by rfl, ?_⟩) ?_ ?_
                          rotate_left
                          · intro w'
                            go_simp
                            with_reducible rfl
                          rotate_left
                          · simp only [Act.put, List.setIfInBounds_toArray, List.set_cons_zero, List.set_cons_succ, i64_w, i32_w]
                            rfl
                          refine pure_ (i := 11) (N := some 11) (v := ?_) (a' := ?_) #[true, true, true, true, true, true, true, true, true, true, true, true] rfl rfl (any_of HT_.out (by kernel_rfl)) (fun _ _ _ h => h) (Or.inl ⟨by rfl, ?_⟩) ?_ ?_
                          rotate_left
                          · intro w'
                            go_simp
                            with_reducible rfl
                          rotate_left
                          · simp only [Act.put, List.setIfInBounds_toArray, List.set_cons_zero, List.set_cons_succ, i64_w, i32_w]
                            rfl
                          refine done_ (done_of HT_.out (by kernel_rfl)) ?_
                          try go_wp2_with (first | ((with_reducible refine gate_callee (f := 13) rfl ?_); refine goesL_ (some 60) rfl rfl Tryz.func13 (by kernel_rfl) rfl #[.string ((((((⟨#[35, 32, 115, 111, 10, 108, 111, 99, 107, 115, 58, 10, 120, 10]⟩ : ByteArray) ++ t212) ++ (⟨#[35, 32, 101, 110, 100]⟩ : ByteArray)).extract 0 (t213 : Int).toNat) ++ (strOfNums y214)) ++ ((((⟨#[35, 32, 115, 111, 10, 108, 111, 99, 107, 115, 58, 10, 120, 10]⟩ : ByteArray) ++ t212) ++ (⟨#[35, 32, 101, 110, 100]⟩ : ByteArray)).extract (t213 : Int).toNat (((⟨#[35, 32, 115, 111, 10, 108, 111, 99, 107, 115, 58, 10, 120, 10]⟩ : ByteArray) ++ t212) ++ (⟨#[35, 32, 101, 110, 100]⟩ : ByteArray)).size))] rfl (by (try simp only [List.map_toArray, List.map_cons, List.map_nil]); first | done | rfl | (simp only [List.length_drop, List.length_take]; rfl) | (simp only [ByteArray.size_append, Int.natCast_add]; first | done | rfl)) ?_; (with_reducible refine (dent_Locks.calls ((((((⟨#[35, 32, 115, 111, 10, 108, 111, 99, 107, 115, 58, 10, 120, 10]⟩ : ByteArray) ++ t212) ++ (⟨#[35, 32, 101, 110, 100]⟩ : ByteArray)).extract 0 (t213 : Int).toNat) ++ (strOfNums y214)) ++ ((((⟨#[35, 32, 115, 111, 10, 108, 111, 99, 107, 115, 58, 10, 120, 10]⟩ : ByteArray) ++ t212) ++ (⟨#[35, 32, 101, 110, 100]⟩ : ByteArray)).extract (t213 : Int).toNat (((⟨#[35, 32, 115, 111, 10, 108, 111, 99, 107, 115, 58, 10, 120, 10]⟩ : ByteArray) ++ t212) ++ (⟨#[35, 32, 101, 110, 100]⟩ : ByteArray)).size)) t217 t220 t221 t222 _ ?side1 A25.out).mono ?_); (case side1 => exact GL.below0 hG (by repeat (first | (with_reducible first | exact HB.out | apply below_alloc | apply pw_below_drewN | apply below_drew1) | exact HB.out))); rintro e w50 ⟨v218, rfl, ho0, hb⟩; refine ⟨_, rfl, ?_⟩; have n0_ := Aside0.mk (Kd.R_elder' (by (with_reducible repeat (first | apply Kd.R_alloc | apply Kd.R_drewN | apply Kd.R_drew)); exact HO211.out) (Kd.R_base ho0) hb); have n1_ := Aside0.mk (Kd.R_below (by (with_reducible repeat (first | apply Kd.R_alloc | apply Kd.R_drewN | apply Kd.R_drew)); exact HO216.out) hb); have n2_ := Aside0.mk (Kd.R_lower (Kd.R_new' ho0 (Kd.R_lt (by (with_reducible repeat (first | apply Kd.R_alloc | apply Kd.R_drewN | apply Kd.R_drew)); exact HO211.out))) (below_size (by repeat (first | (with_reducible first | exact HB.out | apply below_alloc | apply pw_below_drewN | apply below_drew1) | exact HB.out)))); have n3_ := Aside0.mk (below_step (by repeat (first | (with_reducible first | exact HB.out | apply below_alloc | apply pw_below_drewN | apply below_drew1) | exact HB.out)) hb); clear HO211; clear HO216; clear HB; have HO211 := n0_; have HO216 := n1_; have HO219 := n2_; have HB := n3_; clear n0_ n1_ n2_ n3_; (try clear hb); (try clear hb2); (try clear hk); (try clear hi); (try clear ho0)) | ((with_reducible refine gate_dst (N := 13) rfl ?_); (try (refine gate_guard (by rfl) ?_; dsimp only)); refine box_event ?hg (N := 13) ?hd (cs := #[.int .i64 0, .int .i64 0]) (t := 29) ?hr ?_; (case hd => rfl); (case hg => rfl); (case hr => first | (go_simp; done) | (go_simp; rfl)); intro gb223 hg w51 hbox hb; have n0_ := Aside0.mk (Kd.R_below (by (with_reducible repeat (first | apply Kd.R_alloc | apply Kd.R_drewN | apply Kd.R_drew)); exact HO211.out) hb); have n1_ := Aside0.mk (Kd.R_below (by (with_reducible repeat (first | apply Kd.R_alloc | apply Kd.R_drewN | apply Kd.R_drew)); exact HO216.out) hb); have n2_ := Aside0.mk (Kd.R_below (by (with_reducible repeat (first | apply Kd.R_alloc | apply Kd.R_drewN | apply Kd.R_drew)); exact HO219.out) hb); have n3_ := Aside0.mk (below_step (by repeat (first | (with_reducible first | exact HB.out | apply below_alloc | apply pw_below_drewN | apply below_drew1) | exact HB.out)) hb); have n4_ := Aside0.mk (hbox); have n5_ := Aside0.mk ((by rw [hg]; exact (below_size (by repeat (first | (with_reducible first | exact HB.out | apply below_alloc | apply pw_below_drewN | apply below_drew1) | exact HB.out))) : w.heap.size ≤ gb223)); have n6_ := Aside0.mk ((by rw [hg]; exact (below_size (by repeat (first | (with_reducible first | exact HB.out | apply below_alloc | apply pw_below_drewN | apply below_drew1) | exact HB.out))) : w.heap.size ≤ gb223)); clear HO211; clear HO216; clear HO219; clear HB; have HO211 := n0_; have HO216 := n1_; have HO219 := n2_; have HB := n3_; have BK223 := n4_; have GW223 := n5_; have GE223 := n6_; clear n0_ n1_ n2_ n3_ n4_ n5_ n6_; clear hb hbox hg; have hcz52_0 : w51.cell? ⟨gb223, 0, none⟩ = some (.int .i64 0) := (blk_cell BK223.out 0).trans rfl; have hcz52_1 : w51.cell? ⟨gb223, 1, none⟩ = some (.int .i64 0) := (blk_cell BK223.out 1).trans rfl; have hfz52_0 := blk_frozen BK223.out 0; have hfz52_1 := blk_frozen BK223.out 1))
                          have n0_ : Aside0 (Kd.R k43 43 ((w51.setCell ⟨gb223, 0, none⟩ (.int .i64 t220)).setCell ⟨gb223, 1, none⟩ (.int .i64 t221)) w.heap.size (fun k_ => some k_ ≠ (v218 : Value).ownBlock) (.slice Ao44 t209.length co44) t209) := ⟨by (with_reducible repeat (first | apply Kd.R_alloc | apply Kd.R_drewN | apply Kd.R_drew)); exact Kd.R_mono (Kd.R_far (p := ⟨gb223, 1, none⟩) (Kd.R_far (p := ⟨gb223, 0, none⟩) (Kd.R_types HO211.out BK223.out (by decide)) (fun _ hk => hk.2) (.int .i64 t220)) (fun _ hk => hk.2) (.int .i64 t221)) (fun _ hk => hk.1.2)⟩
                          have n1_ : Aside0 (Kd.R (Kd.int .u8) 5 ((w51.setCell ⟨gb223, 0, none⟩ (.int .i64 t220)).setCell ⟨gb223, 1, none⟩ (.int .i64 t221)) w.heap.size (fun _ => True) v215 y214) := ⟨by (with_reducible repeat (first | apply Kd.R_alloc | apply Kd.R_drewN | apply Kd.R_drew)); exact Kd.R_mono (Kd.R_far (p := ⟨gb223, 1, none⟩) (Kd.R_far (p := ⟨gb223, 0, none⟩) (Kd.R_types HO216.out BK223.out (by decide)) (fun _ hk => hk.2) (.int .i64 t220)) (fun _ hk => hk.2) (.int .i64 t221)) (fun _ hk => trivial)⟩
                          have n2_ : Aside0 (Kd.R k43 43 ((w51.setCell ⟨gb223, 0, none⟩ (.int .i64 t220)).setCell ⟨gb223, 1, none⟩ (.int .i64 t221)) w.heap.size (fun k_ => some k_ ≠ (.slice Ao44 t209.length co44 : Value).ownBlock) v218 t217) := ⟨by (with_reducible repeat (first | apply Kd.R_alloc | apply Kd.R_drewN | apply Kd.R_drew)); exact Kd.R_mono (Kd.R_far (p := ⟨gb223, 1, none⟩) (Kd.R_far (p := ⟨gb223, 0, none⟩) (Kd.R_types HO219.out BK223.out (by decide)) (fun _ hk => hk.2) (.int .i64 t220)) (fun _ hk => hk.2) (.int .i64 t221)) (fun _ hk => hk.1.2)⟩
                          have n3_ : Aside0 (((w51.setCell ⟨gb223, 0, none⟩ (.int .i64 t220)).setCell ⟨gb223, 1, none⟩ (.int .i64 t221)).heap[gb223]? = some (.cells #[.int .i64 t220, .int .i64 t221] 29 (0, 0))) := ⟨by (with_reducible repeat (first | refine blk_drewN ?_ _ | refine blk_drew ?_ | refine blk_alloc ?_ _)); refine blk_put (cs := #[.int .i64 t220, .int .i64 0]) ?_ 1 _ rfl; (with_reducible repeat (first | refine blk_drewN ?_ _ | refine blk_drew ?_ | refine blk_alloc ?_ _)); refine blk_put (cs := #[.int .i64 0, .int .i64 0]) ?_ 0 _ rfl; (with_reducible repeat (first | refine blk_drewN ?_ _ | refine blk_drew ?_ | refine blk_alloc ?_ _)); exact BK223.out⟩
                          have n4_ : Aside0 (Below w.heap.size w ((w51.setCell ⟨gb223, 0, none⟩ (.int .i64 t220)).setCell ⟨gb223, 1, none⟩ (.int .i64 t221))) := ⟨by repeat (first | (with_reducible first | exact HB.out | apply below_alloc | apply pw_below_drewN | apply below_drew1 | refine below_set ?_ GE223.out) | exact HB.out)⟩
                          (try clear HO211)
                          (try clear HO216)
                          (try clear HO219)
                          (try clear BK223)
                          (try clear HB)
                          generalize ((w51.setCell ⟨gb223, 0, none⟩ (.int .i64 t220)).setCell ⟨gb223, 1, none⟩ (.int .i64 t221)) = w53 at n0_ n1_ n2_ n3_ n4_ ⊢
                          have HO211 := n0_
                          have HO216 := n1_
                          have HO219 := n2_
                          have BK223 := n3_
                          have HB := n4_
                          clear n0_ n1_ n2_ n3_ n4_
                          have n0_ := Aside0.mk (Kd.R_drew HO211.out)
                          have n1_ := Aside0.mk (Kd.R_drew HO216.out)
                          have n2_ := Aside0.mk (Kd.R_drew HO219.out)
                          have n3_ := Aside0.mk (blk_drew BK223.out)
                          have n4_ := Aside0.mk (below_drew1 HB.out)
                          clear HO211
                          clear HO216
                          clear HO219
                          clear BK223
                          clear HB
                          have HO211 := n0_
                          have HO216 := n1_
                          have HO219 := n2_
                          have BK223 := n3_
                          have HB := n4_
                          clear n0_ n1_ n2_ n3_ n4_
                          refine start_ (n := 15) (S := fun w' => w'.cell? ⟨gb223, 0, none⟩ = some (.int .i64 t220) ∧ w'.cell? ⟨gb223, 1, none⟩ = some (.int .i64 t221)) (ds := []) #[false, false, false, false, false, false, false, false, false, false, false, false, false, false, false] (by kernel_rfl) rfl rfl ⟨(blk_cell BK223.out 0).trans rfl, (blk_cell BK223.out 1).trans rfl⟩ (fun hHeld => ?_); refine with_tabW transhumancelaw7_DentBad.tab9 transhumancelaw7_DentBad.bits9 (fun HT_ HW_ => ?_)
                          generalize w53.drew = w54 at HO211 HO216 HO219 BK223 HB hHeld ⊢
                          refine pure_ (i := 0) (N := some 64) (v := ?_) (a' := ?_) #[true, false, false, false, false, false, false, false, false, false, false, false, false, false, false] rfl rfl (any_of HT_.out (by kernel_rfl)) (fun _ _ _ h => h) (Or.inl ⟨by rfl, ?_⟩) ?_ ?_
                          rotate_left
                          · intro w'
                            go_simp
                            with_reducible rfl
                          rotate_left
                          · simp only [Act.put, List.setIfInBounds_toArray, List.set_cons_zero, List.set_cons_succ, i64_w, i32_w]
                            rfl
                          refine pure_ (i := 1) (N := some 65) (v := ?_) (a' := ?_) #[true, true, false, false, false, false, false, false, false, false, false, false, false, false, false] rfl rfl (any_of HT_.out (by kernel_rfl)) (fun _ _ _ h => h) (Or.inl ⟨by rfl, ?_⟩) ?_ ?_
                          rotate_left
                          · intro w'
                            go_simp
                            with_reducible rfl
                          rotate_left
                          · simp only [Act.put, List.setIfInBounds_toArray, List.set_cons_zero, List.set_cons_succ, i64_w, i32_w]
                            rfl
                          refine pure_ (i := 2) (N := some 66) (v := ?_) (a' := ?_) #[true, true, true, false, false, false, false, false, false, false, false, false, false, false, false] rfl rfl (any_of HT_.out (by kernel_rfl)) (fun _ _ _ h => h) (Or.inl ⟨by rfl, ?_⟩) ?_ ?_
                          rotate_left
                          · intro w'
                            go_simp
                            with_reducible rfl
                          rotate_left
                          · simp only [Act.put, List.setIfInBounds_toArray, List.set_cons_zero, List.set_cons_succ, i64_w, i32_w]
                            rfl
                          refine pure_ (i := 4) (N := some 68) (v := ?_) (a' := ?_) #[true, true, true, false, true, false, false, false, false, false, false, false, false, false, false] rfl rfl (any_of HT_.out (by kernel_rfl)) (fun _ _ _ h => h) (Or.inl ⟨by rfl, ?_⟩) ?_ ?_
                          rotate_left
                          · intro w'
                            go_simp
                            with_reducible rfl
                          rotate_left
                          · simp only [Act.put, List.setIfInBounds_toArray, List.set_cons_zero, List.set_cons_succ, i64_w, i32_w]
                            rfl
                          refine pure_ (i := 5) (N := some 69) (v := ?_) (a' := ?_) #[true, true, true, false, true, true, false, false, false, false, false, false, false, false, false] rfl rfl (any_of HT_.out (by kernel_rfl)) (fun _ _ _ h => h) (Or.inl ⟨by rfl, ?_⟩) ?_ ?_
                          rotate_left
                          · intro w'
                            go_simp
                            with_reducible rfl
                          rotate_left
                          · simp only [Act.put, List.setIfInBounds_toArray, List.set_cons_zero, List.set_cons_succ, i64_w, i32_w]
                            rfl
                          refine take_ (i := 3) (N := some 67) (v := ?_) (a' := ?_) #[true, true, true, true, true, true, false, false, false, false, false, false, false, false, false] rfl rfl (take_ofW HT_.out HW_.out (by kernel_rfl)) (fun _ _ _ h => h) (Or.inl ⟨by rfl, ?_⟩) hHeld ?_ ?_
                          rotate_left
                          · rintro w' ⟨s0, s1⟩
                            go_simp
                            with_reducible rfl
                          rotate_left
                          · simp only [Act.put, List.setIfInBounds_toArray, List.set_cons_zero, List.set_cons_succ, i64_w, i32_w]
                            rfl
                          refine one_ (i := 6) (N := some 70) #[true, true, true, true, true, true, true, false, false, false, false, false, false, false, false] rfl rfl (one_of HT_.out (by kernel_rfl)) (by decide) (fun K hK => ?_)
                          refine goes_ Tryz.func21 (by kernel_rfl) rfl #[.string ((((((⟨#[35, 32, 115, 111, 10, 108, 111, 99, 107, 115, 58, 10, 120, 10]⟩ : ByteArray) ++ t212) ++ (⟨#[35, 32, 101, 110, 100]⟩ : ByteArray)).extract 0 (t213 : Int).toNat) ++ (strOfNums y214)) ++ ((((⟨#[35, 32, 115, 111, 10, 108, 111, 99, 107, 115, 58, 10, 120, 10]⟩ : ByteArray) ++ t212) ++ (⟨#[35, 32, 101, 110, 100]⟩ : ByteArray)).extract (t213 : Int).toNat (((⟨#[35, 32, 115, 111, 10, 108, 111, 99, 107, 115, 58, 10, 120, 10]⟩ : ByteArray) ++ t212) ++ (⟨#[35, 32, 101, 110, 100]⟩ : ByteArray)).size)), .int .i64 t213] (by rfl) rfl rfl (by (try simp only [List.map_toArray, List.map_cons, List.map_nil]); first | done | rfl | (simp only [List.length_drop, List.length_take]; rfl) | (simp only [ByteArray.size_append, Int.natCast_add]; first | done | rfl)) ?_
                          with_reducible refine (transhumanceref1_Place.calls kj6 ((((((⟨#[35, 32, 115, 111, 10, 108, 111, 99, 107, 115, 58, 10, 120, 10]⟩ : ByteArray) ++ t212) ++ (⟨#[35, 32, 101, 110, 100]⟩ : ByteArray)).extract 0 (t213 : Int).toNat) ++ (strOfNums y214)) ++ ((((⟨#[35, 32, 115, 111, 10, 108, 111, 99, 107, 115, 58, 10, 120, 10]⟩ : ByteArray) ++ t212) ++ (⟨#[35, 32, 101, 110, 100]⟩ : ByteArray)).extract (t213 : Int).toNat (((⟨#[35, 32, 115, 111, 10, 108, 111, 99, 107, 115, 58, 10, 120, 10]⟩ : ByteArray) ++ t212) ++ (⟨#[35, 32, 101, 110, 100]⟩ : ByteArray)).size)) t213 t224 t225 _ A27.out).mono ?_
                          rintro e w55 ⟨rfl, hb⟩
                          refine ⟨_, rfl, ?_⟩
                          have n0_ := Aside0.mk (Kd.R_below (by (with_reducible repeat (first | apply Kd.R_alloc | apply Kd.R_drewN | apply Kd.R_drew)); exact HO211.out) hb)
                          have n1_ := Aside0.mk (Kd.R_below (by (with_reducible repeat (first | apply Kd.R_alloc | apply Kd.R_drewN | apply Kd.R_drew)); exact HO216.out) hb)
                          have n2_ := Aside0.mk (Kd.R_below (by (with_reducible repeat (first | apply Kd.R_alloc | apply Kd.R_drewN | apply Kd.R_drew)); exact HO219.out) hb)
                          have n3_ := Aside0.mk (blk_below (g := gb223) (o := .cells #[.int .i64 t220, .int .i64 t221] 29 (0, 0)) (by (with_reducible repeat (first | refine blk_drewN ?_ _ | refine blk_drew ?_ | refine blk_alloc ?_ _)); exact BK223.out) hb)
                          have n4_ := Aside0.mk (below_step (by repeat (first | (with_reducible first | exact HB.out | apply below_alloc | apply pw_below_drewN | apply below_drew1 | refine below_set ?_ GE223.out) | exact HB.out)) hb)
                          clear HO211
                          clear HO216
                          clear HO219
                          clear BK223
                          clear HB
                          have HO211 := n0_
                          have HO216 := n1_
                          have HO219 := n2_
                          have BK223 := n3_
                          have HB := n4_
                          clear n0_ n1_ n2_ n3_ n4_
                          (try clear hb)
                          (try clear hb2)
                          (try clear hk)
                          (try clear hi)
                          refine hK.out _ _ ⟨(blk_cell BK223.out 0).trans rfl, (blk_cell BK223.out 1).trans rfl⟩ (fun hHeld => ?_)
                          clear hK K
                          refine norm_ (a' := ?_) ?_ ?_
                          rotate_left
                          · show Act.put _ (some 70) _ = _
                            simp only [Act.put, List.setIfInBounds_toArray, List.set_cons_zero, List.set_cons_succ, i64_w, i32_w]
                            rfl
                          refine pure_ (i := 7) (N := some 71) (v := ?_) (a' := ?_) #[true, true, true, true, true, true, true, true, false, false, false, false, false, false, false] rfl rfl (any_of HT_.out (by kernel_rfl)) (fun _ _ _ h => h) (Or.inl ⟨by rfl, ?_⟩) ?_ ?_
                          rotate_left
                          · intro w'
                            go_simp
                            with_reducible rfl
                          rotate_left
                          · simp only [Act.put, List.setIfInBounds_toArray, List.set_cons_zero, List.set_cons_succ, i64_w, i32_w]
                            rfl
                          refine pure_ (i := 8) (N := some 72) (v := ?_) (a' := ?_) #[true, true, true, true, true, true, true, true, true, false, false, false, false, false, false] rfl rfl (any_of HT_.out (by kernel_rfl)) (fun _ _ _ h => h) (Or.inl ⟨by rfl, ?_⟩) ?_ ?_
                          rotate_left
                          · intro w'
                            go_simp
                            with_reducible rfl
                          rotate_left
                          · simp only [Act.put, List.setIfInBounds_toArray, List.set_cons_zero, List.set_cons_succ, i64_w, i32_w]
                            rfl
                          refine pure_ (i := 9) (N := some 73) (v := ?_) (a' := ?_) #[true, true, true, true, true, true, true, true, true, true, false, false, false, false, false] rfl rfl (any_of HT_.out (by kernel_rfl)) (fun _ _ _ h => h) (Or.inl ⟨by rfl, ?_⟩) ?_ ?_
                          rotate_left
                          · intro w'
                            go_simp
                            with_reducible rfl
                          rotate_left
                          · simp only [Act.put, List.setIfInBounds_toArray, List.set_cons_zero, List.set_cons_succ, i64_w, i32_w]
                            rfl
                          refine pure_ (i := 10) (N := some 74) (v := undef) (a' := ?_) #[true, true, true, true, true, true, true, true, true, true, true, false, false, false, false] rfl rfl (any_of HT_.out (by kernel_rfl)) (fun _ _ _ h => h) (Or.inr ⟨by rfl, rfl⟩) ?_ ?_
                          rotate_left
                          · simp only [Act.put, List.setIfInBounds_toArray, List.set_cons_zero, List.set_cons_succ, i64_w, i32_w]
                            rfl
                          refine pure_ (i := 11) (N := some 75) (v := undef) (a' := ?_) #[true, true, true, true, true, true, true, true, true, true, true, true, false, false, false] rfl rfl (any_of HT_.out (by kernel_rfl)) (fun _ _ _ h => h) (Or.inr ⟨by rfl, rfl⟩) ?_ ?_
                          rotate_left
                          · simp only [Act.put, List.setIfInBounds_toArray, List.set_cons_zero, List.set_cons_succ, i64_w, i32_w]
                            rfl
                          refine pure_ (i := 12) (N := some 76) (v := undef) (a' := ?_) #[true, true, true, true, true, true, true, true, true, true, true, true, true, false, false] rfl rfl (any_of HT_.out (by kernel_rfl)) (fun _ _ _ h => h) (Or.inr ⟨by rfl, rfl⟩) ?_ ?_
                          rotate_left
                          · simp only [Act.put, List.setIfInBounds_toArray, List.set_cons_zero, List.set_cons_succ, i64_w, i32_w]
                            rfl
                          refine pure_ (i := 13) (N := some 77) (v := ?_) (a' := ?_) #[true, true, true, true, true, true, true, true, true, true, true, true, true, true, false] rfl rfl (any_of HT_.out (by kernel_rfl)) (fun _ _ _ h => h) (Or.inl ⟨by rfl, ?_⟩) ?_ ?_
                          rotate_left
                          · intro w'
                            go_simp
                            with_reducible rfl
                          rotate_left
                          · simp only [Act.put, List.setIfInBounds_toArray, List.set_cons_zero, List.set_cons_succ, i64_w, i32_w]
                            rfl
                          refine pure_ (i := 14) (N := some 8) (v := ?_) (a' := ?_) #[true, true, true, true, true, true, true, true, true, true, true, true, true, true, true] rfl rfl (any_of HT_.out (by kernel_rfl)) (fun _ _ _ h => h) (Or.inl ⟨by rfl, ?_⟩) ?_ ?_
                          rotate_left
                          · intro w'
                            go_simp
                            with_reducible rfl
                          rotate_left
                          · simp only [Act.put, List.setIfInBounds_toArray, List.set_cons_zero, List.set_cons_succ, i64_w, i32_w]
                            rfl
                          refine done_ (done_of HT_.out (by kernel_rfl)) ?_
                          try go_wp2
                          go_ret
                          exact ⟨by first | rfl | (simp [errW_none, errW_some] <;> rfl) | (simp [*, errW_none, errW_some] <;> rfl), by repeat (first | (with_reducible first | exact HB.out | apply below_alloc | apply pw_below_drewN | apply below_drew1 | refine below_set ?_ GE223.out) | exact HB.out)⟩
                      · rw [if_neg c26] at H
                        have c26b0 : (t222 == 1) = false := beq_eq_false_iff_ne.mpr c26
                        have c26b1 : (t222 != 1) = true := bne_iff_ne.mpr c26
                        obtain rfl := Option.some.inj H
                        try go_wp2_with (first | ((with_reducible refine gate_callee (f := 11) rfl ?_); refine goesL_ (some 38) rfl rfl Tryz.func11 (by kernel_rfl) rfl #[.slice A0 l0.length c0, .slice A1 l1.length c1, .int .i64 5] rfl (by (try simp only [List.map_toArray, List.map_cons, List.map_nil]); first | done | rfl | (simp only [List.length_drop, List.length_take]; rfl) | (simp only [ByteArray.size_append, Int.natCast_add]; first | done | rfl)) ?_; (with_reducible refine (transhumancelaw5_Locks.calls kj6 _ _ l0 _ _ l1 5 t209 _ ?side1 ?side2 ?side3 ?side4 A14.out).mono ?_); (case side1 => repeat (first | exact (Kd.C_below HR0.out HB.out) | (with_reducible refine Kd.C_alloc ?_ _) | (with_reducible refine Kd.C_drewN ?_ _) | (with_reducible refine Kd.C_drew ?_))); (case side2 => exact HC0.out); (case side3 => repeat (first | exact (Kd.C_below HR1.out HB.out) | (with_reducible refine Kd.C_alloc ?_ _) | (with_reducible refine Kd.C_drewN ?_ _) | (with_reducible refine Kd.C_drew ?_))); (case side4 => exact HC1.out); rintro e w56 ⟨v210, rfl, ho0, hb⟩; refine ⟨_, rfl, ?_⟩; have n0_ := Aside0.mk (Kd.R_lower ho0 (below_size (by repeat (first | (with_reducible first | exact HB.out | apply below_alloc | apply pw_below_drewN | apply below_drew1) | exact HB.out)))); have n1_ := Aside0.mk (below_step (by repeat (first | (with_reducible first | exact HB.out | apply below_alloc | apply pw_below_drewN | apply below_drew1) | exact HB.out)) hb); clear HB; have HO211 := n0_; have HB := n1_; clear n0_ n1_; (try clear hb); (try clear hb2); (try clear hk); (try clear hi); (try clear ho0); obtain ⟨Ao57, co57, eo57⟩ := Kd.R_slice HO211.out; subst eo57) | ((with_reducible refine gate_callee (f := 14) rfl ?_); refine goesL_ (some 39) rfl rfl Tryz.func14 (by kernel_rfl) rfl #[.slice Ao57 t209.length co57] rfl (by (try simp only [List.map_toArray, List.map_cons, List.map_nil]); first | done | rfl | (simp only [List.length_drop, List.length_take]; rfl) | (simp only [ByteArray.size_append, Int.natCast_add]; first | done | rfl)) ?_; (with_reducible refine (transhumanceref7_Write.calls kj6 _ _ t209 t212 _ ?side1 ?side2 A15.out).mono ?_); (case side1 => repeat (first | exact (Kd.R_reads' HO211.out).2.2 | (with_reducible refine Kd.C_alloc ?_ _) | (with_reducible refine Kd.C_drewN ?_ _) | (with_reducible refine Kd.C_drew ?_))); (case side2 => exact (Kd.R_reads' HO211.out).2.1); rintro e w58 ⟨rfl, hb⟩; refine ⟨_, rfl, ?_⟩; have n0_ := Aside0.mk (Kd.R_below (by (with_reducible repeat (first | apply Kd.R_alloc | apply Kd.R_drewN | apply Kd.R_drew)); exact HO211.out) hb); have n1_ := Aside0.mk (below_step (by repeat (first | (with_reducible first | exact HB.out | apply below_alloc | apply pw_below_drewN | apply below_drew1) | exact HB.out)) hb); clear HO211; clear HB; have HO211 := n0_; have HB := n1_; clear n0_ n1_; (try clear hb); (try clear hb2); (try clear hk); (try clear hi)) | ((with_reducible refine gate_callee (f := 16) rfl ?_); refine goesL_ (some 46) rfl rfl Tryz.func16 (by kernel_rfl) rfl #[.int .i64 a2, .int .i64 (wrap64 (((((⟨#[35, 32, 115, 111, 10, 108, 111, 99, 107, 115, 58, 10, 120, 10]⟩ : ByteArray) ++ t212) ++ (⟨#[35, 32, 101, 110, 100]⟩ : ByteArray)).size : Int) + 1))] rfl (by (try simp only [List.map_toArray, List.map_cons, List.map_nil]); first | done | rfl | (simp only [List.length_drop, List.length_take]; rfl) | (simp only [ByteArray.size_append, Int.natCast_add]; first | done | rfl)) ?_; (with_reducible refine (transhumancelaw7_within.calls a2 (wrap64 (((((⟨#[35, 32, 115, 111, 10, 108, 111, 99, 107, 115, 58, 10, 120, 10]⟩ : ByteArray) ++ t212) ++ (⟨#[35, 32, 101, 110, 100]⟩ : ByteArray)).size : Int) + 1)) t213 _ A18.out).mono ?_); rintro e w' ⟨rfl, ⟨nd, rfl⟩⟩; refine ⟨_, rfl, ?_⟩; (try (rw [drewN_self w58]; generalize hq_ : World.drewN w58 _ = w58; have n0_ : Aside0 (Kd.R k43 43 w58 w.heap.size (fun _ => True) (.slice Ao57 t209.length co57) t209) := ⟨by rw [← hq_]; exact (by (with_reducible repeat (first | apply Kd.R_alloc | apply Kd.R_drewN | apply Kd.R_drew)); exact HO211.out)⟩; have n1_ : Aside0 (Below w.heap.size w w58) := ⟨by rw [← hq_]; exact (by repeat (first | (with_reducible first | exact HB.out | apply below_alloc | apply pw_below_drewN | apply below_drew1) | exact HB.out))⟩; clear HO211 HB hq_; have HO211 := n0_; have HB := n1_; clear n0_ n1_))))
                        have n0_ := Aside0.mk (Kd.R_drew HO211.out)
                        have n1_ := Aside0.mk (below_drew1 HB.out)
                        clear HO211
                        clear HB
                        have HO211 := n0_
                        have HB := n1_
                        clear n0_ n1_
                        refine start_ (n := 12) (S := fun w' => True) (ds := []) #[false, false, false, false, false, false, false, false, false, false, false, false] (by kernel_rfl) rfl rfl trivial (fun hHeld => ?_); refine with_tabW transhumancelaw7_DentBad.tab7 transhumancelaw7_DentBad.bits7 (fun HT_ HW_ => ?_)
                        generalize w58.drew = w59 at HO211 HB hHeld ⊢
                        refine pure_ (i := 0) (N := some 47) (v := ?_) (a' := ?_) #[true, false, false, false, false, false, false, false, false, false, false, false] rfl rfl (any_of HT_.out (by kernel_rfl)) (fun _ _ _ h => h) (Or.inl ⟨by rfl, ?_⟩) ?_ ?_
                        rotate_left
                        · intro w'
                          go_simp
                          with_reducible rfl
                        rotate_left
                        · simp only [Act.put, List.setIfInBounds_toArray, List.set_cons_zero, List.set_cons_succ, i64_w, i32_w]
                          rfl
                        refine pure_ (i := 1) (N := some 48) (v := ?_) (a' := ?_) #[true, true, false, false, false, false, false, false, false, false, false, false] rfl rfl (any_of HT_.out (by kernel_rfl)) (fun _ _ _ h => h) (Or.inl ⟨by rfl, ?_⟩) ?_ ?_
                        rotate_left
                        · intro w'
                          go_simp
                          with_reducible rfl
                        rotate_left
                        · simp only [Act.put, List.setIfInBounds_toArray, List.set_cons_zero, List.set_cons_succ, i64_w, i32_w]
                          rfl
                        refine pure_ (i := 2) (N := some 49) (v := ?_) (a' := ?_) #[true, true, true, false, false, false, false, false, false, false, false, false] rfl rfl (any_of HT_.out (by kernel_rfl)) (fun _ _ _ h => h) (Or.inl ⟨by rfl, ?_⟩) ?_ ?_
                        rotate_left
                        · intro w'
                          go_simp
                          with_reducible rfl
                        rotate_left
                        · simp only [Act.put, List.setIfInBounds_toArray, List.set_cons_zero, List.set_cons_succ, i64_w, i32_w]
                          rfl
                        refine pure_ (i := 3) (N := some 50) (v := ?_) (a' := ?_) #[true, true, true, true, false, false, false, false, false, false, false, false] rfl rfl (any_of HT_.out (by kernel_rfl)) (fun _ _ _ h => h) (Or.inl ⟨by rfl, ?_⟩) ?_ ?_
                        rotate_left
                        · intro w'
                          go_simp
                          with_reducible rfl
                        rotate_left
                        · simp only [Act.put, List.setIfInBounds_toArray, List.set_cons_zero, List.set_cons_succ, i64_w, i32_w]
                          rfl
                        refine pure_ (i := 7) (N := some 54) (v := ?_) (a' := ?_) #[true, true, true, true, false, false, false, true, false, false, false, false] rfl rfl (any_of HT_.out (by kernel_rfl)) (fun _ _ _ h => h) (Or.inl ⟨by rfl, ?_⟩) ?_ ?_
                        rotate_left
                        · intro w'
                          go_simp
                          with_reducible rfl
                        rotate_left
                        · simp only [Act.put, List.setIfInBounds_toArray, List.set_cons_zero, List.set_cons_succ, i64_w, i32_w]
                          rfl
                        refine pure_ (i := 8) (N := some 55) (v := ?_) (a' := ?_) #[true, true, true, true, false, false, false, true, true, false, false, false] rfl rfl (any_of HT_.out (by kernel_rfl)) (fun _ _ _ h => h) (Or.inl ⟨by rfl, ?_⟩) ?_ ?_
                        rotate_left
                        · intro w'
                          go_simp
                          with_reducible rfl
                        rotate_left
                        · simp only [Act.put, List.setIfInBounds_toArray, List.set_cons_zero, List.set_cons_succ, i64_w, i32_w]
                          rfl
                        refine pure_ (i := 9) (N := some 56) (v := ?_) (a' := ?_) #[true, true, true, true, false, false, false, true, true, true, false, false] rfl rfl (any_of HT_.out (by kernel_rfl)) (fun _ _ _ h => h) (Or.inl ⟨by rfl, ?_⟩) ?_ ?_
                        rotate_left
                        · intro w'
                          go_simp
                          with_reducible rfl
                        rotate_left
                        · simp only [Act.put, List.setIfInBounds_toArray, List.set_cons_zero, List.set_cons_succ, i64_w, i32_w]
                          rfl
                        refine one_ (i := 4) (N := some 51) #[true, true, true, true, true, false, false, true, true, true, false, false] rfl rfl (one_of HT_.out (by kernel_rfl)) (by decide) (fun K hK => ?_)
                        refine Kd.R_lit_step (Kd.int .u8) _ 5 ?hg (N := 51) ?hd (xs := ([a3] : List Int)) (inner := [.int .u8 a3]) (ok := fun _ => True) (okp := fun _ => True) ?hr ?hp (fun _ hk => hk) trivial (Below.refl _ _) (Nat.le_refl _) (by simp) ?_; (case hd => rfl); (case hg => rfl); (case hr => first | (go_simp; done) | (go_simp; rfl)); (case hp => exact (Reps.one (show Kd.M (Kd.int .u8) _ _ _ a3 [.int .u8 a3] from rfl) (Reps.none _ _)))
                        intro v215 w60 ho61 hb hg_ hnew_
                        clear hg_ hnew_
                        (first | rw [← Ny214.out] at ho61 | (simp only [Int.reduceToNat] at ho61; rw [← Ny214.out] at ho61))
                        have n0_ := Aside0.mk (Kd.R_below (by (with_reducible repeat (first | apply Kd.R_alloc | apply Kd.R_drewN | apply Kd.R_drew)); exact HO211.out) hb)
                        have n1_ := Aside0.mk (Kd.R_lower ho61 (below_size (by repeat (first | (with_reducible first | exact HB.out | apply below_alloc | apply pw_below_drewN | apply below_drew1) | exact HB.out))))
                        have n2_ := Aside0.mk (below_step (by repeat (first | (with_reducible first | exact HB.out | apply below_alloc | apply pw_below_drewN | apply below_drew1) | exact HB.out)) hb)
                        clear HO211
                        clear HB
                        have HO211 := n0_
                        have HO216 := n1_
                        have HB := n2_
                        clear n0_ n1_ n2_
                        clear hb ho61
                        refine hK.out _ _ trivial (fun hHeld => ?_)
                        clear hK K
                        refine norm_ (a' := ?_) ?_ ?_
                        rotate_left
                        · show Act.put _ (some 51) _ = _
                          simp only [Act.put, List.setIfInBounds_toArray, List.set_cons_zero, List.set_cons_succ, i64_w, i32_w]
                          rfl
                        refine one_ (i := 5) (N := some 52) #[true, true, true, true, true, true, false, true, true, true, false, false] rfl rfl (one_of HT_.out (by kernel_rfl)) (by decide) (fun K hK => ?_)
                        have hcv62 := own_string (P := Tryz.prog) Tryz.underlying23 Tryz.underlying5 Tryz.underlying9 (Kd.own_of_R HO216.out)
                        refine value_ (w1 := ?_) (v := ?_) (by rfl) rfl ?_ ?_
                        rotate_left 2
                        · go_simp
                          constructor
                          · rfl
                          · rfl
                        clear hcv62
                        refine hK.out _ _ trivial (fun hHeld => ?_)
                        clear hK K
                        refine norm_ (a' := ?_) ?_ ?_
                        rotate_left
                        · show Act.put _ (some 52) _ = _
                          simp only [Act.put, List.setIfInBounds_toArray, List.set_cons_zero, List.set_cons_succ, i64_w, i32_w]
                          rfl
                        refine pure_ (i := 6) (N := some 53) (v := ?_) (a' := ?_) #[true, true, true, true, true, true, true, true, true, true, false, false] rfl rfl (any_of HT_.out (by kernel_rfl)) (fun _ _ _ h => h) (Or.inl ⟨by rfl, ?_⟩) ?_ ?_
                        rotate_left
                        · intro w'
                          go_simp
                          with_reducible rfl
                        rotate_left
                        · simp only [Act.put, List.setIfInBounds_toArray, List.set_cons_zero, List.set_cons_succ, i64_w, i32_w]
                          rfl
                        refine pure_ (i := 10) (N := some 57) (v := ?_) (a' := ?_) #[true, true, true, true, true, true, true, true, true, true, true, false] rfl rfl (any_of HT_.out (by kernel_rfl)) (fun _ _ _ h => h) (Or.inl ⟨by rfl, ?_⟩) ?_ ?_
                        rotate_left
                        · intro w'
                          go_simp
                          with_reducible rfl
                        rotate_left
                        · simp only [Act.put, List.setIfInBounds_toArray, List.set_cons_zero, List.set_cons_succ, i64_w, i32_w]
                          rfl
                        refine pure_ (i := 11) (N := some 11) (v := ?_) (a' := ?_) #[true, true, true, true, true, true, true, true, true, true, true, true] rfl rfl (any_of HT_.out (by kernel_rfl)) (fun _ _ _ h => h) (Or.inl ⟨by rfl, ?_⟩) ?_ ?_
                        rotate_left
                        · intro w'
                          go_simp
                          with_reducible rfl
                        rotate_left
                        · simp only [Act.put, List.setIfInBounds_toArray, List.set_cons_zero, List.set_cons_succ, i64_w, i32_w]
                          rfl
                        refine done_ (done_of HT_.out (by kernel_rfl)) ?_
                        try go_wp2_with (first | ((with_reducible refine gate_callee (f := 13) rfl ?_); refine goesL_ (some 60) rfl rfl Tryz.func13 (by kernel_rfl) rfl #[.string ((((((⟨#[35, 32, 115, 111, 10, 108, 111, 99, 107, 115, 58, 10, 120, 10]⟩ : ByteArray) ++ t212) ++ (⟨#[35, 32, 101, 110, 100]⟩ : ByteArray)).extract 0 (t213 : Int).toNat) ++ (strOfNums y214)) ++ ((((⟨#[35, 32, 115, 111, 10, 108, 111, 99, 107, 115, 58, 10, 120, 10]⟩ : ByteArray) ++ t212) ++ (⟨#[35, 32, 101, 110, 100]⟩ : ByteArray)).extract (t213 : Int).toNat (((⟨#[35, 32, 115, 111, 10, 108, 111, 99, 107, 115, 58, 10, 120, 10]⟩ : ByteArray) ++ t212) ++ (⟨#[35, 32, 101, 110, 100]⟩ : ByteArray)).size))] rfl (by (try simp only [List.map_toArray, List.map_cons, List.map_nil]); first | done | rfl | (simp only [List.length_drop, List.length_take]; rfl) | (simp only [ByteArray.size_append, Int.natCast_add]; first | done | rfl)) ?_; (with_reducible refine (dent_Locks.calls ((((((⟨#[35, 32, 115, 111, 10, 108, 111, 99, 107, 115, 58, 10, 120, 10]⟩ : ByteArray) ++ t212) ++ (⟨#[35, 32, 101, 110, 100]⟩ : ByteArray)).extract 0 (t213 : Int).toNat) ++ (strOfNums y214)) ++ ((((⟨#[35, 32, 115, 111, 10, 108, 111, 99, 107, 115, 58, 10, 120, 10]⟩ : ByteArray) ++ t212) ++ (⟨#[35, 32, 101, 110, 100]⟩ : ByteArray)).extract (t213 : Int).toNat (((⟨#[35, 32, 115, 111, 10, 108, 111, 99, 107, 115, 58, 10, 120, 10]⟩ : ByteArray) ++ t212) ++ (⟨#[35, 32, 101, 110, 100]⟩ : ByteArray)).size)) t217 t220 t221 t222 _ ?side1 A25.out).mono ?_); (case side1 => exact GL.below0 hG (by repeat (first | (with_reducible first | exact HB.out | apply below_alloc | apply pw_below_drewN | apply below_drew1) | exact HB.out))); rintro e w63 ⟨v218, rfl, ho0, hb⟩; refine ⟨_, rfl, ?_⟩; have n0_ := Aside0.mk (Kd.R_elder' (by (with_reducible repeat (first | apply Kd.R_alloc | apply Kd.R_drewN | apply Kd.R_drew)); exact HO211.out) (Kd.R_base ho0) hb); have n1_ := Aside0.mk (Kd.R_below (by (with_reducible repeat (first | apply Kd.R_alloc | apply Kd.R_drewN | apply Kd.R_drew)); exact HO216.out) hb); have n2_ := Aside0.mk (Kd.R_lower (Kd.R_new' ho0 (Kd.R_lt (by (with_reducible repeat (first | apply Kd.R_alloc | apply Kd.R_drewN | apply Kd.R_drew)); exact HO211.out))) (below_size (by repeat (first | (with_reducible first | exact HB.out | apply below_alloc | apply pw_below_drewN | apply below_drew1) | exact HB.out)))); have n3_ := Aside0.mk (below_step (by repeat (first | (with_reducible first | exact HB.out | apply below_alloc | apply pw_below_drewN | apply below_drew1) | exact HB.out)) hb); clear HO211; clear HO216; clear HB; have HO211 := n0_; have HO216 := n1_; have HO219 := n2_; have HB := n3_; clear n0_ n1_ n2_ n3_; (try clear hb); (try clear hb2); (try clear hk); (try clear hi); (try clear ho0)) | ((with_reducible refine gate_dst (N := 13) rfl ?_); (try (refine gate_guard (by rfl) ?_; dsimp only)); refine box_event ?hg (N := 13) ?hd (cs := #[.int .i64 0, .int .i64 0]) (t := 29) ?hr ?_; (case hd => rfl); (case hg => rfl); (case hr => first | (go_simp; done) | (go_simp; rfl)); intro gb223 hg w64 hbox hb; have n0_ := Aside0.mk (Kd.R_below (by (with_reducible repeat (first | apply Kd.R_alloc | apply Kd.R_drewN | apply Kd.R_drew)); exact HO211.out) hb); have n1_ := Aside0.mk (Kd.R_below (by (with_reducible repeat (first | apply Kd.R_alloc | apply Kd.R_drewN | apply Kd.R_drew)); exact HO216.out) hb); have n2_ := Aside0.mk (Kd.R_below (by (with_reducible repeat (first | apply Kd.R_alloc | apply Kd.R_drewN | apply Kd.R_drew)); exact HO219.out) hb); have n3_ := Aside0.mk (below_step (by repeat (first | (with_reducible first | exact HB.out | apply below_alloc | apply pw_below_drewN | apply below_drew1) | exact HB.out)) hb); have n4_ := Aside0.mk (hbox); have n5_ := Aside0.mk ((by rw [hg]; exact (below_size (by repeat (first | (with_reducible first | exact HB.out | apply below_alloc | apply pw_below_drewN | apply below_drew1) | exact HB.out))) : w.heap.size ≤ gb223)); have n6_ := Aside0.mk ((by rw [hg]; exact (below_size (by repeat (first | (with_reducible first | exact HB.out | apply below_alloc | apply pw_below_drewN | apply below_drew1) | exact HB.out))) : w.heap.size ≤ gb223)); clear HO211; clear HO216; clear HO219; clear HB; have HO211 := n0_; have HO216 := n1_; have HO219 := n2_; have HB := n3_; have BK223 := n4_; have GW223 := n5_; have GE223 := n6_; clear n0_ n1_ n2_ n3_ n4_ n5_ n6_; clear hb hbox hg; have hcz65_0 : w64.cell? ⟨gb223, 0, none⟩ = some (.int .i64 0) := (blk_cell BK223.out 0).trans rfl; have hcz65_1 : w64.cell? ⟨gb223, 1, none⟩ = some (.int .i64 0) := (blk_cell BK223.out 1).trans rfl; have hfz65_0 := blk_frozen BK223.out 0; have hfz65_1 := blk_frozen BK223.out 1))
                        have n0_ : Aside0 (Kd.R k43 43 ((w64.setCell ⟨gb223, 0, none⟩ (.int .i64 t220)).setCell ⟨gb223, 1, none⟩ (.int .i64 t221)) w.heap.size (fun k_ => some k_ ≠ (v218 : Value).ownBlock) (.slice Ao57 t209.length co57) t209) := ⟨by (with_reducible repeat (first | apply Kd.R_alloc | apply Kd.R_drewN | apply Kd.R_drew)); exact Kd.R_mono (Kd.R_far (p := ⟨gb223, 1, none⟩) (Kd.R_far (p := ⟨gb223, 0, none⟩) (Kd.R_types HO211.out BK223.out (by decide)) (fun _ hk => hk.2) (.int .i64 t220)) (fun _ hk => hk.2) (.int .i64 t221)) (fun _ hk => hk.1.2)⟩
                        have n1_ : Aside0 (Kd.R (Kd.int .u8) 5 ((w64.setCell ⟨gb223, 0, none⟩ (.int .i64 t220)).setCell ⟨gb223, 1, none⟩ (.int .i64 t221)) w.heap.size (fun _ => True) v215 y214) := ⟨by (with_reducible repeat (first | apply Kd.R_alloc | apply Kd.R_drewN | apply Kd.R_drew)); exact Kd.R_mono (Kd.R_far (p := ⟨gb223, 1, none⟩) (Kd.R_far (p := ⟨gb223, 0, none⟩) (Kd.R_types HO216.out BK223.out (by decide)) (fun _ hk => hk.2) (.int .i64 t220)) (fun _ hk => hk.2) (.int .i64 t221)) (fun _ hk => trivial)⟩
                        have n2_ : Aside0 (Kd.R k43 43 ((w64.setCell ⟨gb223, 0, none⟩ (.int .i64 t220)).setCell ⟨gb223, 1, none⟩ (.int .i64 t221)) w.heap.size (fun k_ => some k_ ≠ (.slice Ao57 t209.length co57 : Value).ownBlock) v218 t217) := ⟨by (with_reducible repeat (first | apply Kd.R_alloc | apply Kd.R_drewN | apply Kd.R_drew)); exact Kd.R_mono (Kd.R_far (p := ⟨gb223, 1, none⟩) (Kd.R_far (p := ⟨gb223, 0, none⟩) (Kd.R_types HO219.out BK223.out (by decide)) (fun _ hk => hk.2) (.int .i64 t220)) (fun _ hk => hk.2) (.int .i64 t221)) (fun _ hk => hk.1.2)⟩
                        have n3_ : Aside0 (((w64.setCell ⟨gb223, 0, none⟩ (.int .i64 t220)).setCell ⟨gb223, 1, none⟩ (.int .i64 t221)).heap[gb223]? = some (.cells #[.int .i64 t220, .int .i64 t221] 29 (0, 0))) := ⟨by (with_reducible repeat (first | refine blk_drewN ?_ _ | refine blk_drew ?_ | refine blk_alloc ?_ _)); refine blk_put (cs := #[.int .i64 t220, .int .i64 0]) ?_ 1 _ rfl; (with_reducible repeat (first | refine blk_drewN ?_ _ | refine blk_drew ?_ | refine blk_alloc ?_ _)); refine blk_put (cs := #[.int .i64 0, .int .i64 0]) ?_ 0 _ rfl; (with_reducible repeat (first | refine blk_drewN ?_ _ | refine blk_drew ?_ | refine blk_alloc ?_ _)); exact BK223.out⟩
                        have n4_ : Aside0 (Below w.heap.size w ((w64.setCell ⟨gb223, 0, none⟩ (.int .i64 t220)).setCell ⟨gb223, 1, none⟩ (.int .i64 t221))) := ⟨by repeat (first | (with_reducible first | exact HB.out | apply below_alloc | apply pw_below_drewN | apply below_drew1 | refine below_set ?_ GE223.out) | exact HB.out)⟩
                        (try clear HO211)
                        (try clear HO216)
                        (try clear HO219)
                        (try clear BK223)
                        (try clear HB)
                        generalize ((w64.setCell ⟨gb223, 0, none⟩ (.int .i64 t220)).setCell ⟨gb223, 1, none⟩ (.int .i64 t221)) = w66 at n0_ n1_ n2_ n3_ n4_ ⊢
                        have HO211 := n0_
                        have HO216 := n1_
                        have HO219 := n2_
                        have BK223 := n3_
                        have HB := n4_
                        clear n0_ n1_ n2_ n3_ n4_
                        have n0_ := Aside0.mk (Kd.R_drew HO211.out)
                        have n1_ := Aside0.mk (Kd.R_drew HO216.out)
                        have n2_ := Aside0.mk (Kd.R_drew HO219.out)
                        have n3_ := Aside0.mk (blk_drew BK223.out)
                        have n4_ := Aside0.mk (below_drew1 HB.out)
                        clear HO211
                        clear HO216
                        clear HO219
                        clear BK223
                        clear HB
                        have HO211 := n0_
                        have HO216 := n1_
                        have HO219 := n2_
                        have BK223 := n3_
                        have HB := n4_
                        clear n0_ n1_ n2_ n3_ n4_
                        refine start_ (n := 15) (S := fun w' => True) (ds := []) #[false, false, false, false, false, false, false, false, false, false, false, false, false, false, false] (by kernel_rfl) rfl rfl trivial (fun hHeld => ?_); refine with_tabW transhumancelaw7_DentBad.tab9 transhumancelaw7_DentBad.bits9 (fun HT_ HW_ => ?_)
                        generalize w66.drew = w67 at HO211 HO216 HO219 BK223 HB hHeld ⊢
                        refine pure_ (i := 0) (N := some 64) (v := ?_) (a' := ?_) #[true, false, false, false, false, false, false, false, false, false, false, false, false, false, false] rfl rfl (any_of HT_.out (by kernel_rfl)) (fun _ _ _ h => h) (Or.inl ⟨by rfl, ?_⟩) ?_ ?_
                        rotate_left
                        · intro w'
                          go_simp
                          with_reducible rfl
                        rotate_left
                        · simp only [Act.put, List.setIfInBounds_toArray, List.set_cons_zero, List.set_cons_succ, i64_w, i32_w]
                          rfl
                        refine pure_ (i := 1) (N := some 65) (v := ?_) (a' := ?_) #[true, true, false, false, false, false, false, false, false, false, false, false, false, false, false] rfl rfl (any_of HT_.out (by kernel_rfl)) (fun _ _ _ h => h) (Or.inl ⟨by rfl, ?_⟩) ?_ ?_
                        rotate_left
                        · intro w'
                          go_simp
                          with_reducible rfl
                        rotate_left
                        · simp only [Act.put, List.setIfInBounds_toArray, List.set_cons_zero, List.set_cons_succ, i64_w, i32_w]
                          rfl
                        refine pure_ (i := 2) (N := some 66) (v := ?_) (a' := ?_) #[true, true, true, false, false, false, false, false, false, false, false, false, false, false, false] rfl rfl (any_of HT_.out (by kernel_rfl)) (fun _ _ _ h => h) (Or.inl ⟨by rfl, ?_⟩) ?_ ?_
                        rotate_left
                        · intro w'
                          go_simp
                          with_reducible rfl
                        rotate_left
                        · simp only [Act.put, List.setIfInBounds_toArray, List.set_cons_zero, List.set_cons_succ, i64_w, i32_w]
                          rfl
                        refine pure_ (i := 3) (N := some 67) (v := undef) (a' := ?_) #[true, true, true, true, false, false, false, false, false, false, false, false, false, false, false] rfl rfl (any_of HT_.out (by kernel_rfl)) (fun _ _ _ h => h) (Or.inr ⟨by rfl, rfl⟩) ?_ ?_
                        rotate_left
                        · simp only [Act.put, List.setIfInBounds_toArray, List.set_cons_zero, List.set_cons_succ, i64_w, i32_w]
                          rfl
                        refine pure_ (i := 4) (N := some 68) (v := undef) (a' := ?_) #[true, true, true, true, true, false, false, false, false, false, false, false, false, false, false] rfl rfl (any_of HT_.out (by kernel_rfl)) (fun _ _ _ h => h) (Or.inr ⟨by rfl, rfl⟩) ?_ ?_
                        rotate_left
                        · simp only [Act.put, List.setIfInBounds_toArray, List.set_cons_zero, List.set_cons_succ, i64_w, i32_w]
                          rfl
                        refine pure_ (i := 5) (N := some 69) (v := undef) (a' := ?_) #[true, true, true, true, true, true, false, false, false, false, false, false, false, false, false] rfl rfl (any_of HT_.out (by kernel_rfl)) (fun _ _ _ h => h) (Or.inr ⟨by rfl, rfl⟩) ?_ ?_
                        rotate_left
                        · simp only [Act.put, List.setIfInBounds_toArray, List.set_cons_zero, List.set_cons_succ, i64_w, i32_w]
                          rfl
                        refine pure_ (i := 6) (N := some 70) (v := undef) (a' := ?_) #[true, true, true, true, true, true, true, false, false, false, false, false, false, false, false] rfl rfl (any_of HT_.out (by kernel_rfl)) (fun _ _ _ h => h) (Or.inr ⟨by rfl, rfl⟩) ?_ ?_
                        rotate_left
                        · simp only [Act.put, List.setIfInBounds_toArray, List.set_cons_zero, List.set_cons_succ, i64_w, i32_w]
                          rfl
                        refine pure_ (i := 7) (N := some 71) (v := undef) (a' := ?_) #[true, true, true, true, true, true, true, true, false, false, false, false, false, false, false] rfl rfl (any_of HT_.out (by kernel_rfl)) (fun _ _ _ h => h) (Or.inr ⟨by rfl, rfl⟩) ?_ ?_
                        rotate_left
                        · simp only [Act.put, List.setIfInBounds_toArray, List.set_cons_zero, List.set_cons_succ, i64_w, i32_w]
                          rfl
                        refine pure_ (i := 8) (N := some 72) (v := ?_) (a' := ?_) #[true, true, true, true, true, true, true, true, true, false, false, false, false, false, false] rfl rfl (any_of HT_.out (by kernel_rfl)) (fun _ _ _ h => h) (Or.inl ⟨by rfl, ?_⟩) ?_ ?_
                        rotate_left
                        · intro w'
                          go_simp
                          with_reducible rfl
                        rotate_left
                        · simp only [Act.put, List.setIfInBounds_toArray, List.set_cons_zero, List.set_cons_succ, i64_w, i32_w]
                          rfl
                        refine pure_ (i := 9) (N := some 73) (v := ?_) (a' := ?_) #[true, true, true, true, true, true, true, true, true, true, false, false, false, false, false] rfl rfl (any_of HT_.out (by kernel_rfl)) (fun _ _ _ h => h) (Or.inl ⟨by rfl, ?_⟩) ?_ ?_
                        rotate_left
                        · intro w'
                          go_simp
                          with_reducible rfl
                        rotate_left
                        · simp only [Act.put, List.setIfInBounds_toArray, List.set_cons_zero, List.set_cons_succ, i64_w, i32_w]
                          rfl
                        refine pure_ (i := 10) (N := some 74) (v := undef) (a' := ?_) #[true, true, true, true, true, true, true, true, true, true, true, false, false, false, false] rfl rfl (any_of HT_.out (by kernel_rfl)) (fun _ _ _ h => h) (Or.inr ⟨by rfl, rfl⟩) ?_ ?_
                        rotate_left
                        · simp only [Act.put, List.setIfInBounds_toArray, List.set_cons_zero, List.set_cons_succ, i64_w, i32_w]
                          rfl
                        refine pure_ (i := 11) (N := some 75) (v := undef) (a' := ?_) #[true, true, true, true, true, true, true, true, true, true, true, true, false, false, false] rfl rfl (any_of HT_.out (by kernel_rfl)) (fun _ _ _ h => h) (Or.inr ⟨by rfl, rfl⟩) ?_ ?_
                        rotate_left
                        · simp only [Act.put, List.setIfInBounds_toArray, List.set_cons_zero, List.set_cons_succ, i64_w, i32_w]
                          rfl
                        refine pure_ (i := 12) (N := some 76) (v := undef) (a' := ?_) #[true, true, true, true, true, true, true, true, true, true, true, true, true, false, false] rfl rfl (any_of HT_.out (by kernel_rfl)) (fun _ _ _ h => h) (Or.inr ⟨by rfl, rfl⟩) ?_ ?_
                        rotate_left
                        · simp only [Act.put, List.setIfInBounds_toArray, List.set_cons_zero, List.set_cons_succ, i64_w, i32_w]
                          rfl
                        refine pure_ (i := 13) (N := some 77) (v := ?_) (a' := ?_) #[true, true, true, true, true, true, true, true, true, true, true, true, true, true, false] rfl rfl (any_of HT_.out (by kernel_rfl)) (fun _ _ _ h => h) (Or.inl ⟨by rfl, ?_⟩) ?_ ?_
                        rotate_left
                        · intro w'
                          go_simp
                          with_reducible rfl
                        rotate_left
                        · simp only [Act.put, List.setIfInBounds_toArray, List.set_cons_zero, List.set_cons_succ, i64_w, i32_w]
                          rfl
                        refine pure_ (i := 14) (N := some 8) (v := ?_) (a' := ?_) #[true, true, true, true, true, true, true, true, true, true, true, true, true, true, true] rfl rfl (any_of HT_.out (by kernel_rfl)) (fun _ _ _ h => h) (Or.inl ⟨by rfl, ?_⟩) ?_ ?_
                        rotate_left
                        · intro w'
                          go_simp
                          with_reducible rfl
                        rotate_left
                        · simp only [Act.put, List.setIfInBounds_toArray, List.set_cons_zero, List.set_cons_succ, i64_w, i32_w]
                          rfl
                        refine done_ (done_of HT_.out (by kernel_rfl)) ?_
                        try go_wp2
                        go_ret
                        exact ⟨by first | rfl | (simp [errW_none, errW_some] <;> rfl) | (simp [*, errW_none, errW_some] <;> rfl), by repeat (first | (with_reducible first | exact HB.out | apply below_alloc | apply pw_below_drewN | apply below_drew1 | refine below_set ?_ GE223.out) | exact HB.out)⟩
                    · rw [if_neg c24] at H
                      exact absurd H (by simp)
                  · rw [if_neg c21] at H
                    exact absurd H (by simp)
                · rw [if_neg c20] at H
                  exact absurd H (by simp)
              · rw [if_neg c19] at H
                exact absurd H (by simp)
            · rw [if_neg c17] at H
              exact absurd H (by simp)
          · rw [if_neg c16] at H
            exact absurd H (by simp)
  · replace c6 := Bool.eq_false_iff.mpr c6
    subst c6
    have H1 : (some false) = some r := by rw [if_neg (show ¬ (false = true) by decide)] at H; exact H
    clear H
    have H := H1
    clear H1
    obtain rfl := Option.some.inj H
    go_enter Tryz.func7, Tryz.ntmps7
    go_wp2_with (first | ((with_reducible refine gate_callee (f := 10) rfl ?_); refine goesL_ (some 15) rfl rfl Tryz.func10 (by kernel_rfl) rfl #[] rfl (by (try simp only [List.map_toArray, List.map_cons, List.map_nil]); first | done | rfl | (simp only [List.length_drop, List.length_take]; rfl) | (simp only [ByteArray.size_append, Int.natCast_add]; first | done | rfl)) ?_; (with_reducible refine (transhumancelaw7_known.calls  false _ ?side1 A5.out).mono ?_); (case side1 => exact GL.below0 hG (by repeat (first | (with_reducible first | exact HB.out | apply below_alloc | apply pw_below_drewN | apply below_drew1) | exact HB.out))); rintro e w68 ⟨rfl, hb⟩; refine ⟨_, rfl, ?_⟩; have n0_ := Aside0.mk (below_step (by repeat (first | (with_reducible first | exact HB.out | apply below_alloc | apply pw_below_drewN | apply below_drew1) | exact HB.out)) hb); clear HB; have HB := n0_; clear n0_; (try clear hb); (try clear hb2); (try clear hk); (try clear hi)))
    go_ret
    exact ⟨by first | rfl | (simp [errW_none, errW_some] <;> rfl) | (simp [*, errW_none, errW_some] <;> rfl), by repeat (first | (with_reducible first | exact HB.out | apply below_alloc | apply pw_below_drewN | apply below_drew1) | exact HB.out)⟩
def transhumancelaw7_DentBad.Pure : Prop := ∀ (l0 : List Int) (l1 : List Int) (a2 : Int) (a3 : Int), l0.length ≤ maxLen → l0.length * 8 ≤ 140737488351232 → (∀ x ∈ l0, (Lit.int .i64 x).wf = true) → l1.length ≤ maxLen → l1.length * 1 ≤ 140737488351232 → (∀ x ∈ l1, (Lit.int .u8 x).wf = true) → (Lit.int .i64 a2).wf = true → (Lit.int .u8 a3).wf = true → ∃ k, transhumancelaw7_DentBad.f k l0 l1 a2 a3 = some true
theorem transhumancelaw7_DentBad.walk (P : transhumancelaw7_DentBad.Pure) (a0 : Option Addr) (len0 cap0 : Nat) (z0 : List Int) (a1 : Option Addr) (len1 cap1 : Nat) (z1 : List Int) (a2 : Int) (a3 : Int) (w : World) (w0 : (a0 = none ∧ len0 = 0 ∧ cap0 = 0 ∧ z0 = []) ∨ ∃ x, a0 = some x ∧ len0 ≤ cap0 ∧ cap0 ≤ maxLen ∧ z0.length = cap0 ∧ (∀ i, i < z0.length → w.cell? (x.add i) = some (.int .i64 (z0.getD i 0))) ∧ ∀ n ∈ z0, (Lit.int .i64 n).wf = true) (y0 : len0 * 8 ≤ 140737488351232) (w1 : (a1 = none ∧ len1 = 0 ∧ cap1 = 0 ∧ z1 = []) ∨ ∃ x, a1 = some x ∧ len1 ≤ cap1 ∧ cap1 ≤ maxLen ∧ z1.length = cap1 ∧ (∀ i, i < z1.length → w.cell? (x.add i) = some (.int .u8 (z1.getD i 0))) ∧ ∀ n ∈ z1, (Lit.int .u8 n).wf = true) (y1 : len1 * 1 ≤ 140737488351232) (w2 : (Lit.int .i64 a2).wf = true) (w3 : (Lit.int .u8 a3).wf = true) (hG : GL w) :
    Calls Tryz.prog 7 #[.slice a0 len0 cap0, .slice a1 len1 cap1, .int .i64 a2, .int .u8 a3] w fun e w' => e = .returned (.bool true) ∧ Below w.heap.size w w' := by
  obtain ⟨l0, rfl, hr0, hm0, hw0, hc0⟩ := ReadsInt.ofRowC w0
  obtain ⟨l1, rfl, hr1, hm1, hw1, hc1⟩ := ReadsInt.ofRowC w1
  obtain ⟨k, h⟩ := P l0 l1 a2 a3 hm0 y0 hw0 hm1 y1 hw1 w2 w3
  refine (transhumancelaw7_DentBad.calls k _ _ l0 _ _ l1 a2 a3 true w hG (Kd.C_of_reads (d := (0 : Int)) (h1 := fun _ => rfl) hr0) hc0 (Kd.C_of_reads (d := (0 : Int)) (h1 := fun _ => rfl) hr1) hc1 h).mono ?_
  rintro e w' ⟨rfl, hd⟩
  exact ⟨rfl, hd⟩
end Go.Proofs.YtghencpiejbecaaGreatDoor.Q
