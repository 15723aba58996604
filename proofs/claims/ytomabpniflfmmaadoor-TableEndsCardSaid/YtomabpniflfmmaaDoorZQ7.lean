import Derived.Test.YtomabpniflfmmaaDoorZQ2g
import Derived.Test.YtomabpniflfmmaaDoorZQ6
namespace Go.Proofs.YtomabpniflfmmaaDoor.Q
open Go.RowKit Go.Proofs.YtomabpniflfmmaaDoorW.PrintWords Go.Proofs.YtomabpniflfmmaaDoorW.PrintLast Go.Proofs.YtomabpniflfmmaaDoorW.PrintMore
attribute [local go_sem] max2_int min2_int max_two min_two max_three min_three max_four min_four
set_option linter.unusedVariables false
set_option linter.unusedSimpArgs false
def transhumancelaw4_Make.l0 : Nat → Int → List ByteArray → ByteArray → Int → Option (ByteArray)
  | 0, _, _, _, _ => none
  | k + 1, x3, x4, x5, x6 => if x6 > 0 then (if x5.size + 1 ≤ 9223372036854775807 then (if 0 ≤ (Int.tmod (wrap64 (Int.tdiv x3 4)) 11) then (if (Int.tmod (wrap64 (Int.tdiv x3 4)) 11) < (x4.length : Int) then (if (x5 ++ (⟨#[47]⟩ : ByteArray)).size + (rdOf ByteArray.empty x4 (Int.tmod (wrap64 (Int.tdiv x3 4)) 11)).size ≤ 9223372036854775807 then (transhumancelaw4_Make.l0 k (wrap64 (Int.tdiv x3 4)) x4 ((x5 ++ (⟨#[47]⟩ : ByteArray)) ++ (rdOf ByteArray.empty x4 (Int.tmod (wrap64 (Int.tdiv x3 4)) 11))) (wrap64 (x6 - 1))) else (none)) else (none)) else (none)) else (none)) else (if (x5.size : Int) > 40 then (some (⟨#[97, 47, 98]⟩ : ByteArray)) else (some x5))
def transhumancelaw4_Make.f (k : Nat) (a0 : Int) : Option (ByteArray) := (transhumancelaw4_within.f a0 1099511627776).bind fun t146 => ((some (([(⟨#[97]⟩ : ByteArray), (⟨#[98]⟩ : ByteArray), (⟨#[97, 46, 98]⟩ : ByteArray), (⟨#[99, 45, 100]⟩ : ByteArray), (⟨#[118, 50]⟩ : ByteArray), (⟨#[118, 51]⟩ : ByteArray), (⟨#[118, 49]⟩ : ByteArray), (⟨#[118, 48, 50]⟩ : ByteArray), (⟨#[95]⟩ : ByteArray), (⟨#[108, 105, 98]⟩ : ByteArray), (⟨#[118, 50, 48]⟩ : ByteArray)] : List ByteArray) : List ByteArray)).bind fun y147 => (if 0 ≤ (Int.tmod t146 11) then (if (Int.tmod t146 11) < (y147.length : Int) then (transhumancelaw4_Make.l0 k (wrap64 (Int.tdiv t146 11)) y147 (rdOf ByteArray.empty y147 (Int.tmod t146 11)) (Int.tmod (wrap64 (Int.tdiv t146 11)) 4)) else (none)) else (none)))
set_option maxHeartbeats 8000000 in
set_option maxRecDepth 100000 in
theorem transhumancelaw4_Make.calls (k : Nat) (a0 : Int) (r : ByteArray) (w : World) (h : transhumancelaw4_Make.f k a0 = some r) :
    Calls Tryd.prog 47 #[.int .i64 a0] w fun e w' => e = .returned (.string r) ∧ Below w.heap.size w w' := by
  have HB := Aside0.mk (Below.refl w.heap.size w)
  have H : ((transhumancelaw4_within.f a0 1099511627776).bind fun t146 => ((some (([(⟨#[97]⟩ : ByteArray), (⟨#[98]⟩ : ByteArray), (⟨#[97, 46, 98]⟩ : ByteArray), (⟨#[99, 45, 100]⟩ : ByteArray), (⟨#[118, 50]⟩ : ByteArray), (⟨#[118, 51]⟩ : ByteArray), (⟨#[118, 49]⟩ : ByteArray), (⟨#[118, 48, 50]⟩ : ByteArray), (⟨#[95]⟩ : ByteArray), (⟨#[108, 105, 98]⟩ : ByteArray), (⟨#[118, 50, 48]⟩ : ByteArray)] : List ByteArray) : List ByteArray)).bind fun y147 => (if 0 ≤ (Int.tmod t146 11) then (if (Int.tmod t146 11) < (y147.length : Int) then (transhumancelaw4_Make.l0 k (wrap64 (Int.tdiv t146 11)) y147 (rdOf ByteArray.empty y147 (Int.tmod t146 11)) (Int.tmod (wrap64 (Int.tdiv t146 11)) 4)) else (none)) else (none)))) = some r := h
  clear h
  replace H := Option.bind_eq_some_iff.mp H
  obtain ⟨t146, A20, H⟩ := H
  replace H : ((some (([(⟨#[97]⟩ : ByteArray), (⟨#[98]⟩ : ByteArray), (⟨#[97, 46, 98]⟩ : ByteArray), (⟨#[99, 45, 100]⟩ : ByteArray), (⟨#[118, 50]⟩ : ByteArray), (⟨#[118, 51]⟩ : ByteArray), (⟨#[118, 49]⟩ : ByteArray), (⟨#[118, 48, 50]⟩ : ByteArray), (⟨#[95]⟩ : ByteArray), (⟨#[108, 105, 98]⟩ : ByteArray), (⟨#[118, 50, 48]⟩ : ByteArray)] : List ByteArray) : List ByteArray)).bind fun y147 => (if 0 ≤ (Int.tmod t146 11) then (if (Int.tmod t146 11) < (y147.length : Int) then (transhumancelaw4_Make.l0 k (wrap64 (Int.tdiv t146 11)) y147 (rdOf ByteArray.empty y147 (Int.tmod t146 11)) (Int.tmod (wrap64 (Int.tdiv t146 11)) 4)) else (none)) else (none))) = some r := H
  have A2 := Aside0.mk A20
  clear A20
  obtain ⟨y147, hy147⟩ : ∃ y_ : List ByteArray, y_ = (([(⟨#[97]⟩ : ByteArray), (⟨#[98]⟩ : ByteArray), (⟨#[97, 46, 98]⟩ : ByteArray), (⟨#[99, 45, 100]⟩ : ByteArray), (⟨#[118, 50]⟩ : ByteArray), (⟨#[118, 51]⟩ : ByteArray), (⟨#[118, 49]⟩ : ByteArray), (⟨#[118, 48, 50]⟩ : ByteArray), (⟨#[95]⟩ : ByteArray), (⟨#[108, 105, 98]⟩ : ByteArray), (⟨#[118, 50, 48]⟩ : ByteArray)] : List ByteArray)) := ⟨_, rfl⟩
  replace H : (if 0 ≤ (Int.tmod t146 11) then (if (Int.tmod t146 11) < (y147.length : Int) then (transhumancelaw4_Make.l0 k (wrap64 (Int.tdiv t146 11)) y147 (rdOf ByteArray.empty y147 (Int.tmod t146 11)) (Int.tmod (wrap64 (Int.tdiv t146 11)) 4)) else (none)) else (none)) = some r := by first | (rw [hy147]; with_reducible exact H) | (have H2_ := (Option.bind_some _ _).symm.trans H; rw [hy147]; with_reducible exact H2_) | (have H2_ := (Option.bind_some _ _).symm.trans H; with_reducible exact H2_) | with_reducible exact H | (rw [hy147]; exact H) | exact H
  have Ny147 := Aside0.mk hy147
  clear hy147
  obtain ⟨ji3, hji3⟩ : ∃ j_ : Int, (Int.tmod t146 11) = j_ := ⟨_, rfl⟩
  replace H : (if 0 ≤ (ji3) then (if (ji3) < (y147.length : Int) then (transhumancelaw4_Make.l0 k (wrap64 (Int.tdiv t146 11)) y147 (rdOf ByteArray.empty y147 (ji3)) (Int.tmod (wrap64 (Int.tdiv t146 11)) 4)) else (none)) else (none)) = some r := by first | (rw [hji3] at H; exact H) | (simp only [hji3] at H ⊢; exact H)
  (try rw [hji3] at A2)
  by_cases c4 : 0 ≤ (ji3)
  · rw [if_pos c4] at H
    have c4b0 : decide (0 ≤ (ji3)) = true := decide_eq_true c4
    clear c4
    by_cases c5 : (ji3) < (y147.length : Int)
    · rw [if_pos c5] at H
      have c5b0 : decide ((ji3) < (y147.length : Int)) = true := decide_eq_true c5
      clear c5
      have H' := Aside0.mk H
      clear H
      go_enter Tryd.func47, Tryd.ntmps47
      go_wp2_with (first | ((with_reducible refine gate_callee (f := 72) rfl ?_); refine goesL_ (some 8) rfl rfl Tryd.func72 (by kernel_rfl) rfl #[.int .i64 a0, .int .i64 1099511627776] rfl (by (try simp only [List.map_toArray, List.map_cons, List.map_nil]); first | done | rfl | (simp only [List.length_drop, List.length_take]; rfl)) ?_; (with_reducible refine (transhumancelaw4_within.calls a0 1099511627776 t146 _ A2.out).mono ?_); rintro e w' ⟨rfl, ⟨nd, rfl⟩⟩; refine ⟨_, rfl, ?_⟩) | ((with_reducible refine gate_dst (N := 9) rfl ?_); refine Kd.R_lit Kd.string _ 9 ?hg (N := 9) ?hd (xs := ([(⟨#[97]⟩ : ByteArray), (⟨#[98]⟩ : ByteArray), (⟨#[97, 46, 98]⟩ : ByteArray), (⟨#[99, 45, 100]⟩ : ByteArray), (⟨#[118, 50]⟩ : ByteArray), (⟨#[118, 51]⟩ : ByteArray), (⟨#[118, 49]⟩ : ByteArray), (⟨#[118, 48, 50]⟩ : ByteArray), (⟨#[95]⟩ : ByteArray), (⟨#[108, 105, 98]⟩ : ByteArray), (⟨#[118, 50, 48]⟩ : ByteArray)] : List ByteArray)) (inner := [.string (⟨#[97]⟩ : ByteArray), .string (⟨#[98]⟩ : ByteArray), .string (⟨#[97, 46, 98]⟩ : ByteArray), .string (⟨#[99, 45, 100]⟩ : ByteArray), .string (⟨#[118, 50]⟩ : ByteArray), .string (⟨#[118, 51]⟩ : ByteArray), .string (⟨#[118, 49]⟩ : ByteArray), .string (⟨#[118, 48, 50]⟩ : ByteArray), .string (⟨#[95]⟩ : ByteArray), .string (⟨#[108, 105, 98]⟩ : ByteArray), .string (⟨#[118, 50, 48]⟩ : ByteArray)]) (ok := fun _ => True) (okp := fun _ => True) ?hr ?hp (fun _ hk => hk) trivial (Below.refl _ _) (Nat.le_refl _) (by simp) ?_; (case hd => rfl); (case hg => rfl); (case hr => first | (go_simp; done) | (go_simp; rfl)); (case hp => exact (Reps.one (show Kd.M Kd.string _ _ _ (⟨#[97]⟩ : ByteArray) [.string (⟨#[97]⟩ : ByteArray)] from rfl) (Reps.one (show Kd.M Kd.string _ _ _ (⟨#[98]⟩ : ByteArray) [.string (⟨#[98]⟩ : ByteArray)] from rfl) (Reps.one (show Kd.M Kd.string _ _ _ (⟨#[97, 46, 98]⟩ : ByteArray) [.string (⟨#[97, 46, 98]⟩ : ByteArray)] from rfl) (Reps.one (show Kd.M Kd.string _ _ _ (⟨#[99, 45, 100]⟩ : ByteArray) [.string (⟨#[99, 45, 100]⟩ : ByteArray)] from rfl) (Reps.one (show Kd.M Kd.string _ _ _ (⟨#[118, 50]⟩ : ByteArray) [.string (⟨#[118, 50]⟩ : ByteArray)] from rfl) (Reps.one (show Kd.M Kd.string _ _ _ (⟨#[118, 51]⟩ : ByteArray) [.string (⟨#[118, 51]⟩ : ByteArray)] from rfl) (Reps.one (show Kd.M Kd.string _ _ _ (⟨#[118, 49]⟩ : ByteArray) [.string (⟨#[118, 49]⟩ : ByteArray)] from rfl) (Reps.one (show Kd.M Kd.string _ _ _ (⟨#[118, 48, 50]⟩ : ByteArray) [.string (⟨#[118, 48, 50]⟩ : ByteArray)] from rfl) (Reps.one (show Kd.M Kd.string _ _ _ (⟨#[95]⟩ : ByteArray) [.string (⟨#[95]⟩ : ByteArray)] from rfl) (Reps.one (show Kd.M Kd.string _ _ _ (⟨#[108, 105, 98]⟩ : ByteArray) [.string (⟨#[108, 105, 98]⟩ : ByteArray)] from rfl) (Reps.one (show Kd.M Kd.string _ _ _ (⟨#[118, 50, 48]⟩ : ByteArray) [.string (⟨#[118, 50, 48]⟩ : ByteArray)] from rfl) (Reps.none _ _))))))))))))); intro v148 w6 ho7 hb hg_ hnew_; clear hg_ hnew_; (first | rw [← Ny147.out] at ho7 | (simp only [Int.reduceToNat] at ho7; rw [← Ny147.out] at ho7)); have n0_ := Aside0.mk (Kd.R_lower ho7 (below_size (by repeat (first | (with_reducible first | exact HB.out | apply below_alloc | apply pw_below_drewN | apply below_drew1) | exact HB.out)))); have n1_ := Aside0.mk (below_step (by repeat (first | (with_reducible first | exact HB.out | apply below_alloc | apply pw_below_drewN | apply below_drew1) | exact HB.out)) hb); clear HB; have HO149 := n0_; have HB := n1_; clear n0_ n1_; clear hb ho7; obtain ⟨Ao8, co8, eo8⟩ := Kd.R_slice HO149.out; subst eo8; have p150 : 0 ≤ ((ji3) : Int) := of_decide_eq_true (by first | (with_reducible assumption) | assumption); have q150 : (ji3) < (y147.length : Int) := of_decide_eq_true (by first | (with_reducible assumption) | assumption); obtain ⟨ad150, e150, hx150_0⟩ := Kd.at_string (Kd.R_reads' HO149.out).2.2 (ji3) p150 q150; cases e150; replace p150 := eq_true p150; replace q150 := eq_true q150))
      go_loopg [3, 5, 6] k (fun kq v3 v5 v6 w' => ∃ (x3_1 : Int) (x5_1 : ByteArray) (x6_1 : Int), v3 = .int .i64 x3_1 ∧ v5 = .string x5_1 ∧ v6 = .int .i64 x6_1 ∧ Aside0 (transhumancelaw4_Make.l0 kq x3_1 y147 x5_1 x6_1 = some r) ∧ Aside0 (kq ≤ k) ∧ Aside0 (Kd.R Kd.string 9 w' w.heap.size (fun _ => True) (.slice (some ad150) y147.length co8) y147) ∧ Aside0 (Below w.heap.size w w'))
      case atStart => exact ⟨(wrap64 (Int.tdiv t146 11)), (rdOf ByteArray.empty y147 (ji3)), (Int.tmod (wrap64 (Int.tdiv t146 11)) 4), (by first | rfl | (simp; done) | (simp [*]; done)), (by first | rfl | (simp; done) | (simp only [← hji3] <;> (first | rfl | simp)) | (simp [*]; done)), (by first | rfl | (simp; done) | (simp [*]; done)), H', ⟨Nat.le_refl _⟩, ⟨by (with_reducible repeat (first | apply Kd.R_alloc | apply Kd.R_drewN | apply Kd.R_drew)); exact HO149.out⟩, ⟨by repeat (first | (with_reducible first | exact HB.out | apply below_alloc | apply pw_below_drewN | apply below_drew1) | exact HB.out)⟩⟩
      case round =>
        clear H'
        try clear p1
        try clear q1
        try clear hx1
        try clear p2
        try clear c4
        try clear c4b0
        try clear c5
        try clear c5b0
        try clear p6
        try clear c7
        try clear hx150_0
        try clear p150
        try clear q150
        obtain ⟨x3_1, x5_1, x6_1, rfl, rfl, rfl, HA, HK1, HO_4, HB⟩ := hrel
        cases gk with
        | zero => exact absurd HA.out (by simp [transhumancelaw4_Make.l0])
        | succ k1 =>
          have H := HA.out
          clear HA
          simp only [transhumancelaw4_Make.l0] at H
          by_cases c9 : x6_1 > 0
          · rw [if_pos c9] at H
            have c9b0 : decide (0 < x6_1) = true := decide_eq_true c9
            clear c9
            by_cases c10 : x5_1.size + 1 ≤ 9223372036854775807
            · rw [if_pos c10] at H
              have c10b0 := eq_true c10
              have c10b1 : decide (x5_1.size + 1 ≤ 9223372036854775807) = true := decide_eq_true c10
              try have c10b2 : (9223372036854775807 < x5_1.size + 1) = False := eq_false (Nat.not_lt.2 c10)
              obtain ⟨ji11, hji11⟩ : ∃ j_ : Int, (Int.tmod (wrap64 (Int.tdiv x3_1 4)) 11) = j_ := ⟨_, rfl⟩
              replace H : (if 0 ≤ (ji11) then (if (ji11) < (y147.length : Int) then (if (x5_1 ++ (⟨#[47]⟩ : ByteArray)).size + (rdOf ByteArray.empty y147 (ji11)).size ≤ 9223372036854775807 then (transhumancelaw4_Make.l0 k1 (wrap64 (Int.tdiv x3_1 4)) y147 ((x5_1 ++ (⟨#[47]⟩ : ByteArray)) ++ (rdOf ByteArray.empty y147 (ji11))) (wrap64 (x6_1 - 1))) else (none)) else (none)) else (none)) = some r := by first | (rw [hji11] at H; exact H) | (simp only [hji11] at H ⊢; exact H)
              by_cases c12 : 0 ≤ (ji11)
              · rw [if_pos c12] at H
                have c12b0 : decide (0 ≤ (ji11)) = true := decide_eq_true c12
                clear c12
                by_cases c13 : (ji11) < (y147.length : Int)
                · rw [if_pos c13] at H
                  have c13b0 : decide ((ji11) < (y147.length : Int)) = true := decide_eq_true c13
                  clear c13
                  by_cases c14 : (x5_1 ++ (⟨#[47]⟩ : ByteArray)).size + (rdOf ByteArray.empty y147 (ji11)).size ≤ 9223372036854775807
                  · rw [if_pos c14] at H
                    have c14b0 := eq_true c14
                    have c14b1 : decide ((x5_1 ++ (⟨#[47]⟩ : ByteArray)).size + (rdOf ByteArray.empty y147 (ji11)).size ≤ 9223372036854775807) = true := decide_eq_true c14
                    try have c14b4 : (9223372036854775807 < x5_1.size + 1 + (rdOf ByteArray.empty y147 (ji11)).size) = False := eq_false (by have h_ := c14; (try simp only [ByteArray.size_append] at h_); first | omega | (simp [go_sem] at h_; omega))
                    try have c14b2 : (9223372036854775807 < (x5_1 ++ (⟨#[47]⟩ : ByteArray)).size + (rdOf ByteArray.empty y147 (ji11)).size) = False := eq_false (Nat.not_lt.2 c14)
                    have H' := Aside0.mk H
                    clear H
                    have p151 : 0 ≤ ((ji11) : Int) := of_decide_eq_true (by first | (with_reducible assumption) | assumption)
                    have q151 : (ji11) < (y147.length : Int) := of_decide_eq_true (by first | (with_reducible assumption) | assumption)
                    obtain ⟨ad151, e151, hx151_0⟩ := Kd.at_string (Kd.R_reads' HO_4.out).2.2 (ji11) p151 q151
                    obtain rfl : ad150 = ad151 := (by injection e151)
                    replace p151 := eq_true p151
                    replace q151 := eq_true q151
                    go_wp2
                    go_roundg k1
                    case measure => have := HK1.out; omega
                    case rel => exact ⟨(wrap64 (Int.tdiv x3_1 4)), ((x5_1 ++ (⟨#[47]⟩ : ByteArray)) ++ (rdOf ByteArray.empty y147 (ji11))), (wrap64 (x6_1 - 1)), (by first | rfl | (simp; done) | (simp [*]; done)), (by first | rfl | (simp; done) | (simp only [← hji11] <;> (first | rfl | simp)) | (simp [*]; done)), (by first | rfl | (simp; done) | (simp [*]; done)), H', ⟨by have := HK1.out; omega⟩, ⟨by (with_reducible repeat (first | apply Kd.R_alloc | apply Kd.R_drewN | apply Kd.R_drew)); exact HO_4.out⟩, ⟨by repeat (first | (with_reducible first | exact HB.out | apply below_alloc | apply pw_below_drewN | apply below_drew1) | exact HB.out)⟩⟩
                  · rw [if_neg c14] at H
                    exact absurd H (by simp)
                · rw [if_neg c13] at H
                  exact absurd H (by simp)
              · rw [if_neg c12] at H
                exact absurd H (by simp)
            · rw [if_neg c10] at H
              exact absurd H (by simp)
          · rw [if_neg c9] at H
            have c9b0 : decide (0 < x6_1) = false := decide_eq_false c9
            clear c9
            by_cases c15 : (x5_1.size : Int) > 40
            · rw [if_pos c15] at H
              have c15b0 : decide (40 < (x5_1.size : Int)) = true := decide_eq_true c15
              have c15b1 : decide (40 < x5_1.size) = true := decide_eq_true (by omega)
              clear c15
              obtain rfl := Option.some.inj H
              go_wp2
              go_ret
              exact ⟨by first | rfl | (simp [errW_none, errW_some] <;> rfl) | (simp only [← hji3]; first | rfl | (simp [errW_none, errW_some] <;> rfl)) | (simp [*, errW_none, errW_some] <;> rfl), by repeat (first | (with_reducible first | exact HB.out | apply below_alloc | apply pw_below_drewN | apply below_drew1) | exact HB.out)⟩
            · rw [if_neg c15] at H
              have c15b0 : decide (40 < (x5_1.size : Int)) = false := decide_eq_false c15
              have c15b1 : decide (40 < x5_1.size) = false := decide_eq_false (by omega)
              clear c15
              obtain rfl := Option.some.inj H
              go_wp2
              go_ret
              exact ⟨by first | rfl | (simp [errW_none, errW_some] <;> rfl) | (simp only [← hji3]; first | rfl | (simp [errW_none, errW_some] <;> rfl)) | (simp [*, errW_none, errW_some] <;> rfl), by repeat (first | (with_reducible first | exact HB.out | apply below_alloc | apply pw_below_drewN | apply below_drew1) | exact HB.out)⟩
    · rw [if_neg c5] at H
      exact absurd H (by simp)
  · rw [if_neg c4] at H
    exact absurd H (by simp)
def transhumanceref1_Digits.f : Nat → Int → Option (ByteArray)
  | 0, _ => none
  | k + 1, a0 => if a0 ≥ 10 then ((transhumanceref1_Digits.f k (wrap64 (Int.tdiv a0 10))).bind fun t152 => ((transhumanceref1_Digits.f k (Int.tmod a0 10)).bind fun t153 => (if t152.size + t153.size ≤ 9223372036854775807 then (some (t152 ++ t153)) else (none)))) else (some (strOfNums (([(wrap64 (48 + a0)) % 256] : List Int))))
theorem transhumanceref1_Digits.mono_l : ∀ k, (∀ y0, LeO (transhumanceref1_Digits.f k y0) (transhumanceref1_Digits.f (k + 1) y0))
  | 0 => fun _ r h => by simp [transhumanceref1_Digits.f] at h
  | k + 1 => by
    have ih0 := transhumanceref1_Digits.mono_l k
    · intro y0
      unfold transhumanceref1_Digits.f
      repeat' first
      | (with_reducible exact ih0 _)
      | (with_reducible exact LeO.refl _)
      | (with_reducible exact LeO.none _)
      | (with_reducible refine LeO.ite ?_ ?_)
      | (with_reducible refine LeO.bind ?_ (fun _ => ?_))
      | exact ih0 _
      | exact LeO.none _
      | refine LeO.ite ?_ ?_
      | refine LeO.bind ?_ (fun _ => ?_)
theorem transhumanceref1_Digits.mono : ∀ a0 k, LeO (transhumanceref1_Digits.f k a0) (transhumanceref1_Digits.f (k + 1) a0) := by
  intro a0 k
  have ih0 := transhumanceref1_Digits.mono_l k
  exact ih0 a0
set_option maxHeartbeats 8000000 in
set_option maxRecDepth 100000 in
theorem transhumanceref1_Digits.calls (k : Nat) : ∀ (a0 : Int) (r : ByteArray) (w : World) (h : transhumanceref1_Digits.f k a0 = some r),
    Calls Tryd.prog 22 #[.int .i64 a0] w fun e w' => e = .returned (.string r) ∧ Below w.heap.size w w' := by
  induction k using Nat.strongRecOn with
  | _ k ih =>
  intro a0 r w h
  cases k with
  | zero => exact absurd h (by simp [transhumanceref1_Digits.f])
  | succ k =>
  simp only [transhumanceref1_Digits.f] at h
  have HB := Aside0.mk (Below.refl w.heap.size w)
  have H : (if a0 ≥ 10 then ((transhumanceref1_Digits.f k (wrap64 (Int.tdiv a0 10))).bind fun t152 => ((transhumanceref1_Digits.f k (Int.tmod a0 10)).bind fun t153 => (if t152.size + t153.size ≤ 9223372036854775807 then (some (t152 ++ t153)) else (none)))) else (some (strOfNums (([(wrap64 (48 + a0)) % 256] : List Int))))) = some r := h
  clear h
  by_cases c2 : a0 ≥ 10
  · rw [if_pos c2] at H
    have c2b0 : decide (10 ≤ a0) = true := decide_eq_true c2
    clear c2
    replace H := Option.bind_eq_some_iff.mp H
    obtain ⟨t152, A30, H⟩ := H
    replace H : ((transhumanceref1_Digits.f k (Int.tmod a0 10)).bind fun t153 => (if t152.size + t153.size ≤ 9223372036854775807 then (some (t152 ++ t153)) else (none))) = some r := H
    have A3 := Aside0.mk A30
    clear A30
    replace H := Option.bind_eq_some_iff.mp H
    obtain ⟨t153, A40, H⟩ := H
    replace H : (if t152.size + t153.size ≤ 9223372036854775807 then (some (t152 ++ t153)) else (none)) = some r := H
    have A4 := Aside0.mk A40
    clear A40
    by_cases c5 : t152.size + t153.size ≤ 9223372036854775807
    · rw [if_pos c5] at H
      have c5b0 := eq_true c5
      have c5b1 : decide (t152.size + t153.size ≤ 9223372036854775807) = true := decide_eq_true c5
      try have c5b2 : (9223372036854775807 < t152.size + t153.size) = False := eq_false (Nat.not_lt.2 c5)
      obtain rfl := Option.some.inj H
      go_enter Tryd.func22, Tryd.ntmps22
      go_wp2_with (first | ((with_reducible refine gate_callee (f := 22) rfl ?_); refine goesL_ (some 7) rfl rfl Tryd.func22 (by kernel_rfl) rfl #[.int .i64 (wrap64 (Int.tdiv a0 10))] rfl (by (try simp only [List.map_toArray, List.map_cons, List.map_nil]); first | done | rfl | (simp only [List.length_drop, List.length_take]; rfl)) ?_; (with_reducible refine (ih k (by omega) (wrap64 (Int.tdiv a0 10)) t152 _ A3.out).mono ?_); rintro e w6 ⟨rfl, hb⟩; refine ⟨_, rfl, ?_⟩; have n0_ := Aside0.mk (below_step (by repeat (first | (with_reducible first | exact HB.out | apply below_alloc | apply pw_below_drewN | apply below_drew1) | exact HB.out)) hb); clear HB; have HB := n0_; clear n0_; (try clear hb); (try clear hb2); (try clear hk); (try clear hi)) | ((with_reducible refine gate_callee (f := 22) rfl ?_); refine goesL_ (some 10) rfl rfl Tryd.func22 (by kernel_rfl) rfl #[.int .i64 (Int.tmod a0 10)] rfl (by (try simp only [List.map_toArray, List.map_cons, List.map_nil]); first | done | rfl | (simp only [List.length_drop, List.length_take]; rfl)) ?_; (with_reducible refine (ih k (by omega) (Int.tmod a0 10) t153 _ A4.out).mono ?_); rintro e w7 ⟨rfl, hb⟩; refine ⟨_, rfl, ?_⟩; have n0_ := Aside0.mk (below_step (by repeat (first | (with_reducible first | exact HB.out | apply below_alloc | apply pw_below_drewN | apply below_drew1) | exact HB.out)) hb); clear HB; have HB := n0_; clear n0_; (try clear hb); (try clear hb2); (try clear hk); (try clear hi)))
      go_ret
      exact ⟨by first | rfl | (simp [errW_none, errW_some] <;> rfl) | (simp [*, errW_none, errW_some] <;> rfl), by repeat (first | (with_reducible first | exact HB.out | apply below_alloc | apply pw_below_drewN | apply below_drew1) | exact HB.out)⟩
    · rw [if_neg c5] at H
      exact absurd H (by simp)
  · rw [if_neg c2] at H
    have c2b0 : decide (10 ≤ a0) = false := decide_eq_false c2
    clear c2
    obtain ⟨y154, hy154⟩ : ∃ y_ : List Int, y_ = (([(wrap64 (48 + a0)) % 256] : List Int)) := ⟨_, rfl⟩
    replace H : (some (strOfNums y154)) = some r := by first | (rw [hy154]; with_reducible exact H) | (have H2_ := (Option.bind_some _ _).symm.trans H; rw [hy154]; with_reducible exact H2_) | (have H2_ := (Option.bind_some _ _).symm.trans H; with_reducible exact H2_) | with_reducible exact H | (rw [hy154]; exact H) | exact H
    have Ny154 := Aside0.mk hy154
    clear hy154
    obtain rfl := Option.some.inj H
    go_enter Tryd.func22, Tryd.ntmps22
    go_wp2_with (first | ((with_reducible refine gate_dst (N := 15) rfl ?_); refine Kd.R_lit (Kd.int .u8) _ 5 ?hg (N := 15) ?hd (xs := ([(wrap64 (48 + a0)) % 256] : List Int)) (inner := [.int .u8 ((wrap64 (48 + a0)) % 256)]) (ok := fun _ => True) (okp := fun _ => True) ?hr ?hp (fun _ hk => hk) trivial (Below.refl _ _) (Nat.le_refl _) (by simp) ?_; (case hd => rfl); (case hg => rfl); (case hr => first | (go_simp; done) | (go_simp; rfl)); (case hp => exact (Reps.one (show Kd.M (Kd.int .u8) _ _ _ ((wrap64 (48 + a0)) % 256) [.int .u8 ((wrap64 (48 + a0)) % 256)] from rfl) (Reps.none _ _))); intro v155 w8 ho9 hb hg_ hnew_; clear hg_ hnew_; (first | rw [← Ny154.out] at ho9 | (simp only [Int.reduceToNat] at ho9; rw [← Ny154.out] at ho9)); have n0_ := Aside0.mk (Kd.R_lower ho9 (below_size (by repeat (first | (with_reducible first | exact HB.out | apply below_alloc | apply pw_below_drewN | apply below_drew1) | exact HB.out)))); have n1_ := Aside0.mk (below_step (by repeat (first | (with_reducible first | exact HB.out | apply below_alloc | apply pw_below_drewN | apply below_drew1) | exact HB.out)) hb); clear HB; have HO156 := n0_; have HB := n1_; clear n0_ n1_; clear hb ho9; have hcv10 := own_string (P := Tryd.prog) Tryd.underlying23 Tryd.underlying5 Tryd.underlying9 (Kd.own_of_R HO156.out)))
    go_ret
    exact ⟨by first | rfl | (simp [errW_none, errW_some] <;> rfl) | (simp [*, errW_none, errW_some] <;> rfl), by repeat (first | (with_reducible first | exact HB.out | apply below_alloc | apply pw_below_drewN | apply below_drew1) | exact HB.out)⟩
def transhumanceref2_Text.f (k : Nat) (a0_0 : Int) (a0_1 : Int) (a0_2 : Int) (a0_3 : ByteArray) : Option (ByteArray) := (transhumanceref1_Digits.f k a0_0).bind fun t158 => (if 1 + t158.size ≤ 9223372036854775807 then (if ((⟨#[118]⟩ : ByteArray) ++ t158).size + 1 ≤ 9223372036854775807 then ((transhumanceref1_Digits.f k a0_1).bind fun t159 => (if (((⟨#[118]⟩ : ByteArray) ++ t158) ++ (⟨#[46]⟩ : ByteArray)).size + t159.size ≤ 9223372036854775807 then (if ((((⟨#[118]⟩ : ByteArray) ++ t158) ++ (⟨#[46]⟩ : ByteArray)) ++ t159).size + 1 ≤ 9223372036854775807 then ((transhumanceref1_Digits.f k a0_2).bind fun t160 => (if (((((⟨#[118]⟩ : ByteArray) ++ t158) ++ (⟨#[46]⟩ : ByteArray)) ++ t159) ++ (⟨#[46]⟩ : ByteArray)).size + t160.size ≤ 9223372036854775807 then (if a0_3.toList = ([] : List UInt8) then (some ((((((⟨#[118]⟩ : ByteArray) ++ t158) ++ (⟨#[46]⟩ : ByteArray)) ++ t159) ++ (⟨#[46]⟩ : ByteArray)) ++ t160)) else (if ((((((⟨#[118]⟩ : ByteArray) ++ t158) ++ (⟨#[46]⟩ : ByteArray)) ++ t159) ++ (⟨#[46]⟩ : ByteArray)) ++ t160).size + 1 ≤ 9223372036854775807 then (if (((((((⟨#[118]⟩ : ByteArray) ++ t158) ++ (⟨#[46]⟩ : ByteArray)) ++ t159) ++ (⟨#[46]⟩ : ByteArray)) ++ t160) ++ (⟨#[45]⟩ : ByteArray)).size + a0_3.size ≤ 9223372036854775807 then (some ((((((((⟨#[118]⟩ : ByteArray) ++ t158) ++ (⟨#[46]⟩ : ByteArray)) ++ t159) ++ (⟨#[46]⟩ : ByteArray)) ++ t160) ++ (⟨#[45]⟩ : ByteArray)) ++ a0_3)) else (none)) else (none))) else (none))) else (none)) else (none))) else (none)) else (none))
def transhumanceref2_Text.T1 : Bool × List (List Nat × List Nat) := (true, [([], []), ([0], [0]), ([1], [1]), ([2], [2]), ([3], [3]), ([], []), ([5], [5]), ([6, 2], [6]), ([4, 7], [4, 7]), ([8], [8]), ([], []), ([10], [10]), ([11, 7], [11]), ([9, 12], [9, 12]), ([13, 12, 0, 1, 2, 3, 4, 5, 6, 7, 8, 9, 10, 11, 12, 13], [13])])
def transhumanceref2_Text.B1 : List Nat := [0, 1, 3, 7, 15, 0, 32, 103, 255, 511, 0, 1024, 3303, 8191, 16383]
theorem transhumanceref2_Text.tab1 : rtab .any (opsOf Tryd.f48 1) = transhumanceref2_Text.T1 := by kernel_rfl
theorem transhumanceref2_Text.bits1 : waitsOk transhumanceref2_Text.T1.2 transhumanceref2_Text.B1 = true := by kernel_rfl
set_option maxHeartbeats 8000000 in
set_option maxRecDepth 100000 in
theorem transhumanceref2_Text.calls (k : Nat) (a0_0 : Int) (a0_1 : Int) (a0_2 : Int) (a0_3 : ByteArray) (r : ByteArray) (w : World) (h : transhumanceref2_Text.f k a0_0 a0_1 a0_2 a0_3 = some r) :
    Calls Tryd.prog 48 #[.agg #[.int .i64 a0_0, .int .i64 a0_1, .int .i64 a0_2, .string a0_3]] w fun e w' => e = .returned (.string r) ∧ Below w.heap.size w w' := by
  have hu90 := Tryd.underlying90
  have HB := Aside0.mk (Below.refl w.heap.size w)
  have H : ((transhumanceref1_Digits.f k a0_0).bind fun t158 => (if 1 + t158.size ≤ 9223372036854775807 then (if ((⟨#[118]⟩ : ByteArray) ++ t158).size + 1 ≤ 9223372036854775807 then ((transhumanceref1_Digits.f k a0_1).bind fun t159 => (if (((⟨#[118]⟩ : ByteArray) ++ t158) ++ (⟨#[46]⟩ : ByteArray)).size + t159.size ≤ 9223372036854775807 then (if ((((⟨#[118]⟩ : ByteArray) ++ t158) ++ (⟨#[46]⟩ : ByteArray)) ++ t159).size + 1 ≤ 9223372036854775807 then ((transhumanceref1_Digits.f k a0_2).bind fun t160 => (if (((((⟨#[118]⟩ : ByteArray) ++ t158) ++ (⟨#[46]⟩ : ByteArray)) ++ t159) ++ (⟨#[46]⟩ : ByteArray)).size + t160.size ≤ 9223372036854775807 then (if a0_3.toList = ([] : List UInt8) then (some ((((((⟨#[118]⟩ : ByteArray) ++ t158) ++ (⟨#[46]⟩ : ByteArray)) ++ t159) ++ (⟨#[46]⟩ : ByteArray)) ++ t160)) else (if ((((((⟨#[118]⟩ : ByteArray) ++ t158) ++ (⟨#[46]⟩ : ByteArray)) ++ t159) ++ (⟨#[46]⟩ : ByteArray)) ++ t160).size + 1 ≤ 9223372036854775807 then (if (((((((⟨#[118]⟩ : ByteArray) ++ t158) ++ (⟨#[46]⟩ : ByteArray)) ++ t159) ++ (⟨#[46]⟩ : ByteArray)) ++ t160) ++ (⟨#[45]⟩ : ByteArray)).size + a0_3.size ≤ 9223372036854775807 then (some ((((((((⟨#[118]⟩ : ByteArray) ++ t158) ++ (⟨#[46]⟩ : ByteArray)) ++ t159) ++ (⟨#[46]⟩ : ByteArray)) ++ t160) ++ (⟨#[45]⟩ : ByteArray)) ++ a0_3)) else (none)) else (none))) else (none))) else (none)) else (none))) else (none)) else (none))) = some r := h
  clear h
  replace H := Option.bind_eq_some_iff.mp H
  obtain ⟨t158, A20, H⟩ := H
  replace H : (if 1 + t158.size ≤ 9223372036854775807 then (if ((⟨#[118]⟩ : ByteArray) ++ t158).size + 1 ≤ 9223372036854775807 then ((transhumanceref1_Digits.f k a0_1).bind fun t159 => (if (((⟨#[118]⟩ : ByteArray) ++ t158) ++ (⟨#[46]⟩ : ByteArray)).size + t159.size ≤ 9223372036854775807 then (if ((((⟨#[118]⟩ : ByteArray) ++ t158) ++ (⟨#[46]⟩ : ByteArray)) ++ t159).size + 1 ≤ 9223372036854775807 then ((transhumanceref1_Digits.f k a0_2).bind fun t160 => (if (((((⟨#[118]⟩ : ByteArray) ++ t158) ++ (⟨#[46]⟩ : ByteArray)) ++ t159) ++ (⟨#[46]⟩ : ByteArray)).size + t160.size ≤ 9223372036854775807 then (if a0_3.toList = ([] : List UInt8) then (some ((((((⟨#[118]⟩ : ByteArray) ++ t158) ++ (⟨#[46]⟩ : ByteArray)) ++ t159) ++ (⟨#[46]⟩ : ByteArray)) ++ t160)) else (if ((((((⟨#[118]⟩ : ByteArray) ++ t158) ++ (⟨#[46]⟩ : ByteArray)) ++ t159) ++ (⟨#[46]⟩ : ByteArray)) ++ t160).size + 1 ≤ 9223372036854775807 then (if (((((((⟨#[118]⟩ : ByteArray) ++ t158) ++ (⟨#[46]⟩ : ByteArray)) ++ t159) ++ (⟨#[46]⟩ : ByteArray)) ++ t160) ++ (⟨#[45]⟩ : ByteArray)).size + a0_3.size ≤ 9223372036854775807 then (some ((((((((⟨#[118]⟩ : ByteArray) ++ t158) ++ (⟨#[46]⟩ : ByteArray)) ++ t159) ++ (⟨#[46]⟩ : ByteArray)) ++ t160) ++ (⟨#[45]⟩ : ByteArray)) ++ a0_3)) else (none)) else (none))) else (none))) else (none)) else (none))) else (none)) else (none)) = some r := H
  have A2 := Aside0.mk A20
  clear A20
  by_cases c3 : 1 + t158.size ≤ 9223372036854775807
  · rw [if_pos c3] at H
    have c3b0 := eq_true c3
    have c3b1 : decide (1 + t158.size ≤ 9223372036854775807) = true := decide_eq_true c3
    try have c3b2 : (9223372036854775807 < 1 + t158.size) = False := eq_false (Nat.not_lt.2 c3)
    by_cases c4 : ((⟨#[118]⟩ : ByteArray) ++ t158).size + 1 ≤ 9223372036854775807
    · rw [if_pos c4] at H
      have c4b0 := eq_true c4
      have c4b1 : decide (((⟨#[118]⟩ : ByteArray) ++ t158).size + 1 ≤ 9223372036854775807) = true := decide_eq_true c4
      try have c4b4 : (9223372036854775807 < 1 + t158.size + 1) = False := eq_false (by have h_ := c4; (try simp only [ByteArray.size_append] at h_); first | omega | (simp [go_sem] at h_; omega))
      try have c4b2 : (9223372036854775807 < ((⟨#[118]⟩ : ByteArray) ++ t158).size + 1) = False := eq_false (Nat.not_lt.2 c4)
      replace H := Option.bind_eq_some_iff.mp H
      obtain ⟨t159, A50, H⟩ := H
      replace H : (if (((⟨#[118]⟩ : ByteArray) ++ t158) ++ (⟨#[46]⟩ : ByteArray)).size + t159.size ≤ 9223372036854775807 then (if ((((⟨#[118]⟩ : ByteArray) ++ t158) ++ (⟨#[46]⟩ : ByteArray)) ++ t159).size + 1 ≤ 9223372036854775807 then ((transhumanceref1_Digits.f k a0_2).bind fun t160 => (if (((((⟨#[118]⟩ : ByteArray) ++ t158) ++ (⟨#[46]⟩ : ByteArray)) ++ t159) ++ (⟨#[46]⟩ : ByteArray)).size + t160.size ≤ 9223372036854775807 then (if a0_3.toList = ([] : List UInt8) then (some ((((((⟨#[118]⟩ : ByteArray) ++ t158) ++ (⟨#[46]⟩ : ByteArray)) ++ t159) ++ (⟨#[46]⟩ : ByteArray)) ++ t160)) else (if ((((((⟨#[118]⟩ : ByteArray) ++ t158) ++ (⟨#[46]⟩ : ByteArray)) ++ t159) ++ (⟨#[46]⟩ : ByteArray)) ++ t160).size + 1 ≤ 9223372036854775807 then (if (((((((⟨#[118]⟩ : ByteArray) ++ t158) ++ (⟨#[46]⟩ : ByteArray)) ++ t159) ++ (⟨#[46]⟩ : ByteArray)) ++ t160) ++ (⟨#[45]⟩ : ByteArray)).size + a0_3.size ≤ 9223372036854775807 then (some ((((((((⟨#[118]⟩ : ByteArray) ++ t158) ++ (⟨#[46]⟩ : ByteArray)) ++ t159) ++ (⟨#[46]⟩ : ByteArray)) ++ t160) ++ (⟨#[45]⟩ : ByteArray)) ++ a0_3)) else (none)) else (none))) else (none))) else (none)) else (none)) = some r := H
      have A5 := Aside0.mk A50
      clear A50
      by_cases c6 : (((⟨#[118]⟩ : ByteArray) ++ t158) ++ (⟨#[46]⟩ : ByteArray)).size + t159.size ≤ 9223372036854775807
      · rw [if_pos c6] at H
        have c6b0 := eq_true c6
        have c6b1 : decide ((((⟨#[118]⟩ : ByteArray) ++ t158) ++ (⟨#[46]⟩ : ByteArray)).size + t159.size ≤ 9223372036854775807) = true := decide_eq_true c6
        try have c6b4 : (9223372036854775807 < 1 + t158.size + 1 + t159.size) = False := eq_false (by have h_ := c6; (try simp only [ByteArray.size_append] at h_); first | omega | (simp [go_sem] at h_; omega))
        try have c6b2 : (9223372036854775807 < (((⟨#[118]⟩ : ByteArray) ++ t158) ++ (⟨#[46]⟩ : ByteArray)).size + t159.size) = False := eq_false (Nat.not_lt.2 c6)
        by_cases c7 : ((((⟨#[118]⟩ : ByteArray) ++ t158) ++ (⟨#[46]⟩ : ByteArray)) ++ t159).size + 1 ≤ 9223372036854775807
        · rw [if_pos c7] at H
          have c7b0 := eq_true c7
          have c7b1 : decide (((((⟨#[118]⟩ : ByteArray) ++ t158) ++ (⟨#[46]⟩ : ByteArray)) ++ t159).size + 1 ≤ 9223372036854775807) = true := decide_eq_true c7
          try have c7b4 : (9223372036854775807 < 1 + t158.size + 1 + t159.size + 1) = False := eq_false (by have h_ := c7; (try simp only [ByteArray.size_append] at h_); first | omega | (simp [go_sem] at h_; omega))
          try have c7b2 : (9223372036854775807 < ((((⟨#[118]⟩ : ByteArray) ++ t158) ++ (⟨#[46]⟩ : ByteArray)) ++ t159).size + 1) = False := eq_false (Nat.not_lt.2 c7)
          replace H := Option.bind_eq_some_iff.mp H
          obtain ⟨t160, A80, H⟩ := H
          replace H : (if (((((⟨#[118]⟩ : ByteArray) ++ t158) ++ (⟨#[46]⟩ : ByteArray)) ++ t159) ++ (⟨#[46]⟩ : ByteArray)).size + t160.size ≤ 9223372036854775807 then (if a0_3.toList = ([] : List UInt8) then (some ((((((⟨#[118]⟩ : ByteArray) ++ t158) ++ (⟨#[46]⟩ : ByteArray)) ++ t159) ++ (⟨#[46]⟩ : ByteArray)) ++ t160)) else (if ((((((⟨#[118]⟩ : ByteArray) ++ t158) ++ (⟨#[46]⟩ : ByteArray)) ++ t159) ++ (⟨#[46]⟩ : ByteArray)) ++ t160).size + 1 ≤ 9223372036854775807 then (if (((((((⟨#[118]⟩ : ByteArray) ++ t158) ++ (⟨#[46]⟩ : ByteArray)) ++ t159) ++ (⟨#[46]⟩ : ByteArray)) ++ t160) ++ (⟨#[45]⟩ : ByteArray)).size + a0_3.size ≤ 9223372036854775807 then (some ((((((((⟨#[118]⟩ : ByteArray) ++ t158) ++ (⟨#[46]⟩ : ByteArray)) ++ t159) ++ (⟨#[46]⟩ : ByteArray)) ++ t160) ++ (⟨#[45]⟩ : ByteArray)) ++ a0_3)) else (none)) else (none))) else (none)) = some r := H
          have A8 := Aside0.mk A80
          clear A80
          by_cases c9 : (((((⟨#[118]⟩ : ByteArray) ++ t158) ++ (⟨#[46]⟩ : ByteArray)) ++ t159) ++ (⟨#[46]⟩ : ByteArray)).size + t160.size ≤ 9223372036854775807
          · rw [if_pos c9] at H
            have c9b0 := eq_true c9
            have c9b1 : decide ((((((⟨#[118]⟩ : ByteArray) ++ t158) ++ (⟨#[46]⟩ : ByteArray)) ++ t159) ++ (⟨#[46]⟩ : ByteArray)).size + t160.size ≤ 9223372036854775807) = true := decide_eq_true c9
            try have c9b4 : (9223372036854775807 < 1 + t158.size + 1 + t159.size + 1 + t160.size) = False := eq_false (by have h_ := c9; (try simp only [ByteArray.size_append] at h_); first | omega | (simp [go_sem] at h_; omega))
            try have c9b2 : (9223372036854775807 < (((((⟨#[118]⟩ : ByteArray) ++ t158) ++ (⟨#[46]⟩ : ByteArray)) ++ t159) ++ (⟨#[46]⟩ : ByteArray)).size + t160.size) = False := eq_false (Nat.not_lt.2 c9)
            by_cases c10 : a0_3.toList = ([] : List UInt8)
            · rw [if_pos c10] at H
              have c10b0 : (a0_3.toList == ([] : List UInt8)) = true := beq_iff_eq.mpr c10
              have c10b1 : (a0_3.toList != ([] : List UInt8)) = false := bne_eq_false_iff_eq.mpr c10
              clear c10
              obtain rfl := Option.some.inj H
              go_enter Tryd.func48, Tryd.ntmps48
              try go_wp2_with (first | ((with_reducible refine gate_dst (N := 1) rfl ?_); refine box_event ?hg (N := 1) ?hd (cs := #[.int .i64 a0_0, .int .i64 a0_1, .int .i64 a0_2, .string a0_3]) (t := 90) ?hr ?_; (case hd => rfl); (case hg => rfl); (case hr => first | (go_simp; done) | (go_simp; rfl)); intro gb157 hg w11 hbox hb; have n0_ := Aside0.mk (below_step (by repeat (first | (with_reducible first | exact HB.out | apply below_alloc | apply pw_below_drewN | apply below_drew1) | exact HB.out)) hb); have n1_ := Aside0.mk (hbox); have n2_ := Aside0.mk ((by rw [hg]; exact (below_size (by repeat (first | (with_reducible first | exact HB.out | apply below_alloc | apply pw_below_drewN | apply below_drew1) | exact HB.out))) : w.heap.size ≤ gb157)); have n3_ := Aside0.mk ((by rw [hg]; exact (below_size (by repeat (first | (with_reducible first | exact HB.out | apply below_alloc | apply pw_below_drewN | apply below_drew1) | exact HB.out))) : w.heap.size ≤ gb157)); clear HB; have HB := n0_; have BK157 := n1_; have GW157 := n2_; have GE157 := n3_; clear n0_ n1_ n2_ n3_; clear hb hbox hg))
              have n0_ := Aside0.mk (blk_drew BK157.out)
              have n1_ := Aside0.mk (below_drew1 HB.out)
              clear BK157
              clear HB
              have BK157 := n0_
              have HB := n1_
              clear n0_ n1_
              refine start_ (n := 15) (S := fun w' => w'.cell? ⟨gb157, 0, none⟩ = some (.int .i64 a0_0) ∧ w'.cell? ⟨gb157, 1, none⟩ = some (.int .i64 a0_1) ∧ w'.cell? ⟨gb157, 2, none⟩ = some (.int .i64 a0_2) ∧ w'.cell? ⟨gb157, 3, none⟩ = some (.string a0_3)) (ds := []) #[false, false, false, false, false, false, false, false, false, false, false, false, false, false, false] (by kernel_rfl) rfl rfl ⟨(blk_cell BK157.out 0).trans rfl, (blk_cell BK157.out 1).trans rfl, (blk_cell BK157.out 2).trans rfl, (blk_cell BK157.out 3).trans rfl⟩ (fun hHeld => ?_); refine with_tabW transhumanceref2_Text.tab1 transhumanceref2_Text.bits1 (fun HT_ HW_ => ?_)
              generalize w11.drew = w12 at BK157 HB hHeld ⊢
              refine pure_ (i := 0) (N := some 4) (v := ?_) (a' := ?_) #[true, false, false, false, false, false, false, false, false, false, false, false, false, false, false] rfl rfl (any_of HT_.out (by kernel_rfl)) (fun _ _ _ h => h) (Or.inl ⟨by rfl, ?_⟩) ?_ ?_
              rotate_left
              · intro w'
                go_simp
                with_reducible rfl
              rotate_left
              · simp only [Act.put, List.setIfInBounds_toArray, List.set_cons_zero, List.set_cons_succ, i64_w, i32_w]
                rfl
              refine pure_ (i := 5) (N := some 9) (v := ?_) (a' := ?_) #[true, false, false, false, false, true, false, false, false, false, false, false, false, false, false] rfl rfl (any_of HT_.out (by kernel_rfl)) (fun _ _ _ h => h) (Or.inl ⟨by rfl, ?_⟩) ?_ ?_
              rotate_left
              · intro w'
                go_simp
                with_reducible rfl
              rotate_left
              · simp only [Act.put, List.setIfInBounds_toArray, List.set_cons_zero, List.set_cons_succ, i64_w, i32_w]
                rfl
              refine pure_ (i := 10) (N := some 14) (v := ?_) (a' := ?_) #[true, false, false, false, false, true, false, false, false, false, true, false, false, false, false] rfl rfl (any_of HT_.out (by kernel_rfl)) (fun _ _ _ h => h) (Or.inl ⟨by rfl, ?_⟩) ?_ ?_
              rotate_left
              · intro w'
                go_simp
                with_reducible rfl
              rotate_left
              · simp only [Act.put, List.setIfInBounds_toArray, List.set_cons_zero, List.set_cons_succ, i64_w, i32_w]
                rfl
              refine take_ (i := 1) (N := some 5) (v := ?_) (a' := ?_) #[true, true, false, false, false, true, false, false, false, false, true, false, false, false, false] rfl rfl (take_ofW HT_.out HW_.out (by kernel_rfl)) (fun _ _ _ h => h) (Or.inl ⟨by rfl, ?_⟩) hHeld ?_ ?_
              rotate_left
              · rintro w' ⟨s0, s1, s2, s3⟩
                go_simp
                with_reducible rfl
              rotate_left
              · simp only [Act.put, List.setIfInBounds_toArray, List.set_cons_zero, List.set_cons_succ, i64_w, i32_w]
                rfl
              refine take_ (i := 6) (N := some 10) (v := ?_) (a' := ?_) #[true, true, false, false, false, true, true, false, false, false, true, false, false, false, false] rfl rfl (take_ofW HT_.out HW_.out (by kernel_rfl)) (fun _ _ _ h => h) (Or.inl ⟨by rfl, ?_⟩) hHeld ?_ ?_
              rotate_left
              · rintro w' ⟨s0, s1, s2, s3⟩
                go_simp
                with_reducible rfl
              rotate_left
              · simp only [Act.put, List.setIfInBounds_toArray, List.set_cons_zero, List.set_cons_succ, i64_w, i32_w]
                rfl
              refine take_ (i := 11) (N := some 15) (v := ?_) (a' := ?_) #[true, true, false, false, false, true, true, false, false, false, true, true, false, false, false] rfl rfl (take_ofW HT_.out HW_.out (by kernel_rfl)) (fun _ _ _ h => h) (Or.inl ⟨by rfl, ?_⟩) hHeld ?_ ?_
              rotate_left
              · rintro w' ⟨s0, s1, s2, s3⟩
                go_simp
                with_reducible rfl
              rotate_left
              · simp only [Act.put, List.setIfInBounds_toArray, List.set_cons_zero, List.set_cons_succ, i64_w, i32_w]
                rfl
              refine one_ (i := 2) (N := some 6) #[true, true, true, false, false, true, true, false, false, false, true, true, false, false, false] rfl rfl (one_of HT_.out (by kernel_rfl)) (by decide) (fun K hK => ?_)
              refine goes_ Tryd.func22 (by kernel_rfl) rfl #[.int .i64 a0_0] (by rfl) rfl rfl (by (try simp only [List.map_toArray, List.map_cons, List.map_nil]); first | done | rfl | (simp only [List.length_drop, List.length_take]; rfl)) ?_
              with_reducible refine (transhumanceref1_Digits.calls k a0_0 t158 _ A2.out).mono ?_
              rintro e w13 ⟨rfl, hb⟩
              refine ⟨_, rfl, ?_⟩
              have n0_ := Aside0.mk (blk_below (g := gb157) (o := .cells #[.int .i64 a0_0, .int .i64 a0_1, .int .i64 a0_2, .string a0_3] 90 (0, 0)) (by (with_reducible repeat (first | refine blk_drewN ?_ _ | refine blk_drew ?_ | refine blk_alloc ?_ _)); exact BK157.out) hb)
              have n1_ := Aside0.mk (below_step (by repeat (first | (with_reducible first | exact HB.out | apply below_alloc | apply pw_below_drewN | apply below_drew1 | refine below_set ?_ GE157.out) | exact HB.out)) hb)
              clear BK157
              clear HB
              have BK157 := n0_
              have HB := n1_
              clear n0_ n1_
              (try clear hb)
              (try clear hb2)
              (try clear hk)
              (try clear hi)
              refine hK.out _ _ ⟨(blk_cell BK157.out 0).trans rfl, (blk_cell BK157.out 1).trans rfl, (blk_cell BK157.out 2).trans rfl, (blk_cell BK157.out 3).trans rfl⟩ (fun hHeld => ?_)
              clear hK K
              refine norm_ (a' := ?_) ?_ ?_
              rotate_left
              · show Act.put _ (some 6) _ = _
                simp only [Act.put, List.setIfInBounds_toArray, List.set_cons_zero, List.set_cons_succ, i64_w, i32_w]
                rfl
              refine pure_ (i := 3) (N := some 7) (v := ?_) (a' := ?_) #[true, true, true, true, false, true, true, false, false, false, true, true, false, false, false] rfl rfl (any_of HT_.out (by kernel_rfl)) (fun _ _ _ h => h) (Or.inl ⟨by rfl, ?_⟩) ?_ ?_
              rotate_left
              · intro w'
                go_simp
                with_reducible rfl
              rotate_left
              · simp only [Act.put, List.setIfInBounds_toArray, List.set_cons_zero, List.set_cons_succ, i64_w, i32_w]
                rfl
              refine pure_ (i := 4) (N := some 8) (v := ?_) (a' := ?_) #[true, true, true, true, true, true, true, false, false, false, true, true, false, false, false] rfl rfl (any_of HT_.out (by kernel_rfl)) (fun _ _ _ h => h) (Or.inl ⟨by rfl, ?_⟩) ?_ ?_
              rotate_left
              · intro w'
                go_simp
                with_reducible rfl
              rotate_left
              · simp only [Act.put, List.setIfInBounds_toArray, List.set_cons_zero, List.set_cons_succ, i64_w, i32_w]
                rfl
              refine one_ (i := 7) (N := some 11) #[true, true, true, true, true, true, true, true, false, false, true, true, false, false, false] rfl rfl (one_of HT_.out (by kernel_rfl)) (by decide) (fun K hK => ?_)
              refine goes_ Tryd.func22 (by kernel_rfl) rfl #[.int .i64 a0_1] (by rfl) rfl rfl (by (try simp only [List.map_toArray, List.map_cons, List.map_nil]); first | done | rfl | (simp only [List.length_drop, List.length_take]; rfl)) ?_
              with_reducible refine (transhumanceref1_Digits.calls k a0_1 t159 _ A5.out).mono ?_
              rintro e w14 ⟨rfl, hb⟩
              refine ⟨_, rfl, ?_⟩
              have n0_ := Aside0.mk (blk_below (g := gb157) (o := .cells #[.int .i64 a0_0, .int .i64 a0_1, .int .i64 a0_2, .string a0_3] 90 (0, 0)) (by (with_reducible repeat (first | refine blk_drewN ?_ _ | refine blk_drew ?_ | refine blk_alloc ?_ _)); exact BK157.out) hb)
              have n1_ := Aside0.mk (below_step (by repeat (first | (with_reducible first | exact HB.out | apply below_alloc | apply pw_below_drewN | apply below_drew1 | refine below_set ?_ GE157.out) | exact HB.out)) hb)
              clear BK157
              clear HB
              have BK157 := n0_
              have HB := n1_
              clear n0_ n1_
              (try clear hb)
              (try clear hb2)
              (try clear hk)
              (try clear hi)
              refine hK.out _ _ ⟨(blk_cell BK157.out 0).trans rfl, (blk_cell BK157.out 1).trans rfl, (blk_cell BK157.out 2).trans rfl, (blk_cell BK157.out 3).trans rfl⟩ (fun hHeld => ?_)
              clear hK K
              refine norm_ (a' := ?_) ?_ ?_
              rotate_left
              · show Act.put _ (some 11) _ = _
                simp only [Act.put, List.setIfInBounds_toArray, List.set_cons_zero, List.set_cons_succ, i64_w, i32_w]
                rfl
              refine pure_ (i := 8) (N := some 12) (v := ?_) (a' := ?_) #[true, true, true, true, true, true, true, true, true, false, true, true, false, false, false] rfl rfl (any_of HT_.out (by kernel_rfl)) (fun _ _ _ h => h) (Or.inl ⟨by rfl, ?_⟩) ?_ ?_
              rotate_left
              · intro w'
                go_simp
                with_reducible rfl
              rotate_left
              · simp only [Act.put, List.setIfInBounds_toArray, List.set_cons_zero, List.set_cons_succ, i64_w, i32_w]
                rfl
              refine pure_ (i := 9) (N := some 13) (v := ?_) (a' := ?_) #[true, true, true, true, true, true, true, true, true, true, true, true, false, false, false] rfl rfl (any_of HT_.out (by kernel_rfl)) (fun _ _ _ h => h) (Or.inl ⟨by rfl, ?_⟩) ?_ ?_
              rotate_left
              · intro w'
                go_simp
                with_reducible rfl
              rotate_left
              · simp only [Act.put, List.setIfInBounds_toArray, List.set_cons_zero, List.set_cons_succ, i64_w, i32_w]
                rfl
              refine one_ (i := 12) (N := some 16) #[true, true, true, true, true, true, true, true, true, true, true, true, true, false, false] rfl rfl (one_of HT_.out (by kernel_rfl)) (by decide) (fun K hK => ?_)
              refine goes_ Tryd.func22 (by kernel_rfl) rfl #[.int .i64 a0_2] (by rfl) rfl rfl (by (try simp only [List.map_toArray, List.map_cons, List.map_nil]); first | done | rfl | (simp only [List.length_drop, List.length_take]; rfl)) ?_
              with_reducible refine (transhumanceref1_Digits.calls k a0_2 t160 _ A8.out).mono ?_
              rintro e w15 ⟨rfl, hb⟩
              refine ⟨_, rfl, ?_⟩
              have n0_ := Aside0.mk (blk_below (g := gb157) (o := .cells #[.int .i64 a0_0, .int .i64 a0_1, .int .i64 a0_2, .string a0_3] 90 (0, 0)) (by (with_reducible repeat (first | refine blk_drewN ?_ _ | refine blk_drew ?_ | refine blk_alloc ?_ _)); exact BK157.out) hb)
              have n1_ := Aside0.mk (below_step (by repeat (first | (with_reducible first | exact HB.out | apply below_alloc | apply pw_below_drewN | apply below_drew1 | refine below_set ?_ GE157.out) | exact HB.out)) hb)
              clear BK157
              clear HB
              have BK157 := n0_
              have HB := n1_
              clear n0_ n1_
              (try clear hb)
              (try clear hb2)
              (try clear hk)
              (try clear hi)
              refine hK.out _ _ ⟨(blk_cell BK157.out 0).trans rfl, (blk_cell BK157.out 1).trans rfl, (blk_cell BK157.out 2).trans rfl, (blk_cell BK157.out 3).trans rfl⟩ (fun hHeld => ?_)
              clear hK K
              refine norm_ (a' := ?_) ?_ ?_
              rotate_left
              · show Act.put _ (some 16) _ = _
                simp only [Act.put, List.setIfInBounds_toArray, List.set_cons_zero, List.set_cons_succ, i64_w, i32_w]
                rfl
              refine pure_ (i := 13) (N := some 17) (v := ?_) (a' := ?_) #[true, true, true, true, true, true, true, true, true, true, true, true, true, true, false] rfl rfl (any_of HT_.out (by kernel_rfl)) (fun _ _ _ h => h) (Or.inl ⟨by rfl, ?_⟩) ?_ ?_
              rotate_left
              · intro w'
                go_simp
                with_reducible rfl
              rotate_left
              · simp only [Act.put, List.setIfInBounds_toArray, List.set_cons_zero, List.set_cons_succ, i64_w, i32_w]
                rfl
              refine pure_ (i := 14) (N := some 3) (v := ?_) (a' := ?_) #[true, true, true, true, true, true, true, true, true, true, true, true, true, true, true] rfl rfl (any_of HT_.out (by kernel_rfl)) (fun _ _ _ h => h) (Or.inl ⟨by rfl, ?_⟩) ?_ ?_
              rotate_left
              · intro w'
                go_simp
                with_reducible rfl
              rotate_left
              · simp only [Act.put, List.setIfInBounds_toArray, List.set_cons_zero, List.set_cons_succ, i64_w, i32_w]
                rfl
              refine done_ (done_of HT_.out (by kernel_rfl)) ?_
              have hcz16_0 : w15.cell? ⟨gb157, 0, none⟩ = some (.int .i64 a0_0) := (blk_cell BK157.out 0).trans rfl
              have hcz16_1 : w15.cell? ⟨gb157, 1, none⟩ = some (.int .i64 a0_1) := (blk_cell BK157.out 1).trans rfl
              have hcz16_2 : w15.cell? ⟨gb157, 2, none⟩ = some (.int .i64 a0_2) := (blk_cell BK157.out 2).trans rfl
              have hcz16_3 : w15.cell? ⟨gb157, 3, none⟩ = some (.string a0_3) := (blk_cell BK157.out 3).trans rfl
              have hfz16_0 := blk_frozen BK157.out 0
              have hfz16_1 := blk_frozen BK157.out 1
              have hfz16_2 := blk_frozen BK157.out 2
              have hfz16_3 := blk_frozen BK157.out 3
              try go_wp2
              go_ret
              exact ⟨by first | rfl | (simp [errW_none, errW_some] <;> rfl) | (simp [*, errW_none, errW_some] <;> rfl), by repeat (first | (with_reducible first | exact HB.out | apply below_alloc | apply pw_below_drewN | apply below_drew1 | refine below_set ?_ GE157.out) | exact HB.out)⟩
            · rw [if_neg c10] at H
              have c10b0 : (a0_3.toList == ([] : List UInt8)) = false := beq_eq_false_iff_ne.mpr c10
              have c10b1 : (a0_3.toList != ([] : List UInt8)) = true := bne_iff_ne.mpr c10
              by_cases c17 : ((((((⟨#[118]⟩ : ByteArray) ++ t158) ++ (⟨#[46]⟩ : ByteArray)) ++ t159) ++ (⟨#[46]⟩ : ByteArray)) ++ t160).size + 1 ≤ 9223372036854775807
              · rw [if_pos c17] at H
                have c17b0 := eq_true c17
                have c17b1 : decide (((((((⟨#[118]⟩ : ByteArray) ++ t158) ++ (⟨#[46]⟩ : ByteArray)) ++ t159) ++ (⟨#[46]⟩ : ByteArray)) ++ t160).size + 1 ≤ 9223372036854775807) = true := decide_eq_true c17
                try have c17b4 : (9223372036854775807 < 1 + t158.size + 1 + t159.size + 1 + t160.size + 1) = False := eq_false (by have h_ := c17; (try simp only [ByteArray.size_append] at h_); first | omega | (simp [go_sem] at h_; omega))
                try have c17b2 : (9223372036854775807 < ((((((⟨#[118]⟩ : ByteArray) ++ t158) ++ (⟨#[46]⟩ : ByteArray)) ++ t159) ++ (⟨#[46]⟩ : ByteArray)) ++ t160).size + 1) = False := eq_false (Nat.not_lt.2 c17)
                by_cases c18 : (((((((⟨#[118]⟩ : ByteArray) ++ t158) ++ (⟨#[46]⟩ : ByteArray)) ++ t159) ++ (⟨#[46]⟩ : ByteArray)) ++ t160) ++ (⟨#[45]⟩ : ByteArray)).size + a0_3.size ≤ 9223372036854775807
                · rw [if_pos c18] at H
                  have c18b0 := eq_true c18
                  have c18b1 : decide ((((((((⟨#[118]⟩ : ByteArray) ++ t158) ++ (⟨#[46]⟩ : ByteArray)) ++ t159) ++ (⟨#[46]⟩ : ByteArray)) ++ t160) ++ (⟨#[45]⟩ : ByteArray)).size + a0_3.size ≤ 9223372036854775807) = true := decide_eq_true c18
                  try have c18b4 : (9223372036854775807 < 1 + t158.size + 1 + t159.size + 1 + t160.size + 1 + a0_3.size) = False := eq_false (by have h_ := c18; (try simp only [ByteArray.size_append] at h_); first | omega | (simp [go_sem] at h_; omega))
                  try have c18b2 : (9223372036854775807 < (((((((⟨#[118]⟩ : ByteArray) ++ t158) ++ (⟨#[46]⟩ : ByteArray)) ++ t159) ++ (⟨#[46]⟩ : ByteArray)) ++ t160) ++ (⟨#[45]⟩ : ByteArray)).size + a0_3.size) = False := eq_false (Nat.not_lt.2 c18)
                  obtain rfl := Option.some.inj H
                  go_enter Tryd.func48, Tryd.ntmps48
                  try go_wp2_with (first | ((with_reducible refine gate_dst (N := 1) rfl ?_); refine box_event ?hg (N := 1) ?hd (cs := #[.int .i64 a0_0, .int .i64 a0_1, .int .i64 a0_2, .string a0_3]) (t := 90) ?hr ?_; (case hd => rfl); (case hg => rfl); (case hr => first | (go_simp; done) | (go_simp; rfl)); intro gb157 hg w19 hbox hb; have n0_ := Aside0.mk (below_step (by repeat (first | (with_reducible first | exact HB.out | apply below_alloc | apply pw_below_drewN | apply below_drew1) | exact HB.out)) hb); have n1_ := Aside0.mk (hbox); have n2_ := Aside0.mk ((by rw [hg]; exact (below_size (by repeat (first | (with_reducible first | exact HB.out | apply below_alloc | apply pw_below_drewN | apply below_drew1) | exact HB.out))) : w.heap.size ≤ gb157)); have n3_ := Aside0.mk ((by rw [hg]; exact (below_size (by repeat (first | (with_reducible first | exact HB.out | apply below_alloc | apply pw_below_drewN | apply below_drew1) | exact HB.out))) : w.heap.size ≤ gb157)); clear HB; have HB := n0_; have BK157 := n1_; have GW157 := n2_; have GE157 := n3_; clear n0_ n1_ n2_ n3_; clear hb hbox hg))
                  have n0_ := Aside0.mk (blk_drew BK157.out)
                  have n1_ := Aside0.mk (below_drew1 HB.out)
                  clear BK157
                  clear HB
                  have BK157 := n0_
                  have HB := n1_
                  clear n0_ n1_
                  refine start_ (n := 15) (S := fun w' => w'.cell? ⟨gb157, 0, none⟩ = some (.int .i64 a0_0) ∧ w'.cell? ⟨gb157, 1, none⟩ = some (.int .i64 a0_1) ∧ w'.cell? ⟨gb157, 2, none⟩ = some (.int .i64 a0_2) ∧ w'.cell? ⟨gb157, 3, none⟩ = some (.string a0_3)) (ds := []) #[false, false, false, false, false, false, false, false, false, false, false, false, false, false, false] (by kernel_rfl) rfl rfl ⟨(blk_cell BK157.out 0).trans rfl, (blk_cell BK157.out 1).trans rfl, (blk_cell BK157.out 2).trans rfl, (blk_cell BK157.out 3).trans rfl⟩ (fun hHeld => ?_); refine with_tabW transhumanceref2_Text.tab1 transhumanceref2_Text.bits1 (fun HT_ HW_ => ?_)
                  generalize w19.drew = w20 at BK157 HB hHeld ⊢
                  refine pure_ (i := 0) (N := some 4) (v := ?_) (a' := ?_) #[true, false, false, false, false, false, false, false, false, false, false, false, false, false, false] rfl rfl (any_of HT_.out (by kernel_rfl)) (fun _ _ _ h => h) (Or.inl ⟨by rfl, ?_⟩) ?_ ?_
                  rotate_left
                  · intro w'
                    go_simp
                    with_reducible rfl
                  rotate_left
                  · simp only [Act.put, List.setIfInBounds_toArray, List.set_cons_zero, List.set_cons_succ, i64_w, i32_w]
                    rfl
                  refine pure_ (i := 5) (N := some 9) (v := ?_) (a' := ?_) #[true, false, false, false, false, true, false, false, false, false, false, false, false, false, false] rfl rfl (any_of HT_.out (by kernel_rfl)) (fun _ _ _ h => h) (Or.inl ⟨by rfl, ?_⟩) ?_ ?_
                  rotate_left
                  · intro w'
                    go_simp
                    with_reducible rfl
                  rotate_left
                  · simp only [Act.put, List.setIfInBounds_toArray, List.set_cons_zero, List.set_cons_succ, i64_w, i32_w]
                    rfl
                  refine pure_ (i := 10) (N := some 14) (v := ?_) (a' := ?_) #[true, false, false, false, false, true, false, false, false, false, true, false, false, false, false] rfl rfl (any_of HT_.out (by kernel_rfl)) (fun _ _ _ h => h) (Or.inl ⟨by rfl, ?_⟩) ?_ ?_
                  rotate_left
                  · intro w'
                    go_simp
                    with_reducible rfl
                  rotate_left
                  · simp only [Act.put, List.setIfInBounds_toArray, List.set_cons_zero, List.set_cons_succ, i64_w, i32_w]
                    rfl
                  refine take_ (i := 1) (N := some 5) (v := ?_) (a' := ?_) #[true, true, false, false, false, true, false, false, false, false, true, false, false, false, false] rfl rfl (take_ofW HT_.out HW_.out (by kernel_rfl)) (fun _ _ _ h => h) (Or.inl ⟨by rfl, ?_⟩) hHeld ?_ ?_
                  rotate_left
                  · rintro w' ⟨s0, s1, s2, s3⟩
                    go_simp
                    with_reducible rfl
                  rotate_left
                  · simp only [Act.put, List.setIfInBounds_toArray, List.set_cons_zero, List.set_cons_succ, i64_w, i32_w]
                    rfl
                  refine take_ (i := 6) (N := some 10) (v := ?_) (a' := ?_) #[true, true, false, false, false, true, true, false, false, false, true, false, false, false, false] rfl rfl (take_ofW HT_.out HW_.out (by kernel_rfl)) (fun _ _ _ h => h) (Or.inl ⟨by rfl, ?_⟩) hHeld ?_ ?_
                  rotate_left
                  · rintro w' ⟨s0, s1, s2, s3⟩
                    go_simp
                    with_reducible rfl
                  rotate_left
                  · simp only [Act.put, List.setIfInBounds_toArray, List.set_cons_zero, List.set_cons_succ, i64_w, i32_w]
                    rfl
                  refine take_ (i := 11) (N := some 15) (v := ?_) (a' := ?_) #[true, true, false, false, false, true, true, false, false, false, true, true, false, false, false] rfl rfl (take_ofW HT_.out HW_.out (by kernel_rfl)) (fun _ _ _ h => h) (Or.inl ⟨by rfl, ?_⟩) hHeld ?_ ?_
                  rotate_left
                  · rintro w' ⟨s0, s1, s2, s3⟩
                    go_simp
                    with_reducible rfl
                  rotate_left
                  · simp only [Act.put, List.setIfInBounds_toArray, List.set_cons_zero, List.set_cons_succ, i64_w, i32_w]
                    rfl
                  refine one_ (i := 2) (N := some 6) #[true, true, true, false, false, true, true, false, false, false, true, true, false, false, false] rfl rfl (one_of HT_.out (by kernel_rfl)) (by decide) (fun K hK => ?_)
                  refine goes_ Tryd.func22 (by kernel_rfl) rfl #[.int .i64 a0_0] (by rfl) rfl rfl (by (try simp only [List.map_toArray, List.map_cons, List.map_nil]); first | done | rfl | (simp only [List.length_drop, List.length_take]; rfl)) ?_
                  with_reducible refine (transhumanceref1_Digits.calls k a0_0 t158 _ A2.out).mono ?_
                  rintro e w21 ⟨rfl, hb⟩
                  refine ⟨_, rfl, ?_⟩
                  have n0_ := Aside0.mk (blk_below (g := gb157) (o := .cells #[.int .i64 a0_0, .int .i64 a0_1, .int .i64 a0_2, .string a0_3] 90 (0, 0)) (by (with_reducible repeat (first | refine blk_drewN ?_ _ | refine blk_drew ?_ | refine blk_alloc ?_ _)); exact BK157.out) hb)
                  have n1_ := Aside0.mk (below_step (by repeat (first | (with_reducible first | exact HB.out | apply below_alloc | apply pw_below_drewN | apply below_drew1 | refine below_set ?_ GE157.out) | exact HB.out)) hb)
                  clear BK157
                  clear HB
                  have BK157 := n0_
                  have HB := n1_
                  clear n0_ n1_
                  (try clear hb)
                  (try clear hb2)
                  (try clear hk)
                  (try clear hi)
                  refine hK.out _ _ ⟨(blk_cell BK157.out 0).trans rfl, (blk_cell BK157.out 1).trans rfl, (blk_cell BK157.out 2).trans rfl, (blk_cell BK157.out 3).trans rfl⟩ (fun hHeld => ?_)
                  clear hK K
                  refine norm_ (a' := ?_) ?_ ?_
                  rotate_left
                  · show Act.put _ (some 6) _ = _
                    simp only [Act.put, List.setIfInBounds_toArray, List.set_cons_zero, List.set_cons_succ, i64_w, i32_w]
                    rfl
                  refine pure_ (i := 3) (N := some 7) (v := ?_) (a' := ?_) #[true, true, true, true, false, true, true, false, false, false, true, true, false, false, false] rfl rfl (any_of HT_.out (by kernel_rfl)) (fun _ _ _ h => h) (Or.inl ⟨by rfl, ?_⟩) ?_ ?_
                  rotate_left
                  · intro w'
                    go_simp
                    with_reducible rfl
                  rotate_left
                  · simp only [Act.put, List.setIfInBounds_toArray, List.set_cons_zero, List.set_cons_succ, i64_w, i32_w]
                    rfl
                  refine pure_ (i := 4) (N := some 8) (v := ?_) (a' := ?_) #[true, true, true, true, true, true, true, false, false, false, true, true, false, false, false] rfl rfl (any_of HT_.out (by kernel_rfl)) (fun _ _ _ h => h) (Or.inl ⟨by rfl, ?_⟩) ?_ ?_
                  rotate_left
                  · intro w'
                    go_simp
                    with_reducible rfl
                  rotate_left
                  · simp only [Act.put, List.setIfInBounds_toArray, List.set_cons_zero, List.set_cons_succ, i64_w, i32_w]
                    rfl
                  refine one_ (i := 7) (N := some 11) #[true, true, true, true, true, true, true, true, false, false, true, true, false, false, false] rfl rfl (one_of HT_.out (by kernel_rfl)) (by decide) (fun K hK => ?_)
                  refine goes_ Tryd.func22 (by kernel_rfl) rfl #[.int .i64 a0_1] (by rfl) rfl rfl (by (try simp only [List.map_toArray, List.map_cons, List.map_nil]); first | done | rfl | (simp only [List.length_drop, List.length_take]; rfl)) ?_
                  with_reducible refine (transhumanceref1_Digits.calls k a0_1 t159 _ A5.out).mono ?_
                  rintro e w22 ⟨rfl, hb⟩
                  refine ⟨_, rfl, ?_⟩
                  have n0_ := Aside0.mk (blk_below (g := gb157) (o := .cells #[.int .i64 a0_0, .int .i64 a0_1, .int .i64 a0_2, .string a0_3] 90 (0, 0)) (by (with_reducible repeat (first | refine blk_drewN ?_ _ | refine blk_drew ?_ | refine blk_alloc ?_ _)); exact BK157.out) hb)
                  have n1_ := Aside0.mk (below_step (by repeat (first | (with_reducible first | exact HB.out | apply below_alloc | apply pw_below_drewN | apply below_drew1 | refine below_set ?_ GE157.out) | exact HB.out)) hb)
                  clear BK157
                  clear HB
                  have BK157 := n0_
                  have HB := n1_
                  clear n0_ n1_
                  (try clear hb)
                  (try clear hb2)
                  (try clear hk)
                  (try clear hi)
                  refine hK.out _ _ ⟨(blk_cell BK157.out 0).trans rfl, (blk_cell BK157.out 1).trans rfl, (blk_cell BK157.out 2).trans rfl, (blk_cell BK157.out 3).trans rfl⟩ (fun hHeld => ?_)
                  clear hK K
                  refine norm_ (a' := ?_) ?_ ?_
                  rotate_left
                  · show Act.put _ (some 11) _ = _
                    simp only [Act.put, List.setIfInBounds_toArray, List.set_cons_zero, List.set_cons_succ, i64_w, i32_w]
                    rfl
                  refine pure_ (i := 8) (N := some 12) (v := ?_) (a' := ?_) #[true, true, true, true, true, true, true, true, true, false, true, true, false, false, false] rfl rfl (any_of HT_.out (by kernel_rfl)) (fun _ _ _ h => h) (Or.inl ⟨by rfl, ?_⟩) ?_ ?_
                  rotate_left
                  · intro w'
                    go_simp
                    with_reducible rfl
                  rotate_left
                  · simp only [Act.put, List.setIfInBounds_toArray, List.set_cons_zero, List.set_cons_succ, i64_w, i32_w]
                    rfl
                  refine pure_ (i := 9) (N := some 13) (v := ?_) (a' := ?_) #[true, true, true, true, true, true, true, true, true, true, true, true, false, false, false] rfl rfl (any_of HT_.out (by kernel_rfl)) (fun _ _ _ h => h) (Or.inl ⟨by rfl, ?_⟩) ?_ ?_
                  rotate_left
                  · intro w'
                    go_simp
                    with_reducible rfl
                  rotate_left
                  · simp only [Act.put, List.setIfInBounds_toArray, List.set_cons_zero, List.set_cons_succ, i64_w, i32_w]
                    rfl
                  refine one_ (i := 12) (N := some 16) #[true, true, true, true, true, true, true, true, true, true, true, true, true, false, false] rfl rfl (one_of HT_.out (by kernel_rfl)) (by decide) (fun K hK => ?_)
                  refine goes_ Tryd.func22 (by kernel_rfl) rfl #[.int .i64 a0_2] (by rfl) rfl rfl (by (try simp only [List.map_toArray, List.map_cons, List.map_nil]); first | done | rfl | (simp only [List.length_drop, List.length_take]; rfl)) ?_
                  with_reducible refine (transhumanceref1_Digits.calls k a0_2 t160 _ A8.out).mono ?_
                  rintro e w23 ⟨rfl, hb⟩
                  refine ⟨_, rfl, ?_⟩
                  have n0_ := Aside0.mk (blk_below (g := gb157) (o := .cells #[.int .i64 a0_0, .int .i64 a0_1, .int .i64 a0_2, .string a0_3] 90 (0, 0)) (by (with_reducible repeat (first | refine blk_drewN ?_ _ | refine blk_drew ?_ | refine blk_alloc ?_ _)); exact BK157.out) hb)
                  have n1_ := Aside0.mk (below_step (by repeat (first | (with_reducible first | exact HB.out | apply below_alloc | apply pw_below_drewN | apply below_drew1 | refine below_set ?_ GE157.out) | exact HB.out)) hb)
                  clear BK157
                  clear HB
                  have BK157 := n0_
                  have HB := n1_
                  clear n0_ n1_
                  (try clear hb)
                  (try clear hb2)
                  (try clear hk)
                  (try clear hi)
                  refine hK.out _ _ ⟨(blk_cell BK157.out 0).trans rfl, (blk_cell BK157.out 1).trans rfl, (blk_cell BK157.out 2).trans rfl, (blk_cell BK157.out 3).trans rfl⟩ (fun hHeld => ?_)
                  clear hK K
                  refine norm_ (a' := ?_) ?_ ?_
                  rotate_left
                  · show Act.put _ (some 16) _ = _
                    simp only [Act.put, List.setIfInBounds_toArray, List.set_cons_zero, List.set_cons_succ, i64_w, i32_w]
                    rfl
                  refine pure_ (i := 13) (N := some 17) (v := ?_) (a' := ?_) #[true, true, true, true, true, true, true, true, true, true, true, true, true, true, false] rfl rfl (any_of HT_.out (by kernel_rfl)) (fun _ _ _ h => h) (Or.inl ⟨by rfl, ?_⟩) ?_ ?_
                  rotate_left
                  · intro w'
                    go_simp
                    with_reducible rfl
                  rotate_left
                  · simp only [Act.put, List.setIfInBounds_toArray, List.set_cons_zero, List.set_cons_succ, i64_w, i32_w]
                    rfl
                  refine pure_ (i := 14) (N := some 3) (v := ?_) (a' := ?_) #[true, true, true, true, true, true, true, true, true, true, true, true, true, true, true] rfl rfl (any_of HT_.out (by kernel_rfl)) (fun _ _ _ h => h) (Or.inl ⟨by rfl, ?_⟩) ?_ ?_
                  rotate_left
                  · intro w'
                    go_simp
                    with_reducible rfl
                  rotate_left
                  · simp only [Act.put, List.setIfInBounds_toArray, List.set_cons_zero, List.set_cons_succ, i64_w, i32_w]
                    rfl
                  refine done_ (done_of HT_.out (by kernel_rfl)) ?_
                  have hcz24_0 : w23.cell? ⟨gb157, 0, none⟩ = some (.int .i64 a0_0) := (blk_cell BK157.out 0).trans rfl
                  have hcz24_1 : w23.cell? ⟨gb157, 1, none⟩ = some (.int .i64 a0_1) := (blk_cell BK157.out 1).trans rfl
                  have hcz24_2 : w23.cell? ⟨gb157, 2, none⟩ = some (.int .i64 a0_2) := (blk_cell BK157.out 2).trans rfl
                  have hcz24_3 : w23.cell? ⟨gb157, 3, none⟩ = some (.string a0_3) := (blk_cell BK157.out 3).trans rfl
                  have hfz24_0 := blk_frozen BK157.out 0
                  have hfz24_1 := blk_frozen BK157.out 1
                  have hfz24_2 := blk_frozen BK157.out 2
                  have hfz24_3 := blk_frozen BK157.out 3
                  try go_wp2
                  go_ret
                  exact ⟨by first | rfl | (simp [errW_none, errW_some] <;> rfl) | (simp [*, errW_none, errW_some] <;> rfl), by repeat (first | (with_reducible first | exact HB.out | apply below_alloc | apply pw_below_drewN | apply below_drew1 | refine below_set ?_ GE157.out) | exact HB.out)⟩
                · rw [if_neg c18] at H
                  exact absurd H (by simp)
              · rw [if_neg c17] at H
                exact absurd H (by simp)
          · rw [if_neg c9] at H
            exact absurd H (by simp)
        · rw [if_neg c7] at H
          exact absurd H (by simp)
      · rw [if_neg c6] at H
        exact absurd H (by simp)
    · rw [if_neg c4] at H
      exact absurd H (by simp)
  · rw [if_neg c3] at H
    exact absurd H (by simp)
def transhumancelaw2_within.f (a0 : Int) (a1 : Int) : Option (Int) := if a1 = 0 then (none) else (if (Int.tmod a0 a1) < 0 then (some (wrap64 ((Int.tmod a0 a1) + a1))) else (some (Int.tmod a0 a1)))
set_option maxHeartbeats 8000000 in
set_option maxRecDepth 100000 in
theorem transhumancelaw2_within.calls (a0 : Int) (a1 : Int) (r : Int) (w : World) (h : transhumancelaw2_within.f a0 a1 = some r) :
    Calls Tryd.prog 73 #[.int .i64 a0, .int .i64 a1] w fun e w' => e = .returned (.int .i64 r) ∧ Drawn0 w w' := by
  have H : (if a1 = 0 then (none) else (if (Int.tmod a0 a1) < 0 then (some (wrap64 ((Int.tmod a0 a1) + a1))) else (some (Int.tmod a0 a1)))) = some r := h
  clear h
  by_cases c3 : a1 = 0
  · rw [if_pos c3] at H
    exact absurd H (by simp)
  · rw [if_neg c3] at H
    have c3b0 : (a1 == 0) = false := beq_eq_false_iff_ne.mpr c3
    have c3b1 : (a1 != 0) = true := bne_iff_ne.mpr c3
    by_cases c4 : (Int.tmod a0 a1) < 0
    · rw [if_pos c4] at H
      have c4b0 : decide ((Int.tmod a0 a1) < 0) = true := decide_eq_true c4
      clear c4
      obtain rfl := Option.some.inj H
      go_enter Tryd.func73, Tryd.ntmps73
      go_wp2
      go_ret
      exact ⟨by first | rfl | (simp; done) | (simp [*]; done), by repeat (first | exact Drawn0.refl _ | apply Drawn0.step)⟩
    · rw [if_neg c4] at H
      have c4b0 : decide ((Int.tmod a0 a1) < 0) = false := decide_eq_false c4
      clear c4
      obtain rfl := Option.some.inj H
      go_enter Tryd.func73, Tryd.ntmps73
      go_wp2
      go_ret
      exact ⟨by first | rfl | (simp; done) | (simp [*]; done), by repeat (first | exact Drawn0.refl _ | apply Drawn0.step)⟩
end Go.Proofs.YtomabpniflfmmaaDoor.Q
