import Derived.Test.YtghencpiejbecaaDoorZQ0
import Derived.Test.YtghencpiejbecaaDoorZQ1
import Derived.Test.YtghencpiejbecaaDoorZQ2
import Derived.Test.YtghencpiejbecaaDoorZDLocks
namespace Go.Proofs.YtghencpiejbecaaDoor.Q
open Go.RowKit Go.Proofs.YtghencpiejbecaaDoorW.PrintWords Go.Proofs.YtghencpiejbecaaDoorW.PrintLast Go.Proofs.YtghencpiejbecaaDoorW.PrintMore
attribute [local go_sem] max2_int min2_int max_two min_two max_three min_three max_four min_four
set_option linter.unusedVariables false
set_option linter.unusedSimpArgs false
attribute [local go_sem high] eqA27
mutual
def transhumancelaw7_DentLacks.l0 : Nat → Bool → Int → Int → ByteArray → Int → Option (Bool)
  | 0, _, _, _, _, _ => none
  | k + 1, x1, x2, x7, x9, x10 => (transhumancelaw7_within.f x2 5).bind fun t150 => (if x10 < t150 then (if 4 + x9.size ≤ 9223372036854775807 then (transhumancelaw7_DentLacks.l0 k x1 x2 x7 ((⟨#[35, 32, 120, 10]⟩ : ByteArray) ++ x9) (wrap64 (x10 + 1))) else (none)) else (if 7 + x9.size ≤ 9223372036854775807 then (if x1 = true then (transhumancelaw7_DentLacks.j1 k x7 ((⟨#[108, 111, 99, 107, 115, 58, 10]⟩ : ByteArray) ++ x9) ((⟨#[108, 111, 99, 107, 115, 58, 10]⟩ : ByteArray) ++ x9)) else (if ((⟨#[108, 111, 99, 107, 115, 58, 10]⟩ : ByteArray) ++ x9).size + 24 ≤ 9223372036854775807 then (transhumancelaw7_DentLacks.j1 k x7 ((⟨#[108, 111, 99, 107, 115, 58, 10]⟩ : ByteArray) ++ x9) (((⟨#[108, 111, 99, 107, 115, 58, 10]⟩ : ByteArray) ++ x9) ++ (⟨#[45, 32, 114, 111, 111, 116, 58, 32, 99, 10, 32, 32, 114, 101, 118, 105, 115, 105, 111, 110, 58, 32, 49, 10]⟩ : ByteArray))) else (none))) else (none)))
def transhumancelaw7_DentLacks.j1 : Nat → Int → ByteArray → ByteArray → Option (Bool)
  | 0, _, _, _ => none
  | k + 1, x7, x9, x11 => (dent_Locks.f x11).bind fun bt151 => (if x7 = 3 then (if bt151.2.2.2 = 4 then (if (bt151.1.length : Int) = 0 then ((transhumanceref1_Place.f k x11 (x9.size : Int)).bind fun bt158 => (some (bt151.2.1 == bt158.1 && (bt151.2.2.1 == bt158.2)))) else (some false)) else (some false)) else (if bt151.2.2.2 = 1 then (if (bt151.1.length : Int) = 0 then ((transhumanceref1_Place.f k x11 (x9.size : Int)).bind fun bt160 => (some (bt151.2.1 == bt160.1 && (bt151.2.2.1 == bt160.2)))) else (some false)) else (some false)))
end
def transhumancelaw7_DentLacks.f (k : Nat) (a0 : Int) (a1 : Bool) (a2 : Int) : Option (Bool) := (transhumancelaw7_known.f).bind fun t144 => (if t144 = true then ((transhumancelaw7_within.f a0 4).bind fun t145 => (if 24 + 24 ≤ 9223372036854775807 then ((some (([(⟨#[45, 32, 118, 101, 114, 115, 105, 111, 110, 58, 32, 118, 49, 46, 48, 46, 48, 10]⟩ : ByteArray), (⟨#[45, 32, 114, 111, 111, 116, 58, 32, 97, 10]⟩ : ByteArray), (⟨#[45, 32, 114, 111, 111, 116, 58, 32, 97, 10, 32, 32, 118, 101, 114, 115, 105, 111, 110, 58, 32, 34, 34, 10, 32, 32, 114, 101, 118, 105, 115, 105, 111, 110, 58, 32, 34, 34, 10]⟩ : ByteArray), (⟨#[45, 32, 114, 111, 111, 116, 58, 32, 98, 10, 32, 32, 114, 101, 118, 105, 115, 105, 111, 110, 58, 32, 49, 10]⟩ : ByteArray) ++ (⟨#[45, 32, 114, 111, 111, 116, 58, 32, 98, 10, 32, 32, 114, 101, 118, 105, 115, 105, 111, 110, 58, 32, 49, 10]⟩ : ByteArray)] : List ByteArray) : List ByteArray)).bind fun y146 => (if 0 ≤ t145 then (if t145 < (y146.length : Int) then (transhumancelaw7_DentLacks.l0 k a1 a2 t145 (rdOf ByteArray.empty y146 t145) 0) else (none)) else (none))) else (none))) else (some false))
def transhumancelaw7_DentLacks.T18 : Bool × List (List Nat × List Nat) := (true, [([], []), ([], []), ([0, 1], [0, 1]), ([2], [2]), ([3], [3]), ([4, 3], [3, 4]), ([5, 3], [3, 5]), ([3, 6], [3, 6]), ([7, 3], [7]), ([8], [8]), ([8], [8]), ([8], [8]), ([11, 8], [8, 11]), ([10, 12, 8, 8], [8, 10, 12]), ([9, 13, 8], [8, 9, 13]), ([8, 14], [8, 14]), ([15, 13, 0, 1, 2, 3, 4, 5, 6, 7, 8, 9, 10, 11, 12, 13, 14, 15], [15])])
def transhumancelaw7_DentLacks.B18 : List Nat := [0, 0, 3, 7, 15, 31, 63, 127, 255, 511, 511, 511, 2559, 7679, 16383, 32767, 65535]
theorem transhumancelaw7_DentLacks.tab18 : rtab .any (opsOf Tryd.f3 18) = transhumancelaw7_DentLacks.T18 := by kernel_rfl
theorem transhumancelaw7_DentLacks.bits18 : waitsOk transhumancelaw7_DentLacks.T18.2 transhumancelaw7_DentLacks.B18 = true := by kernel_rfl
set_option maxHeartbeats 8000000 in
set_option maxRecDepth 100000 in
theorem transhumancelaw7_DentLacks.calls (k : Nat) (a0 : Int) (a1 : Bool) (a2 : Int) (r : Bool) (w : World) (hG : GL w) (h : transhumancelaw7_DentLacks.f k a0 a1 a2 = some r) :
    Calls Tryd.prog 3 #[.int .i64 a0, .bool a1, .int .i64 a2] w fun e w' => e = .returned (.bool r) ∧ Below w.heap.size w w' := by
  have hu27 := Tryd.underlying27
  have HB := Aside0.mk (Below.refl w.heap.size w)
  have H : ((transhumancelaw7_known.f).bind fun t144 => (if t144 = true then ((transhumancelaw7_within.f a0 4).bind fun t145 => (if 24 + 24 ≤ 9223372036854775807 then ((some (([(⟨#[45, 32, 118, 101, 114, 115, 105, 111, 110, 58, 32, 118, 49, 46, 48, 46, 48, 10]⟩ : ByteArray), (⟨#[45, 32, 114, 111, 111, 116, 58, 32, 97, 10]⟩ : ByteArray), (⟨#[45, 32, 114, 111, 111, 116, 58, 32, 97, 10, 32, 32, 118, 101, 114, 115, 105, 111, 110, 58, 32, 34, 34, 10, 32, 32, 114, 101, 118, 105, 115, 105, 111, 110, 58, 32, 34, 34, 10]⟩ : ByteArray), (⟨#[45, 32, 114, 111, 111, 116, 58, 32, 98, 10, 32, 32, 114, 101, 118, 105, 115, 105, 111, 110, 58, 32, 49, 10]⟩ : ByteArray) ++ (⟨#[45, 32, 114, 111, 111, 116, 58, 32, 98, 10, 32, 32, 114, 101, 118, 105, 115, 105, 111, 110, 58, 32, 49, 10]⟩ : ByteArray)] : List ByteArray) : List ByteArray)).bind fun y146 => (if 0 ≤ t145 then (if t145 < (y146.length : Int) then (transhumancelaw7_DentLacks.l0 k a1 a2 t145 (rdOf ByteArray.empty y146 t145) 0) else (none)) else (none))) else (none))) else (some false))) = some r := h
  clear h
  replace H := Option.bind_eq_some_iff.mp H
  obtain ⟨t144, A40, H⟩ := H
  replace H : (if t144 = true then ((transhumancelaw7_within.f a0 4).bind fun t145 => (if 24 + 24 ≤ 9223372036854775807 then ((some (([(⟨#[45, 32, 118, 101, 114, 115, 105, 111, 110, 58, 32, 118, 49, 46, 48, 46, 48, 10]⟩ : ByteArray), (⟨#[45, 32, 114, 111, 111, 116, 58, 32, 97, 10]⟩ : ByteArray), (⟨#[45, 32, 114, 111, 111, 116, 58, 32, 97, 10, 32, 32, 118, 101, 114, 115, 105, 111, 110, 58, 32, 34, 34, 10, 32, 32, 114, 101, 118, 105, 115, 105, 111, 110, 58, 32, 34, 34, 10]⟩ : ByteArray), (⟨#[45, 32, 114, 111, 111, 116, 58, 32, 98, 10, 32, 32, 114, 101, 118, 105, 115, 105, 111, 110, 58, 32, 49, 10]⟩ : ByteArray) ++ (⟨#[45, 32, 114, 111, 111, 116, 58, 32, 98, 10, 32, 32, 114, 101, 118, 105, 115, 105, 111, 110, 58, 32, 49, 10]⟩ : ByteArray)] : List ByteArray) : List ByteArray)).bind fun y146 => (if 0 ≤ t145 then (if t145 < (y146.length : Int) then (transhumancelaw7_DentLacks.l0 k a1 a2 t145 (rdOf ByteArray.empty y146 t145) 0) else (none)) else (none))) else (none))) else (some false)) = some r := H
  have A4 := Aside0.mk A40
  clear A40
  by_cases c5 : t144 = true
  · subst c5
    have H1 : ((transhumancelaw7_within.f a0 4).bind fun t145 => (if 24 + 24 ≤ 9223372036854775807 then ((some (([(⟨#[45, 32, 118, 101, 114, 115, 105, 111, 110, 58, 32, 118, 49, 46, 48, 46, 48, 10]⟩ : ByteArray), (⟨#[45, 32, 114, 111, 111, 116, 58, 32, 97, 10]⟩ : ByteArray), (⟨#[45, 32, 114, 111, 111, 116, 58, 32, 97, 10, 32, 32, 118, 101, 114, 115, 105, 111, 110, 58, 32, 34, 34, 10, 32, 32, 114, 101, 118, 105, 115, 105, 111, 110, 58, 32, 34, 34, 10]⟩ : ByteArray), (⟨#[45, 32, 114, 111, 111, 116, 58, 32, 98, 10, 32, 32, 114, 101, 118, 105, 115, 105, 111, 110, 58, 32, 49, 10]⟩ : ByteArray) ++ (⟨#[45, 32, 114, 111, 111, 116, 58, 32, 98, 10, 32, 32, 114, 101, 118, 105, 115, 105, 111, 110, 58, 32, 49, 10]⟩ : ByteArray)] : List ByteArray) : List ByteArray)).bind fun y146 => (if 0 ≤ t145 then (if t145 < (y146.length : Int) then (transhumancelaw7_DentLacks.l0 k a1 a2 t145 (rdOf ByteArray.empty y146 t145) 0) else (none)) else (none))) else (none))) = some r := by rw [if_pos rfl] at H; exact H
    clear H
    have H := H1
    clear H1
    replace H := Option.bind_eq_some_iff.mp H
    obtain ⟨t145, A60, H⟩ := H
    replace H : (if 24 + 24 ≤ 9223372036854775807 then ((some (([(⟨#[45, 32, 118, 101, 114, 115, 105, 111, 110, 58, 32, 118, 49, 46, 48, 46, 48, 10]⟩ : ByteArray), (⟨#[45, 32, 114, 111, 111, 116, 58, 32, 97, 10]⟩ : ByteArray), (⟨#[45, 32, 114, 111, 111, 116, 58, 32, 97, 10, 32, 32, 118, 101, 114, 115, 105, 111, 110, 58, 32, 34, 34, 10, 32, 32, 114, 101, 118, 105, 115, 105, 111, 110, 58, 32, 34, 34, 10]⟩ : ByteArray), (⟨#[45, 32, 114, 111, 111, 116, 58, 32, 98, 10, 32, 32, 114, 101, 118, 105, 115, 105, 111, 110, 58, 32, 49, 10]⟩ : ByteArray) ++ (⟨#[45, 32, 114, 111, 111, 116, 58, 32, 98, 10, 32, 32, 114, 101, 118, 105, 115, 105, 111, 110, 58, 32, 49, 10]⟩ : ByteArray)] : List ByteArray) : List ByteArray)).bind fun y146 => (if 0 ≤ t145 then (if t145 < (y146.length : Int) then (transhumancelaw7_DentLacks.l0 k a1 a2 t145 (rdOf ByteArray.empty y146 t145) 0) else (none)) else (none))) else (none)) = some r := H
    have A6 := Aside0.mk A60
    clear A60
    by_cases c7 : 24 + 24 ≤ 9223372036854775807
    · rw [if_pos c7] at H
      have c7b0 := eq_true c7
      have c7b1 : decide (24 + 24 ≤ 9223372036854775807) = true := decide_eq_true c7
      try have c7b4 : (9223372036854775807 < 48) = False := eq_false (by have h_ := c7; (try simp only [ByteArray.size_append] at h_); first | omega | (simp [go_sem] at h_; omega))
      try have c7b2 : (9223372036854775807 < 24 + 24) = False := eq_false (Nat.not_lt.2 c7)
      obtain ⟨y146, hy146⟩ : ∃ y_ : List ByteArray, y_ = (([(⟨#[45, 32, 118, 101, 114, 115, 105, 111, 110, 58, 32, 118, 49, 46, 48, 46, 48, 10]⟩ : ByteArray), (⟨#[45, 32, 114, 111, 111, 116, 58, 32, 97, 10]⟩ : ByteArray), (⟨#[45, 32, 114, 111, 111, 116, 58, 32, 97, 10, 32, 32, 118, 101, 114, 115, 105, 111, 110, 58, 32, 34, 34, 10, 32, 32, 114, 101, 118, 105, 115, 105, 111, 110, 58, 32, 34, 34, 10]⟩ : ByteArray), (⟨#[45, 32, 114, 111, 111, 116, 58, 32, 98, 10, 32, 32, 114, 101, 118, 105, 115, 105, 111, 110, 58, 32, 49, 10]⟩ : ByteArray) ++ (⟨#[45, 32, 114, 111, 111, 116, 58, 32, 98, 10, 32, 32, 114, 101, 118, 105, 115, 105, 111, 110, 58, 32, 49, 10]⟩ : ByteArray)] : List ByteArray)) := ⟨_, rfl⟩
      replace H : (if 0 ≤ t145 then (if t145 < (y146.length : Int) then (transhumancelaw7_DentLacks.l0 k a1 a2 t145 (rdOf ByteArray.empty y146 t145) 0) else (none)) else (none)) = some r := by first | (rw [hy146]; with_reducible exact H) | (have H2_ := (Option.bind_some _ _).symm.trans H; rw [hy146]; with_reducible exact H2_) | (have H2_ := (Option.bind_some _ _).symm.trans H; with_reducible exact H2_) | with_reducible exact H | (rw [hy146]; exact H) | exact H
      have Ny146 := Aside0.mk hy146
      clear hy146
      by_cases c8 : 0 ≤ t145
      · rw [if_pos c8] at H
        have c8b0 : decide (0 ≤ t145) = true := decide_eq_true c8
        clear c8
        by_cases c9 : t145 < (y146.length : Int)
        · rw [if_pos c9] at H
          have c9b0 : decide (t145 < (y146.length : Int)) = true := decide_eq_true c9
          clear c9
          have H' := Aside0.mk H
          clear H
          go_enter Tryd.func3, Tryd.ntmps3
          go_wp2_with (first | ((with_reducible refine gate_callee (f := 6) rfl ?_); refine goesL_ (some 16) rfl rfl Tryd.func6 (by kernel_rfl) rfl #[] rfl (by (try simp only [List.map_toArray, List.map_cons, List.map_nil]); first | done | rfl | (simp only [List.length_drop, List.length_take]; rfl)) ?_; (with_reducible refine (transhumancelaw7_known.calls  true _ ?side1 A4.out).mono ?_); (case side1 => exact GL.below0 hG (by repeat (first | (with_reducible first | exact HB.out | apply below_alloc | apply pw_below_drewN | apply below_drew1) | exact HB.out))); rintro e w10 ⟨rfl, hb⟩; refine ⟨_, rfl, ?_⟩; have n0_ := Aside0.mk (below_step (by repeat (first | (with_reducible first | exact HB.out | apply below_alloc | apply pw_below_drewN | apply below_drew1) | exact HB.out)) hb); clear HB; have HB := n0_; clear n0_; (try clear hb); (try clear hb2); (try clear hk); (try clear hi)) | ((with_reducible refine gate_callee (f := 7) rfl ?_); refine goesL_ (some 19) rfl rfl Tryd.func7 (by kernel_rfl) rfl #[.int .i64 a0, .int .i64 4] rfl (by (try simp only [List.map_toArray, List.map_cons, List.map_nil]); first | done | rfl | (simp only [List.length_drop, List.length_take]; rfl)) ?_; (with_reducible refine (transhumancelaw7_within.calls a0 4 t145 _ A6.out).mono ?_); rintro e w' ⟨rfl, ⟨nd, rfl⟩⟩; refine ⟨_, rfl, ?_⟩) | ((with_reducible refine gate_dst (N := 23) rfl ?_); (try (refine gate_guard (by rfl) ?_; dsimp only)); refine Kd.R_lit Kd.string _ 9 ?hg (N := 23) ?hd (xs := ([(⟨#[45, 32, 118, 101, 114, 115, 105, 111, 110, 58, 32, 118, 49, 46, 48, 46, 48, 10]⟩ : ByteArray), (⟨#[45, 32, 114, 111, 111, 116, 58, 32, 97, 10]⟩ : ByteArray), (⟨#[45, 32, 114, 111, 111, 116, 58, 32, 97, 10, 32, 32, 118, 101, 114, 115, 105, 111, 110, 58, 32, 34, 34, 10, 32, 32, 114, 101, 118, 105, 115, 105, 111, 110, 58, 32, 34, 34, 10]⟩ : ByteArray), (⟨#[45, 32, 114, 111, 111, 116, 58, 32, 98, 10, 32, 32, 114, 101, 118, 105, 115, 105, 111, 110, 58, 32, 49, 10]⟩ : ByteArray) ++ (⟨#[45, 32, 114, 111, 111, 116, 58, 32, 98, 10, 32, 32, 114, 101, 118, 105, 115, 105, 111, 110, 58, 32, 49, 10]⟩ : ByteArray)] : List ByteArray)) (inner := [.string (⟨#[45, 32, 118, 101, 114, 115, 105, 111, 110, 58, 32, 118, 49, 46, 48, 46, 48, 10]⟩ : ByteArray), .string (⟨#[45, 32, 114, 111, 111, 116, 58, 32, 97, 10]⟩ : ByteArray), .string (⟨#[45, 32, 114, 111, 111, 116, 58, 32, 97, 10, 32, 32, 118, 101, 114, 115, 105, 111, 110, 58, 32, 34, 34, 10, 32, 32, 114, 101, 118, 105, 115, 105, 111, 110, 58, 32, 34, 34, 10]⟩ : ByteArray), .string ((⟨#[45, 32, 114, 111, 111, 116, 58, 32, 98, 10, 32, 32, 114, 101, 118, 105, 115, 105, 111, 110, 58, 32, 49, 10]⟩ : ByteArray) ++ (⟨#[45, 32, 114, 111, 111, 116, 58, 32, 98, 10, 32, 32, 114, 101, 118, 105, 115, 105, 111, 110, 58, 32, 49, 10]⟩ : ByteArray))]) (ok := fun _ => True) (okp := fun _ => True) ?hr ?hp (fun _ hk => hk) trivial (Below.refl _ _) (Nat.le_refl _) (by simp) ?_; (case hd => rfl); (case hg => rfl); (case hr => first | (go_simp; done) | (go_simp; rfl)); (case hp => exact (Reps.one (show Kd.M Kd.string _ _ _ (⟨#[45, 32, 118, 101, 114, 115, 105, 111, 110, 58, 32, 118, 49, 46, 48, 46, 48, 10]⟩ : ByteArray) [.string (⟨#[45, 32, 118, 101, 114, 115, 105, 111, 110, 58, 32, 118, 49, 46, 48, 46, 48, 10]⟩ : ByteArray)] from rfl) (Reps.one (show Kd.M Kd.string _ _ _ (⟨#[45, 32, 114, 111, 111, 116, 58, 32, 97, 10]⟩ : ByteArray) [.string (⟨#[45, 32, 114, 111, 111, 116, 58, 32, 97, 10]⟩ : ByteArray)] from rfl) (Reps.one (show Kd.M Kd.string _ _ _ (⟨#[45, 32, 114, 111, 111, 116, 58, 32, 97, 10, 32, 32, 118, 101, 114, 115, 105, 111, 110, 58, 32, 34, 34, 10, 32, 32, 114, 101, 118, 105, 115, 105, 111, 110, 58, 32, 34, 34, 10]⟩ : ByteArray) [.string (⟨#[45, 32, 114, 111, 111, 116, 58, 32, 97, 10, 32, 32, 118, 101, 114, 115, 105, 111, 110, 58, 32, 34, 34, 10, 32, 32, 114, 101, 118, 105, 115, 105, 111, 110, 58, 32, 34, 34, 10]⟩ : ByteArray)] from rfl) (Reps.one (show Kd.M Kd.string _ _ _ ((⟨#[45, 32, 114, 111, 111, 116, 58, 32, 98, 10, 32, 32, 114, 101, 118, 105, 115, 105, 111, 110, 58, 32, 49, 10]⟩ : ByteArray) ++ (⟨#[45, 32, 114, 111, 111, 116, 58, 32, 98, 10, 32, 32, 114, 101, 118, 105, 115, 105, 111, 110, 58, 32, 49, 10]⟩ : ByteArray)) [.string ((⟨#[45, 32, 114, 111, 111, 116, 58, 32, 98, 10, 32, 32, 114, 101, 118, 105, 115, 105, 111, 110, 58, 32, 49, 10]⟩ : ByteArray) ++ (⟨#[45, 32, 114, 111, 111, 116, 58, 32, 98, 10, 32, 32, 114, 101, 118, 105, 115, 105, 111, 110, 58, 32, 49, 10]⟩ : ByteArray))] from rfl) (Reps.none _ _)))))); intro v147 w11 ho12 hb hg_ hnew_; clear hg_ hnew_; (first | rw [← Ny146.out] at ho12 | (simp only [Int.reduceToNat] at ho12; rw [← Ny146.out] at ho12)); have n0_ := Aside0.mk (Kd.R_lower ho12 (below_size (by repeat (first | (with_reducible first | exact HB.out | apply below_alloc | apply pw_below_drewN | apply below_drew1) | exact HB.out)))); have n1_ := Aside0.mk (below_step (by repeat (first | (with_reducible first | exact HB.out | apply below_alloc | apply pw_below_drewN | apply below_drew1) | exact HB.out)) hb); clear HB; have HO148 := n0_; have HB := n1_; clear n0_ n1_; clear hb ho12; obtain ⟨Ao13, co13, eo13⟩ := Kd.R_slice HO148.out; subst eo13; have p149 : 0 ≤ (t145 : Int) := of_decide_eq_true (by first | (with_reducible assumption) | assumption); have q149 : t145 < (y146.length : Int) := of_decide_eq_true (by first | (with_reducible assumption) | assumption); obtain ⟨ad149, e149, hx149_0⟩ := Kd.at_string (Kd.R_reads' HO148.out).2.2 t145 p149 q149; cases e149; replace p149 := eq_true p149; replace q149 := eq_true q149))
          go_loopg [9, 10] k (fun kq v9 v10 w' => ∃ (x9_1 : ByteArray) (x10_1 : Int), v9 = .string x9_1 ∧ v10 = .int .i64 x10_1 ∧ Aside0 (transhumancelaw7_DentLacks.l0 kq a1 a2 t145 x9_1 x10_1 = some r) ∧ Aside0 (kq ≤ k) ∧ Aside0 (Below w.heap.size w w'))
          case atStart => exact ⟨(rdOf ByteArray.empty y146 t145), (0), (by first | rfl | (simp; done) | (simp [*]; done) | (simp; exact (fun l_ : List UInt8 => by cases l_ <;> rfl : ∀ l_ : List UInt8, l_.isEmpty = !(l_ != [])) _)), (by first | rfl | (simp; done) | (simp [*]; done) | (simp; exact (fun l_ : List UInt8 => by cases l_ <;> rfl : ∀ l_ : List UInt8, l_.isEmpty = !(l_ != [])) _)), H', ⟨Nat.le_refl _⟩, ⟨by repeat (first | (with_reducible first | exact HB.out | apply below_alloc | apply pw_below_drewN | apply below_drew1) | exact HB.out)⟩⟩
          case round =>
            clear H'
            try clear p1
            try clear q1
            try clear hx1
            try clear p2
            try clear c3
            try clear c5
            try clear c6
            try clear c7
            try clear c7b0
            try clear c7b1
            try clear c7b2
            try clear c8
            try clear c8b0
            try clear c9
            try clear c9b0
            try clear hx149_0
            try clear p149
            try clear q149
            obtain ⟨x9_1, x10_1, rfl, rfl, HA, HK1, HB⟩ := hrel
            cases gk with
            | zero => exact absurd HA.out (by simp [transhumancelaw7_DentLacks.l0])
            | succ k1 =>
              have H := HA.out
              clear HA
              simp only [transhumancelaw7_DentLacks.l0] at H
              replace H := Option.bind_eq_some_iff.mp H
              obtain ⟨t150, A140, H⟩ := H
              replace H : (if x10_1 < t150 then (if 4 + x9_1.size ≤ 9223372036854775807 then (transhumancelaw7_DentLacks.l0 k1 a1 a2 t145 ((⟨#[35, 32, 120, 10]⟩ : ByteArray) ++ x9_1) (wrap64 (x10_1 + 1))) else (none)) else (if 7 + x9_1.size ≤ 9223372036854775807 then (if a1 = true then (transhumancelaw7_DentLacks.j1 k1 t145 ((⟨#[108, 111, 99, 107, 115, 58, 10]⟩ : ByteArray) ++ x9_1) ((⟨#[108, 111, 99, 107, 115, 58, 10]⟩ : ByteArray) ++ x9_1)) else (if ((⟨#[108, 111, 99, 107, 115, 58, 10]⟩ : ByteArray) ++ x9_1).size + 24 ≤ 9223372036854775807 then (transhumancelaw7_DentLacks.j1 k1 t145 ((⟨#[108, 111, 99, 107, 115, 58, 10]⟩ : ByteArray) ++ x9_1) (((⟨#[108, 111, 99, 107, 115, 58, 10]⟩ : ByteArray) ++ x9_1) ++ (⟨#[45, 32, 114, 111, 111, 116, 58, 32, 99, 10, 32, 32, 114, 101, 118, 105, 115, 105, 111, 110, 58, 32, 49, 10]⟩ : ByteArray))) else (none))) else (none))) = some r := H
              have A14 := Aside0.mk A140
              clear A140
              by_cases c15 : x10_1 < t150
              · rw [if_pos c15] at H
                have c15b0 : decide (x10_1 < t150) = true := decide_eq_true c15
                clear c15
                by_cases c16 : 4 + x9_1.size ≤ 9223372036854775807
                · rw [if_pos c16] at H
                  have c16b0 := eq_true c16
                  have c16b1 : decide (4 + x9_1.size ≤ 9223372036854775807) = true := decide_eq_true c16
                  try have c16b2 : (9223372036854775807 < 4 + x9_1.size) = False := eq_false (Nat.not_lt.2 c16)
                  have H' := Aside0.mk H
                  clear H
                  go_wp2_with (first | ((with_reducible refine gate_callee (f := 7) rfl ?_); refine goesL_ (some 29) rfl rfl Tryd.func7 (by kernel_rfl) rfl #[.int .i64 a2, .int .i64 5] rfl (by (try simp only [List.map_toArray, List.map_cons, List.map_nil]); first | done | rfl | (simp only [List.length_drop, List.length_take]; rfl)) ?_; (with_reducible refine (transhumancelaw7_within.calls a2 5 t150 _ A14.out).mono ?_); rintro e w' ⟨rfl, ⟨nd, rfl⟩⟩; refine ⟨_, rfl, ?_⟩))
                  go_roundg k1
                  case measure => have := HK1.out; omega
                  case rel => exact ⟨((⟨#[35, 32, 120, 10]⟩ : ByteArray) ++ x9_1), (wrap64 (x10_1 + 1)), (by first | rfl | (simp; done) | (simp [*]; done) | (simp; exact (fun l_ : List UInt8 => by cases l_ <;> rfl : ∀ l_ : List UInt8, l_.isEmpty = !(l_ != [])) _)), (by first | rfl | (simp; done) | (simp [*]; done) | (simp; exact (fun l_ : List UInt8 => by cases l_ <;> rfl : ∀ l_ : List UInt8, l_.isEmpty = !(l_ != [])) _)), H', ⟨by have := HK1.out; omega⟩, ⟨by repeat (first | (with_reducible first | exact HB.out | apply below_alloc | apply pw_below_drewN | apply below_drew1) | exact HB.out)⟩⟩
                · rw [if_neg c16] at H
                  exact absurd H (by simp)
              · rw [if_neg c15] at H
                have c15b0 : decide (x10_1 < t150) = false := decide_eq_false c15
                clear c15
                by_cases c17 : 7 + x9_1.size ≤ 9223372036854775807
                · rw [if_pos c17] at H
                  have c17b0 := eq_true c17
                  have c17b1 : decide (7 + x9_1.size ≤ 9223372036854775807) = true := decide_eq_true c17
                  try have c17b2 : (9223372036854775807 < 7 + x9_1.size) = False := eq_false (Nat.not_lt.2 c17)
                  have HC18 := Aside0.mk H
                  clear H
                  go_upto_if 39 with (first | ((with_reducible refine gate_callee (f := 7) rfl ?_); refine goesL_ (some 29) rfl rfl Tryd.func7 (by kernel_rfl) rfl #[.int .i64 a2, .int .i64 5] rfl (by (try simp only [List.map_toArray, List.map_cons, List.map_nil]); first | done | rfl | (simp only [List.length_drop, List.length_take]; rfl)) ?_; (with_reducible refine (transhumancelaw7_within.calls a2 5 t150 _ A14.out).mono ?_); rintro e w' ⟨rfl, ⟨nd, rfl⟩⟩; refine ⟨_, rfl, ?_⟩))
                  (try simp only [Act.put, List.setIfInBounds_toArray, List.set_cons_zero, List.set_cons_succ])
                  go_cut [11] (fun v11 wc => ∃ (kq : Nat) (x11_17 : ByteArray), v11 = .string x11_17 ∧ Aside0 (transhumancelaw7_DentLacks.j1 kq t145 ((⟨#[108, 111, 99, 107, 115, 58, 10]⟩ : ByteArray) ++ x9_1) x11_17 = some r) ∧ Aside0 (kq ≤ k1) ∧ Aside0 (Below w.heap.size w wc))
                  case first =>
                    have H := HC18.out
                    clear HC18
                    by_cases c19 : a1 = true
                    · subst c19
                      have H1 : (transhumancelaw7_DentLacks.j1 k1 t145 ((⟨#[108, 111, 99, 107, 115, 58, 10]⟩ : ByteArray) ++ x9_1) ((⟨#[108, 111, 99, 107, 115, 58, 10]⟩ : ByteArray) ++ x9_1)) = some r := by rw [if_pos rfl] at H; exact H
                      clear H
                      have H := H1
                      clear H1
                      have H' := Aside0.mk H
                      clear H
                      go_wp2
                      go_meet
                      case rel => exact ⟨_, ((⟨#[108, 111, 99, 107, 115, 58, 10]⟩ : ByteArray) ++ x9_1), (by first | rfl | (simp; done) | (simp [*]; done) | (simp; exact (fun l_ : List UInt8 => by cases l_ <;> rfl : ∀ l_ : List UInt8, l_.isEmpty = !(l_ != [])) _)), H', ⟨by have := HK1.out; first | omega | exact Nat.le_refl _⟩, ⟨by repeat (first | (with_reducible first | exact HB.out | apply below_alloc | apply pw_below_drewN | apply below_drew1) | exact HB.out)⟩⟩
                    · replace c19 := Bool.eq_false_iff.mpr c19
                      subst c19
                      have H1 : (if ((⟨#[108, 111, 99, 107, 115, 58, 10]⟩ : ByteArray) ++ x9_1).size + 24 ≤ 9223372036854775807 then (transhumancelaw7_DentLacks.j1 k1 t145 ((⟨#[108, 111, 99, 107, 115, 58, 10]⟩ : ByteArray) ++ x9_1) (((⟨#[108, 111, 99, 107, 115, 58, 10]⟩ : ByteArray) ++ x9_1) ++ (⟨#[45, 32, 114, 111, 111, 116, 58, 32, 99, 10, 32, 32, 114, 101, 118, 105, 115, 105, 111, 110, 58, 32, 49, 10]⟩ : ByteArray))) else (none)) = some r := by rw [if_neg (show ¬ (false = true) by decide)] at H; exact H
                      clear H
                      have H := H1
                      clear H1
                      by_cases c20 : ((⟨#[108, 111, 99, 107, 115, 58, 10]⟩ : ByteArray) ++ x9_1).size + 24 ≤ 9223372036854775807
                      · rw [if_pos c20] at H
                        have c20b0 := eq_true c20
                        have c20b1 : decide (((⟨#[108, 111, 99, 107, 115, 58, 10]⟩ : ByteArray) ++ x9_1).size + 24 ≤ 9223372036854775807) = true := decide_eq_true c20
                        try have c20b4 : (9223372036854775807 < 7 + x9_1.size + 24) = False := eq_false (by have h_ := c20; (try simp only [ByteArray.size_append] at h_); first | omega | (simp [go_sem] at h_; omega))
                        try have c20b2 : (9223372036854775807 < ((⟨#[108, 111, 99, 107, 115, 58, 10]⟩ : ByteArray) ++ x9_1).size + 24) = False := eq_false (Nat.not_lt.2 c20)
                        have H' := Aside0.mk H
                        clear H
                        go_wp2
                        go_meet
                        case rel => exact ⟨_, (((⟨#[108, 111, 99, 107, 115, 58, 10]⟩ : ByteArray) ++ x9_1) ++ (⟨#[45, 32, 114, 111, 111, 116, 58, 32, 99, 10, 32, 32, 114, 101, 118, 105, 115, 105, 111, 110, 58, 32, 49, 10]⟩ : ByteArray)), (by first | rfl | (simp; done) | (simp [*]; done) | (simp; exact (fun l_ : List UInt8 => by cases l_ <;> rfl : ∀ l_ : List UInt8, l_.isEmpty = !(l_ != [])) _)), H', ⟨by have := HK1.out; first | omega | exact Nat.le_refl _⟩, ⟨by repeat (first | (with_reducible first | exact HB.out | apply below_alloc | apply pw_below_drewN | apply below_drew1) | exact HB.out)⟩⟩
                      · rw [if_neg c20] at H
                        exact absurd H (by simp)
                  case rest =>
                    clear HC18
                    try clear c1
                    try clear p1
                    try clear q1
                    try clear hx1
                    try clear c2
                    try clear p2
                    try clear c3
                    try clear c5
                    try clear c6
                    try clear p6
                    try clear c7
                    try clear c7b0
                    try clear c7b1
                    try clear c7b2
                    try clear c8
                    try clear c8b0
                    try clear c9
                    try clear c9b0
                    try clear p14
                    try clear q14
                    try clear hx14
                    try clear c15
                    try clear c15b0
                    try clear c16
                    try clear c16b0
                    try clear c16b1
                    try clear c16b2
                    try clear c17
                    try clear c17b0
                    try clear c17b1
                    try clear c17b2
                    try clear c19
                    try clear c20
                    try clear c20b0
                    try clear c20b1
                    try clear c20b2
                    try clear hx149_0
                    try clear p1
                    try clear p149
                    try clear p2
                    try clear q1
                    try clear q149
                    obtain ⟨kq, x11_17, rfl, HA, HJ17, HB⟩ := hcut
                    cases kq with
                    | zero => exact absurd HA.out (by simp [transhumancelaw7_DentLacks.j1])
                    | succ kj17 =>
                      have H := HA.out
                      clear HA
                      simp only [transhumancelaw7_DentLacks.j1] at H
                      replace H := Option.bind_eq_some_iff.mp H
                      obtain ⟨⟨t151, t154, t155, t156⟩, A210, H⟩ := H
                      replace H : (if t145 = 3 then (if t156 = 4 then (if (t151.length : Int) = 0 then ((transhumanceref1_Place.f kj17 x11_17 (((⟨#[108, 111, 99, 107, 115, 58, 10]⟩ : ByteArray) ++ x9_1).size : Int)).bind fun bt158 => (some (t154 == bt158.1 && (t155 == bt158.2)))) else (some false)) else (some false)) else (if t156 = 1 then (if (t151.length : Int) = 0 then ((transhumanceref1_Place.f kj17 x11_17 (((⟨#[108, 111, 99, 107, 115, 58, 10]⟩ : ByteArray) ++ x9_1).size : Int)).bind fun bt160 => (some (t154 == bt160.1 && (t155 == bt160.2)))) else (some false)) else (some false))) = some r := H
                      have A21 := Aside0.mk A210
                      clear A210
                      by_cases c22 : t145 = 3
                      · rw [if_pos c22] at H
                        have c22b0 : (t145 == 3) = true := beq_iff_eq.mpr c22
                        have c22b1 : (t145 != 3) = false := bne_eq_false_iff_eq.mpr c22
                        clear c22
                        by_cases c23 : t156 = 4
                        · rw [if_pos c23] at H
                          have c23b0 : (t156 == 4) = true := beq_iff_eq.mpr c23
                          have c23b1 : (t156 != 4) = false := bne_eq_false_iff_eq.mpr c23
                          clear c23
                          by_cases c24 : (t151.length : Int) = 0
                          · rw [if_pos c24] at H
                            have c24b0 : ((t151.length : Int) == 0) = true := beq_iff_eq.mpr c24
                            have c24b1 : ((t151.length : Int) != 0) = false := bne_eq_false_iff_eq.mpr c24
                            clear c24
                            replace H := Option.bind_eq_some_iff.mp H
                            obtain ⟨⟨t158, t159⟩, A250, H⟩ := H
                            replace H : (some (t154 == t158 && (t155 == t159))) = some r := H
                            have A25 := Aside0.mk A250
                            clear A250
                            obtain rfl := Option.some.inj H
                            try go_wp2_with (first | ((with_reducible refine gate_callee (f := 8) rfl ?_); refine goesL_ (some 44) rfl rfl Tryd.func8 (by kernel_rfl) rfl #[.string x11_17] rfl (by (try simp only [List.map_toArray, List.map_cons, List.map_nil]); first | done | rfl | (simp only [List.length_drop, List.length_take]; rfl)) ?_; (with_reducible refine (dent_Locks.calls x11_17 t151 t154 t155 t156 _ ?side1 A21.out).mono ?_); (case side1 => exact GL.below0 hG (by repeat (first | (with_reducible first | exact HB.out | apply below_alloc | apply pw_below_drewN | apply below_drew1) | exact HB.out))); rintro e w26 ⟨v152, rfl, ho0, hb⟩; refine ⟨_, rfl, ?_⟩; have n0_ := Aside0.mk (Kd.R_lower ho0 (below_size (by repeat (first | (with_reducible first | exact HB.out | apply below_alloc | apply pw_below_drewN | apply below_drew1) | exact HB.out)))); have n1_ := Aside0.mk (below_step (by repeat (first | (with_reducible first | exact HB.out | apply below_alloc | apply pw_below_drewN | apply below_drew1) | exact HB.out)) hb); clear HB; have HO153 := n0_; have HB := n1_; clear n0_ n1_; (try clear hb); (try clear hb2); (try clear hk); (try clear hi); (try clear ho0)) | ((with_reducible refine gate_dst (N := 13) rfl ?_); (try (refine gate_guard (by rfl) ?_; dsimp only)); refine box_event ?hg (N := 13) ?hd (cs := #[.int .i64 0, .int .i64 0]) (t := 27) ?hr ?_; (case hd => rfl); (case hg => rfl); (case hr => first | (go_simp; done) | (go_simp; rfl)); intro gb157 hg w27 hbox hb; have n0_ := Aside0.mk (Kd.R_below (by (with_reducible repeat (first | apply Kd.R_alloc | apply Kd.R_drewN | apply Kd.R_drew)); exact HO153.out) hb); have n1_ := Aside0.mk (below_step (by repeat (first | (with_reducible first | exact HB.out | apply below_alloc | apply pw_below_drewN | apply below_drew1) | exact HB.out)) hb); have n2_ := Aside0.mk (hbox); have n3_ := Aside0.mk ((by rw [hg]; exact (below_size (by repeat (first | (with_reducible first | exact HB.out | apply below_alloc | apply pw_below_drewN | apply below_drew1) | exact HB.out))) : w.heap.size ≤ gb157)); have n4_ := Aside0.mk ((by rw [hg]; exact (below_size (by repeat (first | (with_reducible first | exact HB.out | apply below_alloc | apply pw_below_drewN | apply below_drew1) | exact HB.out))) : w.heap.size ≤ gb157)); clear HO153; clear HB; have HO153 := n0_; have HB := n1_; have BK157 := n2_; have GW157 := n3_; have GE157 := n4_; clear n0_ n1_ n2_ n3_ n4_; clear hb hbox hg; have hcz28_0 : w27.cell? ⟨gb157, 0, none⟩ = some (.int .i64 0) := (blk_cell BK157.out 0).trans rfl; have hcz28_1 : w27.cell? ⟨gb157, 1, none⟩ = some (.int .i64 0) := (blk_cell BK157.out 1).trans rfl; have hfz28_0 := blk_frozen BK157.out 0; have hfz28_1 := blk_frozen BK157.out 1))
                            have n0_ : Aside0 (Kd.R k38 38 ((w27.setCell ⟨gb157, 0, none⟩ (.int .i64 t154)).setCell ⟨gb157, 1, none⟩ (.int .i64 t155)) w.heap.size (fun _ => True) v152 t151) := ⟨by (with_reducible repeat (first | apply Kd.R_alloc | apply Kd.R_drewN | apply Kd.R_drew)); exact Kd.R_mono (Kd.R_far (p := ⟨gb157, 1, none⟩) (Kd.R_far (p := ⟨gb157, 0, none⟩) (Kd.R_types HO153.out BK157.out (by decide)) (fun _ hk => hk.2) (.int .i64 t154)) (fun _ hk => hk.2) (.int .i64 t155)) (fun _ hk => trivial)⟩
                            have n1_ : Aside0 (((w27.setCell ⟨gb157, 0, none⟩ (.int .i64 t154)).setCell ⟨gb157, 1, none⟩ (.int .i64 t155)).heap[gb157]? = some (.cells #[.int .i64 t154, .int .i64 t155] 27 (0, 0))) := ⟨by (with_reducible repeat (first | refine blk_drewN ?_ _ | refine blk_drew ?_ | refine blk_alloc ?_ _)); refine blk_put (cs := #[.int .i64 t154, .int .i64 0]) ?_ 1 _ rfl; (with_reducible repeat (first | refine blk_drewN ?_ _ | refine blk_drew ?_ | refine blk_alloc ?_ _)); refine blk_put (cs := #[.int .i64 0, .int .i64 0]) ?_ 0 _ rfl; (with_reducible repeat (first | refine blk_drewN ?_ _ | refine blk_drew ?_ | refine blk_alloc ?_ _)); exact BK157.out⟩
                            have n2_ : Aside0 (Below w.heap.size w ((w27.setCell ⟨gb157, 0, none⟩ (.int .i64 t154)).setCell ⟨gb157, 1, none⟩ (.int .i64 t155))) := ⟨by repeat (first | (with_reducible first | exact HB.out | apply below_alloc | apply pw_below_drewN | apply below_drew1 | refine below_set ?_ GE157.out) | exact HB.out)⟩
                            (try clear HO153)
                            (try clear BK157)
                            (try clear HB)
                            generalize ((w27.setCell ⟨gb157, 0, none⟩ (.int .i64 t154)).setCell ⟨gb157, 1, none⟩ (.int .i64 t155)) = w29 at n0_ n1_ n2_ ⊢
                            have HO153 := n0_
                            have BK157 := n1_
                            have HB := n2_
                            clear n0_ n1_ n2_
                            have n0_ := Aside0.mk (Kd.R_drew HO153.out)
                            have n1_ := Aside0.mk (blk_drew BK157.out)
                            have n2_ := Aside0.mk (below_drew1 HB.out)
                            clear HO153
                            clear BK157
                            clear HB
                            have HO153 := n0_
                            have BK157 := n1_
                            have HB := n2_
                            clear n0_ n1_ n2_
                            obtain ⟨Ao31, co31, eo31⟩ := Kd.R_slice HO153.out
                            (first | subst eo31 | (injection eo31 with f1_ f2_ f3_; have f4_ := f1_.symm; have f5_ := f3_.symm; clear f1_ f2_ f3_; subst f4_; subst f5_))
                            refine start_ (n := 17) (S := fun w' => w'.cell? ⟨gb157, 0, none⟩ = some (.int .i64 t154) ∧ w'.cell? ⟨gb157, 1, none⟩ = some (.int .i64 t155)) (ds := []) #[false, false, false, false, false, false, false, false, false, false, false, false, false, false, false, false, false] (by kernel_rfl) rfl rfl ⟨(blk_cell BK157.out 0).trans rfl, (blk_cell BK157.out 1).trans rfl⟩ (fun hHeld => ?_); refine with_tabW transhumancelaw7_DentLacks.tab18 transhumancelaw7_DentLacks.bits18 (fun HT_ HW_ => ?_)
                            generalize w29.drew = w30 at HO153 BK157 HB hHeld ⊢
                            refine pure_ (i := 0) (N := some 50) (v := ?_) (a' := ?_) #[true, false, false, false, false, false, false, false, false, false, false, false, false, false, false, false, false] rfl rfl (any_of HT_.out (by kernel_rfl)) (fun _ _ _ h => h) (Or.inl ⟨by rfl, ?_⟩) ?_ ?_
                            rotate_left
                            · intro w'
                              go_simp
                              with_reducible rfl
                            rotate_left
                            · simp only [Act.put, List.setIfInBounds_toArray, List.set_cons_zero, List.set_cons_succ, i64_w, i32_w]
                              rfl
                            refine pure_ (i := 1) (N := some 51) (v := ?_) (a' := ?_) #[true, true, false, false, false, false, false, false, false, false, false, false, false, false, false, false, false] rfl rfl (any_of HT_.out (by kernel_rfl)) (fun _ _ _ h => h) (Or.inl ⟨by rfl, ?_⟩) ?_ ?_
                            rotate_left
                            · intro w'
                              go_simp
                              with_reducible rfl
                            rotate_left
                            · simp only [Act.put, List.setIfInBounds_toArray, List.set_cons_zero, List.set_cons_succ, i64_w, i32_w]
                              rfl
                            refine pure_ (i := 2) (N := some 52) (v := ?_) (a' := ?_) #[true, true, true, false, false, false, false, false, false, false, false, false, false, false, false, false, false] rfl rfl (any_of HT_.out (by kernel_rfl)) (fun _ _ _ h => h) (Or.inl ⟨by rfl, ?_⟩) ?_ ?_
                            rotate_left
                            · intro w'
                              go_simp
                              with_reducible rfl
                            rotate_left
                            · simp only [Act.put, List.setIfInBounds_toArray, List.set_cons_zero, List.set_cons_succ, i64_w, i32_w]
                              rfl
                            refine pure_ (i := 3) (N := some 53) (v := ?_) (a' := ?_) #[true, true, true, true, false, false, false, false, false, false, false, false, false, false, false, false, false] rfl rfl (any_of HT_.out (by kernel_rfl)) (fun _ _ _ h => h) (Or.inl ⟨by rfl, ?_⟩) ?_ ?_
                            rotate_left
                            · intro w'
                              go_simp
                              with_reducible rfl
                            rotate_left
                            · simp only [Act.put, List.setIfInBounds_toArray, List.set_cons_zero, List.set_cons_succ, i64_w, i32_w]
                              rfl
                            refine pure_ (i := 4) (N := some 54) (v := ?_) (a' := ?_) #[true, true, true, true, true, false, false, false, false, false, false, false, false, false, false, false, false] rfl rfl (any_of HT_.out (by kernel_rfl)) (fun _ _ _ h => h) (Or.inl ⟨by rfl, ?_⟩) ?_ ?_
                            rotate_left
                            · intro w'
                              go_simp
                              with_reducible rfl
                            rotate_left
                            · simp only [Act.put, List.setIfInBounds_toArray, List.set_cons_zero, List.set_cons_succ, i64_w, i32_w]
                              rfl
                            refine pure_ (i := 5) (N := some 55) (v := ?_) (a' := ?_) #[true, true, true, true, true, true, false, false, false, false, false, false, false, false, false, false, false] rfl rfl (any_of HT_.out (by kernel_rfl)) (fun _ _ _ h => h) (Or.inl ⟨by rfl, ?_⟩) ?_ ?_
                            rotate_left
                            · intro w'
                              go_simp
                              with_reducible rfl
                            rotate_left
                            · simp only [Act.put, List.setIfInBounds_toArray, List.set_cons_zero, List.set_cons_succ, i64_w, i32_w]
                              rfl
                            refine pure_ (i := 6) (N := some 56) (v := ?_) (a' := ?_) #[true, true, true, true, true, true, true, false, false, false, false, false, false, false, false, false, false] rfl rfl (any_of HT_.out (by kernel_rfl)) (fun _ _ _ h => h) (Or.inl ⟨by rfl, ?_⟩) ?_ ?_
                            rotate_left
                            · intro w'
                              go_simp
                              with_reducible rfl
                            rotate_left
                            · simp only [Act.put, List.setIfInBounds_toArray, List.set_cons_zero, List.set_cons_succ, i64_w, i32_w]
                              rfl
                            refine pure_ (i := 7) (N := some 57) (v := ?_) (a' := ?_) #[true, true, true, true, true, true, true, true, false, false, false, false, false, false, false, false, false] rfl rfl (any_of HT_.out (by kernel_rfl)) (fun _ _ _ h => h) (Or.inl ⟨by rfl, ?_⟩) ?_ ?_
                            rotate_left
                            · intro w'
                              go_simp
                              with_reducible rfl
                            rotate_left
                            · simp only [Act.put, List.setIfInBounds_toArray, List.set_cons_zero, List.set_cons_succ, i64_w, i32_w]
                              rfl
                            refine pure_ (i := 8) (N := some 58) (v := ?_) (a' := ?_) #[true, true, true, true, true, true, true, true, true, false, false, false, false, false, false, false, false] rfl rfl (any_of HT_.out (by kernel_rfl)) (fun _ _ _ h => h) (Or.inl ⟨by rfl, ?_⟩) ?_ ?_
                            rotate_left
                            · intro w'
                              go_simp
                              with_reducible rfl
                            rotate_left
                            · simp only [Act.put, List.setIfInBounds_toArray, List.set_cons_zero, List.set_cons_succ, i64_w, i32_w]
                              rfl
                            refine pure_ (i := 10) (N := some 60) (v := ?_) (a' := ?_) #[true, true, true, true, true, true, true, true, true, false, true, false, false, false, false, false, false] rfl rfl (any_of HT_.out (by kernel_rfl)) (fun _ _ _ h => h) (Or.inl ⟨by rfl, ?_⟩) ?_ ?_
                            rotate_left
                            · intro w'
                              go_simp
                              with_reducible rfl
                            rotate_left
                            · simp only [Act.put, List.setIfInBounds_toArray, List.set_cons_zero, List.set_cons_succ, i64_w, i32_w]
                              rfl
                            refine pure_ (i := 11) (N := some 61) (v := ?_) (a' := ?_) #[true, true, true, true, true, true, true, true, true, false, true, true, false, false, false, false, false] rfl rfl (any_of HT_.out (by kernel_rfl)) (fun _ _ _ h => h) (Or.inl ⟨by rfl, ?_⟩) ?_ ?_
                            rotate_left
                            · intro w'
                              go_simp
                              with_reducible rfl
                            rotate_left
                            · simp only [Act.put, List.setIfInBounds_toArray, List.set_cons_zero, List.set_cons_succ, i64_w, i32_w]
                              rfl
                            refine pure_ (i := 12) (N := some 62) (v := ?_) (a' := ?_) #[true, true, true, true, true, true, true, true, true, false, true, true, true, false, false, false, false] rfl rfl (any_of HT_.out (by kernel_rfl)) (fun _ _ _ h => h) (Or.inl ⟨by rfl, ?_⟩) ?_ ?_
                            rotate_left
                            · intro w'
                              go_simp
                              with_reducible rfl
                            rotate_left
                            · simp only [Act.put, List.setIfInBounds_toArray, List.set_cons_zero, List.set_cons_succ, i64_w, i32_w]
                              rfl
                            refine take_ (i := 9) (N := some 59) (v := ?_) (a' := ?_) #[true, true, true, true, true, true, true, true, true, true, true, true, true, false, false, false, false] rfl rfl (take_ofW HT_.out HW_.out (by kernel_rfl)) (fun _ _ _ h => h) (Or.inl ⟨by rfl, ?_⟩) hHeld ?_ ?_
                            rotate_left
                            · rintro w' ⟨s0, s1⟩
                              go_simp
                              with_reducible rfl
                            rotate_left
                            · simp only [Act.put, List.setIfInBounds_toArray, List.set_cons_zero, List.set_cons_succ, i64_w, i32_w]
                              rfl
                            refine one_ (i := 13) (N := some 63) #[true, true, true, true, true, true, true, true, true, true, true, true, true, true, false, false, false] rfl rfl (one_of HT_.out (by kernel_rfl)) (by decide) (fun K hK => ?_)
                            refine goes_ Tryd.func9 (by kernel_rfl) rfl #[.string x11_17, .int .i64 (((⟨#[108, 111, 99, 107, 115, 58, 10]⟩ : ByteArray) ++ x9_1).size : Int)] (by rfl) rfl rfl (by (try simp only [List.map_toArray, List.map_cons, List.map_nil]); first | done | rfl | (simp only [ByteArray.size_append, Int.natCast_add]; first | done | rfl) | (trace_state; sorry)) ?_
                            with_reducible refine (transhumanceref1_Place.calls kj17 x11_17 (((⟨#[108, 111, 99, 107, 115, 58, 10]⟩ : ByteArray) ++ x9_1).size : Int) t158 t159 _ A25.out).mono ?_
                            rintro e w32 ⟨rfl, hb⟩
                            refine ⟨_, rfl, ?_⟩
                            have n0_ := Aside0.mk (Kd.R_below (by (with_reducible repeat (first | apply Kd.R_alloc | apply Kd.R_drewN | apply Kd.R_drew)); exact HO153.out) hb)
                            have n1_ := Aside0.mk (blk_below (g := gb157) (o := .cells #[.int .i64 t154, .int .i64 t155] 27 (0, 0)) (by (with_reducible repeat (first | refine blk_drewN ?_ _ | refine blk_drew ?_ | refine blk_alloc ?_ _)); exact BK157.out) hb)
                            have n2_ := Aside0.mk (below_step (by repeat (first | (with_reducible first | exact HB.out | apply below_alloc | apply pw_below_drewN | apply below_drew1 | refine below_set ?_ GE157.out) | exact HB.out)) hb)
                            clear HO153
                            clear BK157
                            clear HB
                            have HO153 := n0_
                            have BK157 := n1_
                            have HB := n2_
                            clear n0_ n1_ n2_
                            (try clear hb)
                            (try clear hb2)
                            (try clear hk)
                            (try clear hi)
                            refine hK.out _ _ ⟨(blk_cell BK157.out 0).trans rfl, (blk_cell BK157.out 1).trans rfl⟩ (fun hHeld => ?_)
                            clear hK K
                            refine norm_ (a' := ?_) ?_ ?_
                            rotate_left
                            · show Act.put _ (some 63) _ = _
                              simp only [Act.put, List.setIfInBounds_toArray, List.set_cons_zero, List.set_cons_succ, i64_w, i32_w]
                              rfl
                            refine pure_ (i := 14) (N := some 64) (v := ?_) (a' := ?_) #[true, true, true, true, true, true, true, true, true, true, true, true, true, true, true, false, false] rfl rfl (any_of HT_.out (by kernel_rfl)) (fun _ _ _ h => h) (Or.inl ⟨by rfl, ?_⟩) ?_ ?_
                            rotate_left
                            · intro w'
                              go_simp
                              with_reducible rfl
                            rotate_left
                            · simp only [Act.put, List.setIfInBounds_toArray, List.set_cons_zero, List.set_cons_succ, i64_w, i32_w]
                              rfl
                            refine pure_ (i := 15) (N := some 65) (v := ?_) (a' := ?_) #[true, true, true, true, true, true, true, true, true, true, true, true, true, true, true, true, false] rfl rfl (any_of HT_.out (by kernel_rfl)) (fun _ _ _ h => h) (Or.inl ⟨by rfl, ?_⟩) ?_ ?_
                            rotate_left
                            · intro w'
                              go_simp
                              with_reducible rfl
                            rotate_left
                            · simp only [Act.put, List.setIfInBounds_toArray, List.set_cons_zero, List.set_cons_succ, i64_w, i32_w]
                              rfl
                            refine pure_ (i := 16) (N := some 6) (v := ?_) (a' := ?_) #[true, true, true, true, true, true, true, true, true, true, true, true, true, true, true, true, true] rfl rfl (any_of HT_.out (by kernel_rfl)) (fun _ _ _ h => h) (Or.inl ⟨by rfl, ?_⟩) ?_ ?_
                            rotate_left
                            · intro w'
                              go_simp
                              with_reducible rfl
                            rotate_left
                            · simp only [Act.put, List.setIfInBounds_toArray, List.set_cons_zero, List.set_cons_succ, i64_w, i32_w]
                              rfl
                            refine done_ (done_of HT_.out (by kernel_rfl)) ?_
                            try go_wp2
                            go_ret
                            exact ⟨by first | rfl | (simp [errW_none, errW_some] <;> rfl) | (simp [*, errW_none, errW_some] <;> rfl), by repeat (first | (with_reducible first | exact HB.out | apply below_alloc | apply pw_below_drewN | apply below_drew1 | refine below_set ?_ GE157.out) | exact HB.out)⟩
                          · rw [if_neg c24] at H
                            have c24b0 : ((t151.length : Int) == 0) = false := beq_eq_false_iff_ne.mpr c24
                            have c24b1 : ((t151.length : Int) != 0) = true := bne_iff_ne.mpr c24
                            have c24b2 : ¬ (t151 = []) := fun h_ => c24 (by rw [h_]; rfl)
                            obtain rfl := Option.some.inj H
                            try go_wp2_with (first | ((with_reducible refine gate_callee (f := 8) rfl ?_); refine goesL_ (some 44) rfl rfl Tryd.func8 (by kernel_rfl) rfl #[.string x11_17] rfl (by (try simp only [List.map_toArray, List.map_cons, List.map_nil]); first | done | rfl | (simp only [List.length_drop, List.length_take]; rfl)) ?_; (with_reducible refine (dent_Locks.calls x11_17 t151 t154 t155 t156 _ ?side1 A21.out).mono ?_); (case side1 => exact GL.below0 hG (by repeat (first | (with_reducible first | exact HB.out | apply below_alloc | apply pw_below_drewN | apply below_drew1) | exact HB.out))); rintro e w33 ⟨v152, rfl, ho0, hb⟩; refine ⟨_, rfl, ?_⟩; have n0_ := Aside0.mk (Kd.R_lower ho0 (below_size (by repeat (first | (with_reducible first | exact HB.out | apply below_alloc | apply pw_below_drewN | apply below_drew1) | exact HB.out)))); have n1_ := Aside0.mk (below_step (by repeat (first | (with_reducible first | exact HB.out | apply below_alloc | apply pw_below_drewN | apply below_drew1) | exact HB.out)) hb); clear HB; have HO153 := n0_; have HB := n1_; clear n0_ n1_; (try clear hb); (try clear hb2); (try clear hk); (try clear hi); (try clear ho0)) | ((with_reducible refine gate_dst (N := 13) rfl ?_); (try (refine gate_guard (by rfl) ?_; dsimp only)); refine box_event ?hg (N := 13) ?hd (cs := #[.int .i64 0, .int .i64 0]) (t := 27) ?hr ?_; (case hd => rfl); (case hg => rfl); (case hr => first | (go_simp; done) | (go_simp; rfl)); intro gb157 hg w34 hbox hb; have n0_ := Aside0.mk (Kd.R_below (by (with_reducible repeat (first | apply Kd.R_alloc | apply Kd.R_drewN | apply Kd.R_drew)); exact HO153.out) hb); have n1_ := Aside0.mk (below_step (by repeat (first | (with_reducible first | exact HB.out | apply below_alloc | apply pw_below_drewN | apply below_drew1) | exact HB.out)) hb); have n2_ := Aside0.mk (hbox); have n3_ := Aside0.mk ((by rw [hg]; exact (below_size (by repeat (first | (with_reducible first | exact HB.out | apply below_alloc | apply pw_below_drewN | apply below_drew1) | exact HB.out))) : w.heap.size ≤ gb157)); have n4_ := Aside0.mk ((by rw [hg]; exact (below_size (by repeat (first | (with_reducible first | exact HB.out | apply below_alloc | apply pw_below_drewN | apply below_drew1) | exact HB.out))) : w.heap.size ≤ gb157)); clear HO153; clear HB; have HO153 := n0_; have HB := n1_; have BK157 := n2_; have GW157 := n3_; have GE157 := n4_; clear n0_ n1_ n2_ n3_ n4_; clear hb hbox hg; have hcz35_0 : w34.cell? ⟨gb157, 0, none⟩ = some (.int .i64 0) := (blk_cell BK157.out 0).trans rfl; have hcz35_1 : w34.cell? ⟨gb157, 1, none⟩ = some (.int .i64 0) := (blk_cell BK157.out 1).trans rfl; have hfz35_0 := blk_frozen BK157.out 0; have hfz35_1 := blk_frozen BK157.out 1))
                            have n0_ : Aside0 (Kd.R k38 38 ((w34.setCell ⟨gb157, 0, none⟩ (.int .i64 t154)).setCell ⟨gb157, 1, none⟩ (.int .i64 t155)) w.heap.size (fun _ => True) v152 t151) := ⟨by (with_reducible repeat (first | apply Kd.R_alloc | apply Kd.R_drewN | apply Kd.R_drew)); exact Kd.R_mono (Kd.R_far (p := ⟨gb157, 1, none⟩) (Kd.R_far (p := ⟨gb157, 0, none⟩) (Kd.R_types HO153.out BK157.out (by decide)) (fun _ hk => hk.2) (.int .i64 t154)) (fun _ hk => hk.2) (.int .i64 t155)) (fun _ hk => trivial)⟩
                            have n1_ : Aside0 (((w34.setCell ⟨gb157, 0, none⟩ (.int .i64 t154)).setCell ⟨gb157, 1, none⟩ (.int .i64 t155)).heap[gb157]? = some (.cells #[.int .i64 t154, .int .i64 t155] 27 (0, 0))) := ⟨by (with_reducible repeat (first | refine blk_drewN ?_ _ | refine blk_drew ?_ | refine blk_alloc ?_ _)); refine blk_put (cs := #[.int .i64 t154, .int .i64 0]) ?_ 1 _ rfl; (with_reducible repeat (first | refine blk_drewN ?_ _ | refine blk_drew ?_ | refine blk_alloc ?_ _)); refine blk_put (cs := #[.int .i64 0, .int .i64 0]) ?_ 0 _ rfl; (with_reducible repeat (first | refine blk_drewN ?_ _ | refine blk_drew ?_ | refine blk_alloc ?_ _)); exact BK157.out⟩
                            have n2_ : Aside0 (Below w.heap.size w ((w34.setCell ⟨gb157, 0, none⟩ (.int .i64 t154)).setCell ⟨gb157, 1, none⟩ (.int .i64 t155))) := ⟨by repeat (first | (with_reducible first | exact HB.out | apply below_alloc | apply pw_below_drewN | apply below_drew1 | refine below_set ?_ GE157.out) | exact HB.out)⟩
                            (try clear HO153)
                            (try clear BK157)
                            (try clear HB)
                            generalize ((w34.setCell ⟨gb157, 0, none⟩ (.int .i64 t154)).setCell ⟨gb157, 1, none⟩ (.int .i64 t155)) = w36 at n0_ n1_ n2_ ⊢
                            have HO153 := n0_
                            have BK157 := n1_
                            have HB := n2_
                            clear n0_ n1_ n2_
                            have n0_ := Aside0.mk (Kd.R_drew HO153.out)
                            have n1_ := Aside0.mk (blk_drew BK157.out)
                            have n2_ := Aside0.mk (below_drew1 HB.out)
                            clear HO153
                            clear BK157
                            clear HB
                            have HO153 := n0_
                            have BK157 := n1_
                            have HB := n2_
                            clear n0_ n1_ n2_
                            obtain ⟨Ao38, co38, eo38⟩ := Kd.R_slice HO153.out
                            (first | subst eo38 | (injection eo38 with f1_ f2_ f3_; have f4_ := f1_.symm; have f5_ := f3_.symm; clear f1_ f2_ f3_; subst f4_; subst f5_))
                            refine start_ (n := 17) (S := fun w' => True) (ds := []) #[false, false, false, false, false, false, false, false, false, false, false, false, false, false, false, false, false] (by kernel_rfl) rfl rfl trivial (fun hHeld => ?_); refine with_tabW transhumancelaw7_DentLacks.tab18 transhumancelaw7_DentLacks.bits18 (fun HT_ HW_ => ?_)
                            generalize w36.drew = w37 at HO153 BK157 HB hHeld ⊢
                            refine pure_ (i := 0) (N := some 50) (v := ?_) (a' := ?_) #[true, false, false, false, false, false, false, false, false, false, false, false, false, false, false, false, false] rfl rfl (any_of HT_.out (by kernel_rfl)) (fun _ _ _ h => h) (Or.inl ⟨by rfl, ?_⟩) ?_ ?_
                            rotate_left
                            · intro w'
                              go_simp
                              with_reducible rfl
                            rotate_left
                            · simp only [Act.put, List.setIfInBounds_toArray, List.set_cons_zero, List.set_cons_succ, i64_w, i32_w]
                              rfl
                            refine pure_ (i := 1) (N := some 51) (v := ?_) (a' := ?_) #[true, true, false, false, false, false, false, false, false, false, false, false, false, false, false, false, false] rfl rfl (any_of HT_.out (by kernel_rfl)) (fun _ _ _ h => h) (Or.inl ⟨by rfl, ?_⟩) ?_ ?_
                            rotate_left
                            · intro w'
                              go_simp
                              with_reducible rfl
                            rotate_left
                            · simp only [Act.put, List.setIfInBounds_toArray, List.set_cons_zero, List.set_cons_succ, i64_w, i32_w]
                              rfl
                            refine pure_ (i := 2) (N := some 52) (v := ?_) (a' := ?_) #[true, true, true, false, false, false, false, false, false, false, false, false, false, false, false, false, false] rfl rfl (any_of HT_.out (by kernel_rfl)) (fun _ _ _ h => h) (Or.inl ⟨by rfl, ?_⟩) ?_ ?_
                            rotate_left
                            · intro w'
                              go_simp
                              with_reducible rfl
                            rotate_left
                            · simp only [Act.put, List.setIfInBounds_toArray, List.set_cons_zero, List.set_cons_succ, i64_w, i32_w]
                              rfl
                            refine pure_ (i := 3) (N := some 53) (v := ?_) (a' := ?_) #[true, true, true, true, false, false, false, false, false, false, false, false, false, false, false, false, false] rfl rfl (any_of HT_.out (by kernel_rfl)) (fun _ _ _ h => h) (Or.inl ⟨by rfl, ?_⟩) ?_ ?_
                            rotate_left
                            · intro w'
                              go_simp
                              with_reducible rfl
                            rotate_left
                            · simp only [Act.put, List.setIfInBounds_toArray, List.set_cons_zero, List.set_cons_succ, i64_w, i32_w]
                              rfl
                            refine pure_ (i := 4) (N := some 54) (v := ?_) (a' := ?_) #[true, true, true, true, true, false, false, false, false, false, false, false, false, false, false, false, false] rfl rfl (any_of HT_.out (by kernel_rfl)) (fun _ _ _ h => h) (Or.inl ⟨by rfl, ?_⟩) ?_ ?_
                            rotate_left
                            · intro w'
                              go_simp
                              with_reducible rfl
                            rotate_left
                            · simp only [Act.put, List.setIfInBounds_toArray, List.set_cons_zero, List.set_cons_succ, i64_w, i32_w]
                              rfl
                            refine pure_ (i := 5) (N := some 55) (v := ?_) (a' := ?_) #[true, true, true, true, true, true, false, false, false, false, false, false, false, false, false, false, false] rfl rfl (any_of HT_.out (by kernel_rfl)) (fun _ _ _ h => h) (Or.inl ⟨by rfl, ?_⟩) ?_ ?_
                            rotate_left
                            · intro w'
                              go_simp
                              with_reducible rfl
                            rotate_left
                            · simp only [Act.put, List.setIfInBounds_toArray, List.set_cons_zero, List.set_cons_succ, i64_w, i32_w]
                              rfl
                            refine pure_ (i := 6) (N := some 56) (v := ?_) (a' := ?_) #[true, true, true, true, true, true, true, false, false, false, false, false, false, false, false, false, false] rfl rfl (any_of HT_.out (by kernel_rfl)) (fun _ _ _ h => h) (Or.inl ⟨by rfl, ?_⟩) ?_ ?_
                            rotate_left
                            · intro w'
                              go_simp
                              with_reducible rfl
                            rotate_left
                            · simp only [Act.put, List.setIfInBounds_toArray, List.set_cons_zero, List.set_cons_succ, i64_w, i32_w]
                              rfl
                            refine pure_ (i := 7) (N := some 57) (v := ?_) (a' := ?_) #[true, true, true, true, true, true, true, true, false, false, false, false, false, false, false, false, false] rfl rfl (any_of HT_.out (by kernel_rfl)) (fun _ _ _ h => h) (Or.inl ⟨by rfl, ?_⟩) ?_ ?_
                            rotate_left
                            · intro w'
                              go_simp
                              with_reducible rfl
                            rotate_left
                            · simp only [Act.put, List.setIfInBounds_toArray, List.set_cons_zero, List.set_cons_succ, i64_w, i32_w]
                              rfl
                            refine pure_ (i := 8) (N := some 58) (v := ?_) (a' := ?_) #[true, true, true, true, true, true, true, true, true, false, false, false, false, false, false, false, false] rfl rfl (any_of HT_.out (by kernel_rfl)) (fun _ _ _ h => h) (Or.inl ⟨by rfl, ?_⟩) ?_ ?_
                            rotate_left
                            · intro w'
                              go_simp
                              with_reducible rfl
                            rotate_left
                            · simp only [Act.put, List.setIfInBounds_toArray, List.set_cons_zero, List.set_cons_succ, i64_w, i32_w]
                              rfl
                            refine pure_ (i := 9) (N := some 59) (v := undef) (a' := ?_) #[true, true, true, true, true, true, true, true, true, true, false, false, false, false, false, false, false] rfl rfl (any_of HT_.out (by kernel_rfl)) (fun _ _ _ h => h) (Or.inr ⟨by rfl, rfl⟩) ?_ ?_
                            rotate_left
                            · simp only [Act.put, List.setIfInBounds_toArray, List.set_cons_zero, List.set_cons_succ, i64_w, i32_w]
                              rfl
                            refine pure_ (i := 10) (N := some 60) (v := undef) (a' := ?_) #[true, true, true, true, true, true, true, true, true, true, true, false, false, false, false, false, false] rfl rfl (any_of HT_.out (by kernel_rfl)) (fun _ _ _ h => h) (Or.inr ⟨by rfl, rfl⟩) ?_ ?_
                            rotate_left
                            · simp only [Act.put, List.setIfInBounds_toArray, List.set_cons_zero, List.set_cons_succ, i64_w, i32_w]
                              rfl
                            refine pure_ (i := 11) (N := some 61) (v := undef) (a' := ?_) #[true, true, true, true, true, true, true, true, true, true, true, true, false, false, false, false, false] rfl rfl (any_of HT_.out (by kernel_rfl)) (fun _ _ _ h => h) (Or.inr ⟨by rfl, rfl⟩) ?_ ?_
                            rotate_left
                            · simp only [Act.put, List.setIfInBounds_toArray, List.set_cons_zero, List.set_cons_succ, i64_w, i32_w]
                              rfl
                            refine pure_ (i := 12) (N := some 62) (v := undef) (a' := ?_) #[true, true, true, true, true, true, true, true, true, true, true, true, true, false, false, false, false] rfl rfl (any_of HT_.out (by kernel_rfl)) (fun _ _ _ h => h) (Or.inr ⟨by rfl, rfl⟩) ?_ ?_
                            rotate_left
                            · simp only [Act.put, List.setIfInBounds_toArray, List.set_cons_zero, List.set_cons_succ, i64_w, i32_w]
                              rfl
                            refine pure_ (i := 13) (N := some 63) (v := undef) (a' := ?_) #[true, true, true, true, true, true, true, true, true, true, true, true, true, true, false, false, false] rfl rfl (any_of HT_.out (by kernel_rfl)) (fun _ _ _ h => h) (Or.inr ⟨by rfl, rfl⟩) ?_ ?_
                            rotate_left
                            · simp only [Act.put, List.setIfInBounds_toArray, List.set_cons_zero, List.set_cons_succ, i64_w, i32_w]
                              rfl
                            refine pure_ (i := 14) (N := some 64) (v := undef) (a' := ?_) #[true, true, true, true, true, true, true, true, true, true, true, true, true, true, true, false, false] rfl rfl (any_of HT_.out (by kernel_rfl)) (fun _ _ _ h => h) (Or.inr ⟨by rfl, rfl⟩) ?_ ?_
                            rotate_left
                            · simp only [Act.put, List.setIfInBounds_toArray, List.set_cons_zero, List.set_cons_succ, i64_w, i32_w]
                              rfl
                            refine pure_ (i := 15) (N := some 65) (v := ?_) (a' := ?_) #[true, true, true, true, true, true, true, true, true, true, true, true, true, true, true, true, false] rfl rfl (any_of HT_.out (by kernel_rfl)) (fun _ _ _ h => h) (Or.inl ⟨by rfl, ?_⟩) ?_ ?_
                            rotate_left
                            · intro w'
                              go_simp
                              with_reducible rfl
                            rotate_left
                            · simp only [Act.put, List.setIfInBounds_toArray, List.set_cons_zero, List.set_cons_succ, i64_w, i32_w]
                              rfl
                            refine pure_ (i := 16) (N := some 6) (v := ?_) (a' := ?_) #[true, true, true, true, true, true, true, true, true, true, true, true, true, true, true, true, true] rfl rfl (any_of HT_.out (by kernel_rfl)) (fun _ _ _ h => h) (Or.inl ⟨by rfl, ?_⟩) ?_ ?_
                            rotate_left
                            · intro w'
                              go_simp
                              with_reducible rfl
                            rotate_left
                            · simp only [Act.put, List.setIfInBounds_toArray, List.set_cons_zero, List.set_cons_succ, i64_w, i32_w]
                              rfl
                            refine done_ (done_of HT_.out (by kernel_rfl)) ?_
                            try go_wp2
                            go_ret
                            exact ⟨by first | rfl | (simp [errW_none, errW_some] <;> rfl) | (simp [*, errW_none, errW_some] <;> rfl), by repeat (first | (with_reducible first | exact HB.out | apply below_alloc | apply pw_below_drewN | apply below_drew1 | refine below_set ?_ GE157.out) | exact HB.out)⟩
                        · rw [if_neg c23] at H
                          have c23b0 : (t156 == 4) = false := beq_eq_false_iff_ne.mpr c23
                          have c23b1 : (t156 != 4) = true := bne_iff_ne.mpr c23
                          obtain rfl := Option.some.inj H
                          try go_wp2_with (first | ((with_reducible refine gate_callee (f := 8) rfl ?_); refine goesL_ (some 44) rfl rfl Tryd.func8 (by kernel_rfl) rfl #[.string x11_17] rfl (by (try simp only [List.map_toArray, List.map_cons, List.map_nil]); first | done | rfl | (simp only [List.length_drop, List.length_take]; rfl)) ?_; (with_reducible refine (dent_Locks.calls x11_17 t151 t154 t155 t156 _ ?side1 A21.out).mono ?_); (case side1 => exact GL.below0 hG (by repeat (first | (with_reducible first | exact HB.out | apply below_alloc | apply pw_below_drewN | apply below_drew1) | exact HB.out))); rintro e w39 ⟨v152, rfl, ho0, hb⟩; refine ⟨_, rfl, ?_⟩; have n0_ := Aside0.mk (Kd.R_lower ho0 (below_size (by repeat (first | (with_reducible first | exact HB.out | apply below_alloc | apply pw_below_drewN | apply below_drew1) | exact HB.out)))); have n1_ := Aside0.mk (below_step (by repeat (first | (with_reducible first | exact HB.out | apply below_alloc | apply pw_below_drewN | apply below_drew1) | exact HB.out)) hb); clear HB; have HO153 := n0_; have HB := n1_; clear n0_ n1_; (try clear hb); (try clear hb2); (try clear hk); (try clear hi); (try clear ho0)) | ((with_reducible refine gate_dst (N := 13) rfl ?_); (try (refine gate_guard (by rfl) ?_; dsimp only)); refine box_event ?hg (N := 13) ?hd (cs := #[.int .i64 0, .int .i64 0]) (t := 27) ?hr ?_; (case hd => rfl); (case hg => rfl); (case hr => first | (go_simp; done) | (go_simp; rfl)); intro gb157 hg w40 hbox hb; have n0_ := Aside0.mk (Kd.R_below (by (with_reducible repeat (first | apply Kd.R_alloc | apply Kd.R_drewN | apply Kd.R_drew)); exact HO153.out) hb); have n1_ := Aside0.mk (below_step (by repeat (first | (with_reducible first | exact HB.out | apply below_alloc | apply pw_below_drewN | apply below_drew1) | exact HB.out)) hb); have n2_ := Aside0.mk (hbox); have n3_ := Aside0.mk ((by rw [hg]; exact (below_size (by repeat (first | (with_reducible first | exact HB.out | apply below_alloc | apply pw_below_drewN | apply below_drew1) | exact HB.out))) : w.heap.size ≤ gb157)); have n4_ := Aside0.mk ((by rw [hg]; exact (below_size (by repeat (first | (with_reducible first | exact HB.out | apply below_alloc | apply pw_below_drewN | apply below_drew1) | exact HB.out))) : w.heap.size ≤ gb157)); clear HO153; clear HB; have HO153 := n0_; have HB := n1_; have BK157 := n2_; have GW157 := n3_; have GE157 := n4_; clear n0_ n1_ n2_ n3_ n4_; clear hb hbox hg; have hcz41_0 : w40.cell? ⟨gb157, 0, none⟩ = some (.int .i64 0) := (blk_cell BK157.out 0).trans rfl; have hcz41_1 : w40.cell? ⟨gb157, 1, none⟩ = some (.int .i64 0) := (blk_cell BK157.out 1).trans rfl; have hfz41_0 := blk_frozen BK157.out 0; have hfz41_1 := blk_frozen BK157.out 1))
                          have n0_ : Aside0 (Kd.R k38 38 ((w40.setCell ⟨gb157, 0, none⟩ (.int .i64 t154)).setCell ⟨gb157, 1, none⟩ (.int .i64 t155)) w.heap.size (fun _ => True) v152 t151) := ⟨by (with_reducible repeat (first | apply Kd.R_alloc | apply Kd.R_drewN | apply Kd.R_drew)); exact Kd.R_mono (Kd.R_far (p := ⟨gb157, 1, none⟩) (Kd.R_far (p := ⟨gb157, 0, none⟩) (Kd.R_types HO153.out BK157.out (by decide)) (fun _ hk => hk.2) (.int .i64 t154)) (fun _ hk => hk.2) (.int .i64 t155)) (fun _ hk => trivial)⟩
                          have n1_ : Aside0 (((w40.setCell ⟨gb157, 0, none⟩ (.int .i64 t154)).setCell ⟨gb157, 1, none⟩ (.int .i64 t155)).heap[gb157]? = some (.cells #[.int .i64 t154, .int .i64 t155] 27 (0, 0))) := ⟨by (with_reducible repeat (first | refine blk_drewN ?_ _ | refine blk_drew ?_ | refine blk_alloc ?_ _)); refine blk_put (cs := #[.int .i64 t154, .int .i64 0]) ?_ 1 _ rfl; (with_reducible repeat (first | refine blk_drewN ?_ _ | refine blk_drew ?_ | refine blk_alloc ?_ _)); refine blk_put (cs := #[.int .i64 0, .int .i64 0]) ?_ 0 _ rfl; (with_reducible repeat (first | refine blk_drewN ?_ _ | refine blk_drew ?_ | refine blk_alloc ?_ _)); exact BK157.out⟩
                          have n2_ : Aside0 (Below w.heap.size w ((w40.setCell ⟨gb157, 0, none⟩ (.int .i64 t154)).setCell ⟨gb157, 1, none⟩ (.int .i64 t155))) := ⟨by repeat (first | (with_reducible first | exact HB.out | apply below_alloc | apply pw_below_drewN | apply below_drew1 | refine below_set ?_ GE157.out) | exact HB.out)⟩
                          (try clear HO153)
                          (try clear BK157)
                          (try clear HB)
                          generalize ((w40.setCell ⟨gb157, 0, none⟩ (.int .i64 t154)).setCell ⟨gb157, 1, none⟩ (.int .i64 t155)) = w42 at n0_ n1_ n2_ ⊢
                          have HO153 := n0_
                          have BK157 := n1_
                          have HB := n2_
                          clear n0_ n1_ n2_
                          have n0_ := Aside0.mk (Kd.R_drew HO153.out)
                          have n1_ := Aside0.mk (blk_drew BK157.out)
                          have n2_ := Aside0.mk (below_drew1 HB.out)
                          clear HO153
                          clear BK157
                          clear HB
                          have HO153 := n0_
                          have BK157 := n1_
                          have HB := n2_
                          clear n0_ n1_ n2_
                          refine start_ (n := 17) (S := fun w' => True) (ds := []) #[false, false, false, false, false, false, false, false, false, false, false, false, false, false, false, false, false] (by kernel_rfl) rfl rfl trivial (fun hHeld => ?_); refine with_tabW transhumancelaw7_DentLacks.tab18 transhumancelaw7_DentLacks.bits18 (fun HT_ HW_ => ?_)
                          generalize w42.drew = w43 at HO153 BK157 HB hHeld ⊢
                          refine pure_ (i := 0) (N := some 50) (v := ?_) (a' := ?_) #[true, false, false, false, false, false, false, false, false, false, false, false, false, false, false, false, false] rfl rfl (any_of HT_.out (by kernel_rfl)) (fun _ _ _ h => h) (Or.inl ⟨by rfl, ?_⟩) ?_ ?_
                          rotate_left
                          · intro w'
                            go_simp
                            with_reducible rfl
                          rotate_left
                          · simp only [Act.put, List.setIfInBounds_toArray, List.set_cons_zero, List.set_cons_succ, i64_w, i32_w]
                            rfl
                          refine pure_ (i := 1) (N := some 51) (v := ?_) (a' := ?_) #[true, true, false, false, false, false, false, false, false, false, false, false, false, false, false, false, false] rfl rfl (any_of HT_.out (by kernel_rfl)) (fun _ _ _ h => h) (Or.inl ⟨by rfl, ?_⟩) ?_ ?_
                          rotate_left
                          · intro w'
                            go_simp
                            with_reducible rfl
                          rotate_left
                          · simp only [Act.put, List.setIfInBounds_toArray, List.set_cons_zero, List.set_cons_succ, i64_w, i32_w]
                            rfl
                          refine pure_ (i := 2) (N := some 52) (v := ?_) (a' := ?_) #[true, true, true, false, false, false, false, false, false, false, false, false, false, false, false, false, false] rfl rfl (any_of HT_.out (by kernel_rfl)) (fun _ _ _ h => h) (Or.inl ⟨by rfl, ?_⟩) ?_ ?_
                          rotate_left
                          · intro w'
                            go_simp
                            with_reducible rfl
                          rotate_left
                          · simp only [Act.put, List.setIfInBounds_toArray, List.set_cons_zero, List.set_cons_succ, i64_w, i32_w]
                            rfl
                          refine pure_ (i := 3) (N := some 53) (v := ?_) (a' := ?_) #[true, true, true, true, false, false, false, false, false, false, false, false, false, false, false, false, false] rfl rfl (any_of HT_.out (by kernel_rfl)) (fun _ _ _ h => h) (Or.inl ⟨by rfl, ?_⟩) ?_ ?_
                          rotate_left
                          · intro w'
                            go_simp
                            with_reducible rfl
                          rotate_left
                          · simp only [Act.put, List.setIfInBounds_toArray, List.set_cons_zero, List.set_cons_succ, i64_w, i32_w]
                            rfl
                          refine pure_ (i := 4) (N := some 54) (v := undef) (a' := ?_) #[true, true, true, true, true, false, false, false, false, false, false, false, false, false, false, false, false] rfl rfl (any_of HT_.out (by kernel_rfl)) (fun _ _ _ h => h) (Or.inr ⟨by rfl, rfl⟩) ?_ ?_
                          rotate_left
                          · simp only [Act.put, List.setIfInBounds_toArray, List.set_cons_zero, List.set_cons_succ, i64_w, i32_w]
                            rfl
                          refine pure_ (i := 5) (N := some 55) (v := undef) (a' := ?_) #[true, true, true, true, true, true, false, false, false, false, false, false, false, false, false, false, false] rfl rfl (any_of HT_.out (by kernel_rfl)) (fun _ _ _ h => h) (Or.inr ⟨by rfl, rfl⟩) ?_ ?_
                          rotate_left
                          · simp only [Act.put, List.setIfInBounds_toArray, List.set_cons_zero, List.set_cons_succ, i64_w, i32_w]
                            rfl
                          refine pure_ (i := 6) (N := some 56) (v := undef) (a' := ?_) #[true, true, true, true, true, true, true, false, false, false, false, false, false, false, false, false, false] rfl rfl (any_of HT_.out (by kernel_rfl)) (fun _ _ _ h => h) (Or.inr ⟨by rfl, rfl⟩) ?_ ?_
                          rotate_left
                          · simp only [Act.put, List.setIfInBounds_toArray, List.set_cons_zero, List.set_cons_succ, i64_w, i32_w]
                            rfl
                          refine pure_ (i := 7) (N := some 57) (v := ?_) (a' := ?_) #[true, true, true, true, true, true, true, true, false, false, false, false, false, false, false, false, false] rfl rfl (any_of HT_.out (by kernel_rfl)) (fun _ _ _ h => h) (Or.inl ⟨by rfl, ?_⟩) ?_ ?_
                          rotate_left
                          · intro w'
                            go_simp
                            with_reducible rfl
                          rotate_left
                          · simp only [Act.put, List.setIfInBounds_toArray, List.set_cons_zero, List.set_cons_succ, i64_w, i32_w]
                            rfl
                          refine pure_ (i := 8) (N := some 58) (v := ?_) (a' := ?_) #[true, true, true, true, true, true, true, true, true, false, false, false, false, false, false, false, false] rfl rfl (any_of HT_.out (by kernel_rfl)) (fun _ _ _ h => h) (Or.inl ⟨by rfl, ?_⟩) ?_ ?_
                          rotate_left
                          · intro w'
                            go_simp
                            with_reducible rfl
                          rotate_left
                          · simp only [Act.put, List.setIfInBounds_toArray, List.set_cons_zero, List.set_cons_succ, i64_w, i32_w]
                            rfl
                          refine pure_ (i := 9) (N := some 59) (v := undef) (a' := ?_) #[true, true, true, true, true, true, true, true, true, true, false, false, false, false, false, false, false] rfl rfl (any_of HT_.out (by kernel_rfl)) (fun _ _ _ h => h) (Or.inr ⟨by rfl, rfl⟩) ?_ ?_
                          rotate_left
                          · simp only [Act.put, List.setIfInBounds_toArray, List.set_cons_zero, List.set_cons_succ, i64_w, i32_w]
                            rfl
                          refine pure_ (i := 10) (N := some 60) (v := undef) (a' := ?_) #[true, true, true, true, true, true, true, true, true, true, true, false, false, false, false, false, false] rfl rfl (any_of HT_.out (by kernel_rfl)) (fun _ _ _ h => h) (Or.inr ⟨by rfl, rfl⟩) ?_ ?_
                          rotate_left
                          · simp only [Act.put, List.setIfInBounds_toArray, List.set_cons_zero, List.set_cons_succ, i64_w, i32_w]
                            rfl
                          refine pure_ (i := 11) (N := some 61) (v := undef) (a' := ?_) #[true, true, true, true, true, true, true, true, true, true, true, true, false, false, false, false, false] rfl rfl (any_of HT_.out (by kernel_rfl)) (fun _ _ _ h => h) (Or.inr ⟨by rfl, rfl⟩) ?_ ?_
                          rotate_left
                          · simp only [Act.put, List.setIfInBounds_toArray, List.set_cons_zero, List.set_cons_succ, i64_w, i32_w]
                            rfl
                          refine pure_ (i := 12) (N := some 62) (v := undef) (a' := ?_) #[true, true, true, true, true, true, true, true, true, true, true, true, true, false, false, false, false] rfl rfl (any_of HT_.out (by kernel_rfl)) (fun _ _ _ h => h) (Or.inr ⟨by rfl, rfl⟩) ?_ ?_
                          rotate_left
                          · simp only [Act.put, List.setIfInBounds_toArray, List.set_cons_zero, List.set_cons_succ, i64_w, i32_w]
                            rfl
                          refine pure_ (i := 13) (N := some 63) (v := undef) (a' := ?_) #[true, true, true, true, true, true, true, true, true, true, true, true, true, true, false, false, false] rfl rfl (any_of HT_.out (by kernel_rfl)) (fun _ _ _ h => h) (Or.inr ⟨by rfl, rfl⟩) ?_ ?_
                          rotate_left
                          · simp only [Act.put, List.setIfInBounds_toArray, List.set_cons_zero, List.set_cons_succ, i64_w, i32_w]
                            rfl
                          refine pure_ (i := 14) (N := some 64) (v := undef) (a' := ?_) #[true, true, true, true, true, true, true, true, true, true, true, true, true, true, true, false, false] rfl rfl (any_of HT_.out (by kernel_rfl)) (fun _ _ _ h => h) (Or.inr ⟨by rfl, rfl⟩) ?_ ?_
                          rotate_left
                          · simp only [Act.put, List.setIfInBounds_toArray, List.set_cons_zero, List.set_cons_succ, i64_w, i32_w]
                            rfl
                          refine pure_ (i := 15) (N := some 65) (v := ?_) (a' := ?_) #[true, true, true, true, true, true, true, true, true, true, true, true, true, true, true, true, false] rfl rfl (any_of HT_.out (by kernel_rfl)) (fun _ _ _ h => h) (Or.inl ⟨by rfl, ?_⟩) ?_ ?_
                          rotate_left
                          · intro w'
                            go_simp
                            with_reducible rfl
                          rotate_left
                          · simp only [Act.put, List.setIfInBounds_toArray, List.set_cons_zero, List.set_cons_succ, i64_w, i32_w]
                            rfl
                          refine pure_ (i := 16) (N := some 6) (v := ?_) (a' := ?_) #[true, true, true, true, true, true, true, true, true, true, true, true, true, true, true, true, true] rfl rfl (any_of HT_.out (by kernel_rfl)) (fun _ _ _ h => h) (Or.inl ⟨by rfl, ?_⟩) ?_ ?_
                          rotate_left
                          · intro w'
                            go_simp
                            with_reducible rfl
                          rotate_left
                          · simp only [Act.put, List.setIfInBounds_toArray, List.set_cons_zero, List.set_cons_succ, i64_w, i32_w]
                            rfl
                          refine done_ (done_of HT_.out (by kernel_rfl)) ?_
                          try go_wp2
                          go_ret
                          exact ⟨by first | rfl | (simp [errW_none, errW_some] <;> rfl) | (simp [*, errW_none, errW_some] <;> rfl), by repeat (first | (with_reducible first | exact HB.out | apply below_alloc | apply pw_below_drewN | apply below_drew1 | refine below_set ?_ GE157.out) | exact HB.out)⟩
                      · rw [if_neg c22] at H
                        have c22b0 : (t145 == 3) = false := beq_eq_false_iff_ne.mpr c22
                        have c22b1 : (t145 != 3) = true := bne_iff_ne.mpr c22
                        by_cases c44 : t156 = 1
                        · rw [if_pos c44] at H
                          have c44b0 : (t156 == 1) = true := beq_iff_eq.mpr c44
                          have c44b1 : (t156 != 1) = false := bne_eq_false_iff_eq.mpr c44
                          clear c44
                          by_cases c45 : (t151.length : Int) = 0
                          · rw [if_pos c45] at H
                            have c45b0 : ((t151.length : Int) == 0) = true := beq_iff_eq.mpr c45
                            have c45b1 : ((t151.length : Int) != 0) = false := bne_eq_false_iff_eq.mpr c45
                            clear c45
                            replace H := Option.bind_eq_some_iff.mp H
                            obtain ⟨⟨t160, t161⟩, A460, H⟩ := H
                            replace H : (some (t154 == t160 && (t155 == t161))) = some r := H
                            have A46 := Aside0.mk A460
                            clear A460
                            obtain rfl := Option.some.inj H
                            try go_wp2_with (first | ((with_reducible refine gate_callee (f := 8) rfl ?_); refine goesL_ (some 44) rfl rfl Tryd.func8 (by kernel_rfl) rfl #[.string x11_17] rfl (by (try simp only [List.map_toArray, List.map_cons, List.map_nil]); first | done | rfl | (simp only [List.length_drop, List.length_take]; rfl)) ?_; (with_reducible refine (dent_Locks.calls x11_17 t151 t154 t155 t156 _ ?side1 A21.out).mono ?_); (case side1 => exact GL.below0 hG (by repeat (first | (with_reducible first | exact HB.out | apply below_alloc | apply pw_below_drewN | apply below_drew1) | exact HB.out))); rintro e w47 ⟨v152, rfl, ho0, hb⟩; refine ⟨_, rfl, ?_⟩; have n0_ := Aside0.mk (Kd.R_lower ho0 (below_size (by repeat (first | (with_reducible first | exact HB.out | apply below_alloc | apply pw_below_drewN | apply below_drew1) | exact HB.out)))); have n1_ := Aside0.mk (below_step (by repeat (first | (with_reducible first | exact HB.out | apply below_alloc | apply pw_below_drewN | apply below_drew1) | exact HB.out)) hb); clear HB; have HO153 := n0_; have HB := n1_; clear n0_ n1_; (try clear hb); (try clear hb2); (try clear hk); (try clear hi); (try clear ho0)) | ((with_reducible refine gate_dst (N := 13) rfl ?_); (try (refine gate_guard (by rfl) ?_; dsimp only)); refine box_event ?hg (N := 13) ?hd (cs := #[.int .i64 0, .int .i64 0]) (t := 27) ?hr ?_; (case hd => rfl); (case hg => rfl); (case hr => first | (go_simp; done) | (go_simp; rfl)); intro gb157 hg w48 hbox hb; have n0_ := Aside0.mk (Kd.R_below (by (with_reducible repeat (first | apply Kd.R_alloc | apply Kd.R_drewN | apply Kd.R_drew)); exact HO153.out) hb); have n1_ := Aside0.mk (below_step (by repeat (first | (with_reducible first | exact HB.out | apply below_alloc | apply pw_below_drewN | apply below_drew1) | exact HB.out)) hb); have n2_ := Aside0.mk (hbox); have n3_ := Aside0.mk ((by rw [hg]; exact (below_size (by repeat (first | (with_reducible first | exact HB.out | apply below_alloc | apply pw_below_drewN | apply below_drew1) | exact HB.out))) : w.heap.size ≤ gb157)); have n4_ := Aside0.mk ((by rw [hg]; exact (below_size (by repeat (first | (with_reducible first | exact HB.out | apply below_alloc | apply pw_below_drewN | apply below_drew1) | exact HB.out))) : w.heap.size ≤ gb157)); clear HO153; clear HB; have HO153 := n0_; have HB := n1_; have BK157 := n2_; have GW157 := n3_; have GE157 := n4_; clear n0_ n1_ n2_ n3_ n4_; clear hb hbox hg; have hcz49_0 : w48.cell? ⟨gb157, 0, none⟩ = some (.int .i64 0) := (blk_cell BK157.out 0).trans rfl; have hcz49_1 : w48.cell? ⟨gb157, 1, none⟩ = some (.int .i64 0) := (blk_cell BK157.out 1).trans rfl; have hfz49_0 := blk_frozen BK157.out 0; have hfz49_1 := blk_frozen BK157.out 1))
                            have n0_ : Aside0 (Kd.R k38 38 ((w48.setCell ⟨gb157, 0, none⟩ (.int .i64 t154)).setCell ⟨gb157, 1, none⟩ (.int .i64 t155)) w.heap.size (fun _ => True) v152 t151) := ⟨by (with_reducible repeat (first | apply Kd.R_alloc | apply Kd.R_drewN | apply Kd.R_drew)); exact Kd.R_mono (Kd.R_far (p := ⟨gb157, 1, none⟩) (Kd.R_far (p := ⟨gb157, 0, none⟩) (Kd.R_types HO153.out BK157.out (by decide)) (fun _ hk => hk.2) (.int .i64 t154)) (fun _ hk => hk.2) (.int .i64 t155)) (fun _ hk => trivial)⟩
                            have n1_ : Aside0 (((w48.setCell ⟨gb157, 0, none⟩ (.int .i64 t154)).setCell ⟨gb157, 1, none⟩ (.int .i64 t155)).heap[gb157]? = some (.cells #[.int .i64 t154, .int .i64 t155] 27 (0, 0))) := ⟨by (with_reducible repeat (first | refine blk_drewN ?_ _ | refine blk_drew ?_ | refine blk_alloc ?_ _)); refine blk_put (cs := #[.int .i64 t154, .int .i64 0]) ?_ 1 _ rfl; (with_reducible repeat (first | refine blk_drewN ?_ _ | refine blk_drew ?_ | refine blk_alloc ?_ _)); refine blk_put (cs := #[.int .i64 0, .int .i64 0]) ?_ 0 _ rfl; (with_reducible repeat (first | refine blk_drewN ?_ _ | refine blk_drew ?_ | refine blk_alloc ?_ _)); exact BK157.out⟩
                            have n2_ : Aside0 (Below w.heap.size w ((w48.setCell ⟨gb157, 0, none⟩ (.int .i64 t154)).setCell ⟨gb157, 1, none⟩ (.int .i64 t155))) := ⟨by repeat (first | (with_reducible first | exact HB.out | apply below_alloc | apply pw_below_drewN | apply below_drew1 | refine below_set ?_ GE157.out) | exact HB.out)⟩
                            (try clear HO153)
                            (try clear BK157)
                            (try clear HB)
                            generalize ((w48.setCell ⟨gb157, 0, none⟩ (.int .i64 t154)).setCell ⟨gb157, 1, none⟩ (.int .i64 t155)) = w50 at n0_ n1_ n2_ ⊢
                            have HO153 := n0_
                            have BK157 := n1_
                            have HB := n2_
                            clear n0_ n1_ n2_
                            have n0_ := Aside0.mk (Kd.R_drew HO153.out)
                            have n1_ := Aside0.mk (blk_drew BK157.out)
                            have n2_ := Aside0.mk (below_drew1 HB.out)
                            clear HO153
                            clear BK157
                            clear HB
                            have HO153 := n0_
                            have BK157 := n1_
                            have HB := n2_
                            clear n0_ n1_ n2_
                            obtain ⟨Ao52, co52, eo52⟩ := Kd.R_slice HO153.out
                            (first | subst eo52 | (injection eo52 with f1_ f2_ f3_; have f4_ := f1_.symm; have f5_ := f3_.symm; clear f1_ f2_ f3_; subst f4_; subst f5_))
                            refine start_ (n := 17) (S := fun w' => w'.cell? ⟨gb157, 0, none⟩ = some (.int .i64 t154) ∧ w'.cell? ⟨gb157, 1, none⟩ = some (.int .i64 t155)) (ds := []) #[false, false, false, false, false, false, false, false, false, false, false, false, false, false, false, false, false] (by kernel_rfl) rfl rfl ⟨(blk_cell BK157.out 0).trans rfl, (blk_cell BK157.out 1).trans rfl⟩ (fun hHeld => ?_); refine with_tabW transhumancelaw7_DentLacks.tab18 transhumancelaw7_DentLacks.bits18 (fun HT_ HW_ => ?_)
                            generalize w50.drew = w51 at HO153 BK157 HB hHeld ⊢
                            refine pure_ (i := 0) (N := some 50) (v := ?_) (a' := ?_) #[true, false, false, false, false, false, false, false, false, false, false, false, false, false, false, false, false] rfl rfl (any_of HT_.out (by kernel_rfl)) (fun _ _ _ h => h) (Or.inl ⟨by rfl, ?_⟩) ?_ ?_
                            rotate_left
                            · intro w'
                              go_simp
                              with_reducible rfl
                            rotate_left
                            · simp only [Act.put, List.setIfInBounds_toArray, List.set_cons_zero, List.set_cons_succ, i64_w, i32_w]
                              rfl
                            refine pure_ (i := 1) (N := some 51) (v := ?_) (a' := ?_) #[true, true, false, false, false, false, false, false, false, false, false, false, false, false, false, false, false] rfl rfl (any_of HT_.out (by kernel_rfl)) (fun _ _ _ h => h) (Or.inl ⟨by rfl, ?_⟩) ?_ ?_
                            rotate_left
                            · intro w'
                              go_simp
                              with_reducible rfl
                            rotate_left
                            · simp only [Act.put, List.setIfInBounds_toArray, List.set_cons_zero, List.set_cons_succ, i64_w, i32_w]
                              rfl
                            refine pure_ (i := 2) (N := some 52) (v := ?_) (a' := ?_) #[true, true, true, false, false, false, false, false, false, false, false, false, false, false, false, false, false] rfl rfl (any_of HT_.out (by kernel_rfl)) (fun _ _ _ h => h) (Or.inl ⟨by rfl, ?_⟩) ?_ ?_
                            rotate_left
                            · intro w'
                              go_simp
                              with_reducible rfl
                            rotate_left
                            · simp only [Act.put, List.setIfInBounds_toArray, List.set_cons_zero, List.set_cons_succ, i64_w, i32_w]
                              rfl
                            refine pure_ (i := 3) (N := some 53) (v := ?_) (a' := ?_) #[true, true, true, true, false, false, false, false, false, false, false, false, false, false, false, false, false] rfl rfl (any_of HT_.out (by kernel_rfl)) (fun _ _ _ h => h) (Or.inl ⟨by rfl, ?_⟩) ?_ ?_
                            rotate_left
                            · intro w'
                              go_simp
                              with_reducible rfl
                            rotate_left
                            · simp only [Act.put, List.setIfInBounds_toArray, List.set_cons_zero, List.set_cons_succ, i64_w, i32_w]
                              rfl
                            refine pure_ (i := 4) (N := some 54) (v := ?_) (a' := ?_) #[true, true, true, true, true, false, false, false, false, false, false, false, false, false, false, false, false] rfl rfl (any_of HT_.out (by kernel_rfl)) (fun _ _ _ h => h) (Or.inl ⟨by rfl, ?_⟩) ?_ ?_
                            rotate_left
                            · intro w'
                              go_simp
                              with_reducible rfl
                            rotate_left
                            · simp only [Act.put, List.setIfInBounds_toArray, List.set_cons_zero, List.set_cons_succ, i64_w, i32_w]
                              rfl
                            refine pure_ (i := 5) (N := some 55) (v := ?_) (a' := ?_) #[true, true, true, true, true, true, false, false, false, false, false, false, false, false, false, false, false] rfl rfl (any_of HT_.out (by kernel_rfl)) (fun _ _ _ h => h) (Or.inl ⟨by rfl, ?_⟩) ?_ ?_
                            rotate_left
                            · intro w'
                              go_simp
                              with_reducible rfl
                            rotate_left
                            · simp only [Act.put, List.setIfInBounds_toArray, List.set_cons_zero, List.set_cons_succ, i64_w, i32_w]
                              rfl
                            refine pure_ (i := 6) (N := some 56) (v := ?_) (a' := ?_) #[true, true, true, true, true, true, true, false, false, false, false, false, false, false, false, false, false] rfl rfl (any_of HT_.out (by kernel_rfl)) (fun _ _ _ h => h) (Or.inl ⟨by rfl, ?_⟩) ?_ ?_
                            rotate_left
                            · intro w'
                              go_simp
                              with_reducible rfl
                            rotate_left
                            · simp only [Act.put, List.setIfInBounds_toArray, List.set_cons_zero, List.set_cons_succ, i64_w, i32_w]
                              rfl
                            refine pure_ (i := 7) (N := some 57) (v := ?_) (a' := ?_) #[true, true, true, true, true, true, true, true, false, false, false, false, false, false, false, false, false] rfl rfl (any_of HT_.out (by kernel_rfl)) (fun _ _ _ h => h) (Or.inl ⟨by rfl, ?_⟩) ?_ ?_
                            rotate_left
                            · intro w'
                              go_simp
                              with_reducible rfl
                            rotate_left
                            · simp only [Act.put, List.setIfInBounds_toArray, List.set_cons_zero, List.set_cons_succ, i64_w, i32_w]
                              rfl
                            refine pure_ (i := 8) (N := some 58) (v := ?_) (a' := ?_) #[true, true, true, true, true, true, true, true, true, false, false, false, false, false, false, false, false] rfl rfl (any_of HT_.out (by kernel_rfl)) (fun _ _ _ h => h) (Or.inl ⟨by rfl, ?_⟩) ?_ ?_
                            rotate_left
                            · intro w'
                              go_simp
                              with_reducible rfl
                            rotate_left
                            · simp only [Act.put, List.setIfInBounds_toArray, List.set_cons_zero, List.set_cons_succ, i64_w, i32_w]
                              rfl
                            refine pure_ (i := 10) (N := some 60) (v := ?_) (a' := ?_) #[true, true, true, true, true, true, true, true, true, false, true, false, false, false, false, false, false] rfl rfl (any_of HT_.out (by kernel_rfl)) (fun _ _ _ h => h) (Or.inl ⟨by rfl, ?_⟩) ?_ ?_
                            rotate_left
                            · intro w'
                              go_simp
                              with_reducible rfl
                            rotate_left
                            · simp only [Act.put, List.setIfInBounds_toArray, List.set_cons_zero, List.set_cons_succ, i64_w, i32_w]
                              rfl
                            refine pure_ (i := 11) (N := some 61) (v := ?_) (a' := ?_) #[true, true, true, true, true, true, true, true, true, false, true, true, false, false, false, false, false] rfl rfl (any_of HT_.out (by kernel_rfl)) (fun _ _ _ h => h) (Or.inl ⟨by rfl, ?_⟩) ?_ ?_
                            rotate_left
                            · intro w'
                              go_simp
                              with_reducible rfl
                            rotate_left
                            · simp only [Act.put, List.setIfInBounds_toArray, List.set_cons_zero, List.set_cons_succ, i64_w, i32_w]
                              rfl
                            refine pure_ (i := 12) (N := some 62) (v := ?_) (a' := ?_) #[true, true, true, true, true, true, true, true, true, false, true, true, true, false, false, false, false] rfl rfl (any_of HT_.out (by kernel_rfl)) (fun _ _ _ h => h) (Or.inl ⟨by rfl, ?_⟩) ?_ ?_
                            rotate_left
                            · intro w'
                              go_simp
                              with_reducible rfl
                            rotate_left
                            · simp only [Act.put, List.setIfInBounds_toArray, List.set_cons_zero, List.set_cons_succ, i64_w, i32_w]
                              rfl
                            refine take_ (i := 9) (N := some 59) (v := ?_) (a' := ?_) #[true, true, true, true, true, true, true, true, true, true, true, true, true, false, false, false, false] rfl rfl (take_ofW HT_.out HW_.out (by kernel_rfl)) (fun _ _ _ h => h) (Or.inl ⟨by rfl, ?_⟩) hHeld ?_ ?_
                            rotate_left
                            · rintro w' ⟨s0, s1⟩
                              go_simp
                              with_reducible rfl
                            rotate_left
                            · simp only [Act.put, List.setIfInBounds_toArray, List.set_cons_zero, List.set_cons_succ, i64_w, i32_w]
                              rfl
                            refine one_ (i := 13) (N := some 63) #[true, true, true, true, true, true, true, true, true, true, true, true, true, true, false, false, false] rfl rfl (one_of HT_.out (by kernel_rfl)) (by decide) (fun K hK => ?_)
                            refine goes_ Tryd.func9 (by kernel_rfl) rfl #[.string x11_17, .int .i64 (((⟨#[108, 111, 99, 107, 115, 58, 10]⟩ : ByteArray) ++ x9_1).size : Int)] (by rfl) rfl rfl (by (try simp only [List.map_toArray, List.map_cons, List.map_nil]); first | done | rfl | (simp only [ByteArray.size_append, Int.natCast_add]; first | done | rfl) | (trace_state; sorry)) ?_
                            with_reducible refine (transhumanceref1_Place.calls kj17 x11_17 (((⟨#[108, 111, 99, 107, 115, 58, 10]⟩ : ByteArray) ++ x9_1).size : Int) t160 t161 _ A46.out).mono ?_
                            rintro e w53 ⟨rfl, hb⟩
                            refine ⟨_, rfl, ?_⟩
                            have n0_ := Aside0.mk (Kd.R_below (by (with_reducible repeat (first | apply Kd.R_alloc | apply Kd.R_drewN | apply Kd.R_drew)); exact HO153.out) hb)
                            have n1_ := Aside0.mk (blk_below (g := gb157) (o := .cells #[.int .i64 t154, .int .i64 t155] 27 (0, 0)) (by (with_reducible repeat (first | refine blk_drewN ?_ _ | refine blk_drew ?_ | refine blk_alloc ?_ _)); exact BK157.out) hb)
                            have n2_ := Aside0.mk (below_step (by repeat (first | (with_reducible first | exact HB.out | apply below_alloc | apply pw_below_drewN | apply below_drew1 | refine below_set ?_ GE157.out) | exact HB.out)) hb)
                            clear HO153
                            clear BK157
                            clear HB
                            have HO153 := n0_
                            have BK157 := n1_
                            have HB := n2_
                            clear n0_ n1_ n2_
                            (try clear hb)
                            (try clear hb2)
                            (try clear hk)
                            (try clear hi)
                            refine hK.out _ _ ⟨(blk_cell BK157.out 0).trans rfl, (blk_cell BK157.out 1).trans rfl⟩ (fun hHeld => ?_)
                            clear hK K
                            refine norm_ (a' := ?_) ?_ ?_
                            rotate_left
                            · show Act.put _ (some 63) _ = _
                              simp only [Act.put, List.setIfInBounds_toArray, List.set_cons_zero, List.set_cons_succ, i64_w, i32_w]
                              rfl
                            refine pure_ (i := 14) (N := some 64) (v := ?_) (a' := ?_) #[true, true, true, true, true, true, true, true, true, true, true, true, true, true, true, false, false] rfl rfl (any_of HT_.out (by kernel_rfl)) (fun _ _ _ h => h) (Or.inl ⟨by rfl, ?_⟩) ?_ ?_
                            rotate_left
                            · intro w'
                              go_simp
                              with_reducible rfl
                            rotate_left
                            · simp only [Act.put, List.setIfInBounds_toArray, List.set_cons_zero, List.set_cons_succ, i64_w, i32_w]
                              rfl
                            refine pure_ (i := 15) (N := some 65) (v := ?_) (a' := ?_) #[true, true, true, true, true, true, true, true, true, true, true, true, true, true, true, true, false] rfl rfl (any_of HT_.out (by kernel_rfl)) (fun _ _ _ h => h) (Or.inl ⟨by rfl, ?_⟩) ?_ ?_
                            rotate_left
                            · intro w'
                              go_simp
                              with_reducible rfl
                            rotate_left
                            · simp only [Act.put, List.setIfInBounds_toArray, List.set_cons_zero, List.set_cons_succ, i64_w, i32_w]
                              rfl
                            refine pure_ (i := 16) (N := some 6) (v := ?_) (a' := ?_) #[true, true, true, true, true, true, true, true, true, true, true, true, true, true, true, true, true] rfl rfl (any_of HT_.out (by kernel_rfl)) (fun _ _ _ h => h) (Or.inl ⟨by rfl, ?_⟩) ?_ ?_
                            rotate_left
                            · intro w'
                              go_simp
                              with_reducible rfl
                            rotate_left
                            · simp only [Act.put, List.setIfInBounds_toArray, List.set_cons_zero, List.set_cons_succ, i64_w, i32_w]
                              rfl
                            refine done_ (done_of HT_.out (by kernel_rfl)) ?_
                            try go_wp2
                            go_ret
                            exact ⟨by first | rfl | (simp [errW_none, errW_some] <;> rfl) | (simp [*, errW_none, errW_some] <;> rfl), by repeat (first | (with_reducible first | exact HB.out | apply below_alloc | apply pw_below_drewN | apply below_drew1 | refine below_set ?_ GE157.out) | exact HB.out)⟩
                          · rw [if_neg c45] at H
                            have c45b0 : ((t151.length : Int) == 0) = false := beq_eq_false_iff_ne.mpr c45
                            have c45b1 : ((t151.length : Int) != 0) = true := bne_iff_ne.mpr c45
                            have c45b2 : ¬ (t151 = []) := fun h_ => c45 (by rw [h_]; rfl)
                            obtain rfl := Option.some.inj H
                            try go_wp2_with (first | ((with_reducible refine gate_callee (f := 8) rfl ?_); refine goesL_ (some 44) rfl rfl Tryd.func8 (by kernel_rfl) rfl #[.string x11_17] rfl (by (try simp only [List.map_toArray, List.map_cons, List.map_nil]); first | done | rfl | (simp only [List.length_drop, List.length_take]; rfl)) ?_; (with_reducible refine (dent_Locks.calls x11_17 t151 t154 t155 t156 _ ?side1 A21.out).mono ?_); (case side1 => exact GL.below0 hG (by repeat (first | (with_reducible first | exact HB.out | apply below_alloc | apply pw_below_drewN | apply below_drew1) | exact HB.out))); rintro e w54 ⟨v152, rfl, ho0, hb⟩; refine ⟨_, rfl, ?_⟩; have n0_ := Aside0.mk (Kd.R_lower ho0 (below_size (by repeat (first | (with_reducible first | exact HB.out | apply below_alloc | apply pw_below_drewN | apply below_drew1) | exact HB.out)))); have n1_ := Aside0.mk (below_step (by repeat (first | (with_reducible first | exact HB.out | apply below_alloc | apply pw_below_drewN | apply below_drew1) | exact HB.out)) hb); clear HB; have HO153 := n0_; have HB := n1_; clear n0_ n1_; (try clear hb); (try clear hb2); (try clear hk); (try clear hi); (try clear ho0)) | ((with_reducible refine gate_dst (N := 13) rfl ?_); (try (refine gate_guard (by rfl) ?_; dsimp only)); refine box_event ?hg (N := 13) ?hd (cs := #[.int .i64 0, .int .i64 0]) (t := 27) ?hr ?_; (case hd => rfl); (case hg => rfl); (case hr => first | (go_simp; done) | (go_simp; rfl)); intro gb157 hg w55 hbox hb; have n0_ := Aside0.mk (Kd.R_below (by (with_reducible repeat (first | apply Kd.R_alloc | apply Kd.R_drewN | apply Kd.R_drew)); exact HO153.out) hb); have n1_ := Aside0.mk (below_step (by repeat (first | (with_reducible first | exact HB.out | apply below_alloc | apply pw_below_drewN | apply below_drew1) | exact HB.out)) hb); have n2_ := Aside0.mk (hbox); have n3_ := Aside0.mk ((by rw [hg]; exact (below_size (by repeat (first | (with_reducible first | exact HB.out | apply below_alloc | apply pw_below_drewN | apply below_drew1) | exact HB.out))) : w.heap.size ≤ gb157)); have n4_ := Aside0.mk ((by rw [hg]; exact (below_size (by repeat (first | (with_reducible first | exact HB.out | apply below_alloc | apply pw_below_drewN | apply below_drew1) | exact HB.out))) : w.heap.size ≤ gb157)); clear HO153; clear HB; have HO153 := n0_; have HB := n1_; have BK157 := n2_; have GW157 := n3_; have GE157 := n4_; clear n0_ n1_ n2_ n3_ n4_; clear hb hbox hg; have hcz56_0 : w55.cell? ⟨gb157, 0, none⟩ = some (.int .i64 0) := (blk_cell BK157.out 0).trans rfl; have hcz56_1 : w55.cell? ⟨gb157, 1, none⟩ = some (.int .i64 0) := (blk_cell BK157.out 1).trans rfl; have hfz56_0 := blk_frozen BK157.out 0; have hfz56_1 := blk_frozen BK157.out 1))
                            have n0_ : Aside0 (Kd.R k38 38 ((w55.setCell ⟨gb157, 0, none⟩ (.int .i64 t154)).setCell ⟨gb157, 1, none⟩ (.int .i64 t155)) w.heap.size (fun _ => True) v152 t151) := ⟨by (with_reducible repeat (first | apply Kd.R_alloc | apply Kd.R_drewN | apply Kd.R_drew)); exact Kd.R_mono (Kd.R_far (p := ⟨gb157, 1, none⟩) (Kd.R_far (p := ⟨gb157, 0, none⟩) (Kd.R_types HO153.out BK157.out (by decide)) (fun _ hk => hk.2) (.int .i64 t154)) (fun _ hk => hk.2) (.int .i64 t155)) (fun _ hk => trivial)⟩
                            have n1_ : Aside0 (((w55.setCell ⟨gb157, 0, none⟩ (.int .i64 t154)).setCell ⟨gb157, 1, none⟩ (.int .i64 t155)).heap[gb157]? = some (.cells #[.int .i64 t154, .int .i64 t155] 27 (0, 0))) := ⟨by (with_reducible repeat (first | refine blk_drewN ?_ _ | refine blk_drew ?_ | refine blk_alloc ?_ _)); refine blk_put (cs := #[.int .i64 t154, .int .i64 0]) ?_ 1 _ rfl; (with_reducible repeat (first | refine blk_drewN ?_ _ | refine blk_drew ?_ | refine blk_alloc ?_ _)); refine blk_put (cs := #[.int .i64 0, .int .i64 0]) ?_ 0 _ rfl; (with_reducible repeat (first | refine blk_drewN ?_ _ | refine blk_drew ?_ | refine blk_alloc ?_ _)); exact BK157.out⟩
                            have n2_ : Aside0 (Below w.heap.size w ((w55.setCell ⟨gb157, 0, none⟩ (.int .i64 t154)).setCell ⟨gb157, 1, none⟩ (.int .i64 t155))) := ⟨by repeat (first | (with_reducible first | exact HB.out | apply below_alloc | apply pw_below_drewN | apply below_drew1 | refine below_set ?_ GE157.out) | exact HB.out)⟩
                            (try clear HO153)
                            (try clear BK157)
                            (try clear HB)
                            generalize ((w55.setCell ⟨gb157, 0, none⟩ (.int .i64 t154)).setCell ⟨gb157, 1, none⟩ (.int .i64 t155)) = w57 at n0_ n1_ n2_ ⊢
                            have HO153 := n0_
                            have BK157 := n1_
                            have HB := n2_
                            clear n0_ n1_ n2_
                            have n0_ := Aside0.mk (Kd.R_drew HO153.out)
                            have n1_ := Aside0.mk (blk_drew BK157.out)
                            have n2_ := Aside0.mk (below_drew1 HB.out)
                            clear HO153
                            clear BK157
                            clear HB
                            have HO153 := n0_
                            have BK157 := n1_
                            have HB := n2_
                            clear n0_ n1_ n2_
                            obtain ⟨Ao59, co59, eo59⟩ := Kd.R_slice HO153.out
                            (first | subst eo59 | (injection eo59 with f1_ f2_ f3_; have f4_ := f1_.symm; have f5_ := f3_.symm; clear f1_ f2_ f3_; subst f4_; subst f5_))
                            refine start_ (n := 17) (S := fun w' => True) (ds := []) #[false, false, false, false, false, false, false, false, false, false, false, false, false, false, false, false, false] (by kernel_rfl) rfl rfl trivial (fun hHeld => ?_); refine with_tabW transhumancelaw7_DentLacks.tab18 transhumancelaw7_DentLacks.bits18 (fun HT_ HW_ => ?_)
                            generalize w57.drew = w58 at HO153 BK157 HB hHeld ⊢
                            refine pure_ (i := 0) (N := some 50) (v := ?_) (a' := ?_) #[true, false, false, false, false, false, false, false, false, false, false, false, false, false, false, false, false] rfl rfl (any_of HT_.out (by kernel_rfl)) (fun _ _ _ h => h) (Or.inl ⟨by rfl, ?_⟩) ?_ ?_
                            rotate_left
                            · intro w'
                              go_simp
                              with_reducible rfl
                            rotate_left
                            · simp only [Act.put, List.setIfInBounds_toArray, List.set_cons_zero, List.set_cons_succ, i64_w, i32_w]
                              rfl
                            refine pure_ (i := 1) (N := some 51) (v := ?_) (a' := ?_) #[true, true, false, false, false, false, false, false, false, false, false, false, false, false, false, false, false] rfl rfl (any_of HT_.out (by kernel_rfl)) (fun _ _ _ h => h) (Or.inl ⟨by rfl, ?_⟩) ?_ ?_
                            rotate_left
                            · intro w'
                              go_simp
                              with_reducible rfl
                            rotate_left
                            · simp only [Act.put, List.setIfInBounds_toArray, List.set_cons_zero, List.set_cons_succ, i64_w, i32_w]
                              rfl
                            refine pure_ (i := 2) (N := some 52) (v := ?_) (a' := ?_) #[true, true, true, false, false, false, false, false, false, false, false, false, false, false, false, false, false] rfl rfl (any_of HT_.out (by kernel_rfl)) (fun _ _ _ h => h) (Or.inl ⟨by rfl, ?_⟩) ?_ ?_
                            rotate_left
                            · intro w'
                              go_simp
                              with_reducible rfl
                            rotate_left
                            · simp only [Act.put, List.setIfInBounds_toArray, List.set_cons_zero, List.set_cons_succ, i64_w, i32_w]
                              rfl
                            refine pure_ (i := 3) (N := some 53) (v := ?_) (a' := ?_) #[true, true, true, true, false, false, false, false, false, false, false, false, false, false, false, false, false] rfl rfl (any_of HT_.out (by kernel_rfl)) (fun _ _ _ h => h) (Or.inl ⟨by rfl, ?_⟩) ?_ ?_
                            rotate_left
                            · intro w'
                              go_simp
                              with_reducible rfl
                            rotate_left
                            · simp only [Act.put, List.setIfInBounds_toArray, List.set_cons_zero, List.set_cons_succ, i64_w, i32_w]
                              rfl
                            refine pure_ (i := 4) (N := some 54) (v := ?_) (a' := ?_) #[true, true, true, true, true, false, false, false, false, false, false, false, false, false, false, false, false] rfl rfl (any_of HT_.out (by kernel_rfl)) (fun _ _ _ h => h) (Or.inl ⟨by rfl, ?_⟩) ?_ ?_
                            rotate_left
                            · intro w'
                              go_simp
                              with_reducible rfl
                            rotate_left
                            · simp only [Act.put, List.setIfInBounds_toArray, List.set_cons_zero, List.set_cons_succ, i64_w, i32_w]
                              rfl
                            refine pure_ (i := 5) (N := some 55) (v := ?_) (a' := ?_) #[true, true, true, true, true, true, false, false, false, false, false, false, false, false, false, false, false] rfl rfl (any_of HT_.out (by kernel_rfl)) (fun _ _ _ h => h) (Or.inl ⟨by rfl, ?_⟩) ?_ ?_
                            rotate_left
                            · intro w'
                              go_simp
                              with_reducible rfl
                            rotate_left
                            · simp only [Act.put, List.setIfInBounds_toArray, List.set_cons_zero, List.set_cons_succ, i64_w, i32_w]
                              rfl
                            refine pure_ (i := 6) (N := some 56) (v := ?_) (a' := ?_) #[true, true, true, true, true, true, true, false, false, false, false, false, false, false, false, false, false] rfl rfl (any_of HT_.out (by kernel_rfl)) (fun _ _ _ h => h) (Or.inl ⟨by rfl, ?_⟩) ?_ ?_
                            rotate_left
                            · intro w'
                              go_simp
                              with_reducible rfl
                            rotate_left
                            · simp only [Act.put, List.setIfInBounds_toArray, List.set_cons_zero, List.set_cons_succ, i64_w, i32_w]
                              rfl
                            refine pure_ (i := 7) (N := some 57) (v := ?_) (a' := ?_) #[true, true, true, true, true, true, true, true, false, false, false, false, false, false, false, false, false] rfl rfl (any_of HT_.out (by kernel_rfl)) (fun _ _ _ h => h) (Or.inl ⟨by rfl, ?_⟩) ?_ ?_
                            rotate_left
                            · intro w'
                              go_simp
                              with_reducible rfl
                            rotate_left
                            · simp only [Act.put, List.setIfInBounds_toArray, List.set_cons_zero, List.set_cons_succ, i64_w, i32_w]
                              rfl
                            refine pure_ (i := 8) (N := some 58) (v := ?_) (a' := ?_) #[true, true, true, true, true, true, true, true, true, false, false, false, false, false, false, false, false] rfl rfl (any_of HT_.out (by kernel_rfl)) (fun _ _ _ h => h) (Or.inl ⟨by rfl, ?_⟩) ?_ ?_
                            rotate_left
                            · intro w'
                              go_simp
                              with_reducible rfl
                            rotate_left
                            · simp only [Act.put, List.setIfInBounds_toArray, List.set_cons_zero, List.set_cons_succ, i64_w, i32_w]
                              rfl
                            refine pure_ (i := 9) (N := some 59) (v := undef) (a' := ?_) #[true, true, true, true, true, true, true, true, true, true, false, false, false, false, false, false, false] rfl rfl (any_of HT_.out (by kernel_rfl)) (fun _ _ _ h => h) (Or.inr ⟨by rfl, rfl⟩) ?_ ?_
                            rotate_left
                            · simp only [Act.put, List.setIfInBounds_toArray, List.set_cons_zero, List.set_cons_succ, i64_w, i32_w]
                              rfl
                            refine pure_ (i := 10) (N := some 60) (v := undef) (a' := ?_) #[true, true, true, true, true, true, true, true, true, true, true, false, false, false, false, false, false] rfl rfl (any_of HT_.out (by kernel_rfl)) (fun _ _ _ h => h) (Or.inr ⟨by rfl, rfl⟩) ?_ ?_
                            rotate_left
                            · simp only [Act.put, List.setIfInBounds_toArray, List.set_cons_zero, List.set_cons_succ, i64_w, i32_w]
                              rfl
                            refine pure_ (i := 11) (N := some 61) (v := undef) (a' := ?_) #[true, true, true, true, true, true, true, true, true, true, true, true, false, false, false, false, false] rfl rfl (any_of HT_.out (by kernel_rfl)) (fun _ _ _ h => h) (Or.inr ⟨by rfl, rfl⟩) ?_ ?_
                            rotate_left
                            · simp only [Act.put, List.setIfInBounds_toArray, List.set_cons_zero, List.set_cons_succ, i64_w, i32_w]
                              rfl
                            refine pure_ (i := 12) (N := some 62) (v := undef) (a' := ?_) #[true, true, true, true, true, true, true, true, true, true, true, true, true, false, false, false, false] rfl rfl (any_of HT_.out (by kernel_rfl)) (fun _ _ _ h => h) (Or.inr ⟨by rfl, rfl⟩) ?_ ?_
                            rotate_left
                            · simp only [Act.put, List.setIfInBounds_toArray, List.set_cons_zero, List.set_cons_succ, i64_w, i32_w]
                              rfl
                            refine pure_ (i := 13) (N := some 63) (v := undef) (a' := ?_) #[true, true, true, true, true, true, true, true, true, true, true, true, true, true, false, false, false] rfl rfl (any_of HT_.out (by kernel_rfl)) (fun _ _ _ h => h) (Or.inr ⟨by rfl, rfl⟩) ?_ ?_
                            rotate_left
                            · simp only [Act.put, List.setIfInBounds_toArray, List.set_cons_zero, List.set_cons_succ, i64_w, i32_w]
                              rfl
                            refine pure_ (i := 14) (N := some 64) (v := undef) (a' := ?_) #[true, true, true, true, true, true, true, true, true, true, true, true, true, true, true, false, false] rfl rfl (any_of HT_.out (by kernel_rfl)) (fun _ _ _ h => h) (Or.inr ⟨by rfl, rfl⟩) ?_ ?_
                            rotate_left
                            · simp only [Act.put, List.setIfInBounds_toArray, List.set_cons_zero, List.set_cons_succ, i64_w, i32_w]
                              rfl
                            refine pure_ (i := 15) (N := some 65) (v := ?_) (a' := ?_) #[true, true, true, true, true, true, true, true, true, true, true, true, true, true, true, true, false] rfl rfl (any_of HT_.out (by kernel_rfl)) (fun _ _ _ h => h) (Or.inl ⟨by rfl, ?_⟩) ?_ ?_
                            rotate_left
                            · intro w'
                              go_simp
                              with_reducible rfl
                            rotate_left
                            · simp only [Act.put, List.setIfInBounds_toArray, List.set_cons_zero, List.set_cons_succ, i64_w, i32_w]
                              rfl
                            refine pure_ (i := 16) (N := some 6) (v := ?_) (a' := ?_) #[true, true, true, true, true, true, true, true, true, true, true, true, true, true, true, true, true] rfl rfl (any_of HT_.out (by kernel_rfl)) (fun _ _ _ h => h) (Or.inl ⟨by rfl, ?_⟩) ?_ ?_
                            rotate_left
                            · intro w'
                              go_simp
                              with_reducible rfl
                            rotate_left
                            · simp only [Act.put, List.setIfInBounds_toArray, List.set_cons_zero, List.set_cons_succ, i64_w, i32_w]
                              rfl
                            refine done_ (done_of HT_.out (by kernel_rfl)) ?_
                            try go_wp2
                            go_ret
                            exact ⟨by first | rfl | (simp [errW_none, errW_some] <;> rfl) | (simp [*, errW_none, errW_some] <;> rfl), by repeat (first | (with_reducible first | exact HB.out | apply below_alloc | apply pw_below_drewN | apply below_drew1 | refine below_set ?_ GE157.out) | exact HB.out)⟩
                        · rw [if_neg c44] at H
                          have c44b0 : (t156 == 1) = false := beq_eq_false_iff_ne.mpr c44
                          have c44b1 : (t156 != 1) = true := bne_iff_ne.mpr c44
                          obtain rfl := Option.some.inj H
                          try go_wp2_with (first | ((with_reducible refine gate_callee (f := 8) rfl ?_); refine goesL_ (some 44) rfl rfl Tryd.func8 (by kernel_rfl) rfl #[.string x11_17] rfl (by (try simp only [List.map_toArray, List.map_cons, List.map_nil]); first | done | rfl | (simp only [List.length_drop, List.length_take]; rfl)) ?_; (with_reducible refine (dent_Locks.calls x11_17 t151 t154 t155 t156 _ ?side1 A21.out).mono ?_); (case side1 => exact GL.below0 hG (by repeat (first | (with_reducible first | exact HB.out | apply below_alloc | apply pw_below_drewN | apply below_drew1) | exact HB.out))); rintro e w60 ⟨v152, rfl, ho0, hb⟩; refine ⟨_, rfl, ?_⟩; have n0_ := Aside0.mk (Kd.R_lower ho0 (below_size (by repeat (first | (with_reducible first | exact HB.out | apply below_alloc | apply pw_below_drewN | apply below_drew1) | exact HB.out)))); have n1_ := Aside0.mk (below_step (by repeat (first | (with_reducible first | exact HB.out | apply below_alloc | apply pw_below_drewN | apply below_drew1) | exact HB.out)) hb); clear HB; have HO153 := n0_; have HB := n1_; clear n0_ n1_; (try clear hb); (try clear hb2); (try clear hk); (try clear hi); (try clear ho0)) | ((with_reducible refine gate_dst (N := 13) rfl ?_); (try (refine gate_guard (by rfl) ?_; dsimp only)); refine box_event ?hg (N := 13) ?hd (cs := #[.int .i64 0, .int .i64 0]) (t := 27) ?hr ?_; (case hd => rfl); (case hg => rfl); (case hr => first | (go_simp; done) | (go_simp; rfl)); intro gb157 hg w61 hbox hb; have n0_ := Aside0.mk (Kd.R_below (by (with_reducible repeat (first | apply Kd.R_alloc | apply Kd.R_drewN | apply Kd.R_drew)); exact HO153.out) hb); have n1_ := Aside0.mk (below_step (by repeat (first | (with_reducible first | exact HB.out | apply below_alloc | apply pw_below_drewN | apply below_drew1) | exact HB.out)) hb); have n2_ := Aside0.mk (hbox); have n3_ := Aside0.mk ((by rw [hg]; exact (below_size (by repeat (first | (with_reducible first | exact HB.out | apply below_alloc | apply pw_below_drewN | apply below_drew1) | exact HB.out))) : w.heap.size ≤ gb157)); have n4_ := Aside0.mk ((by rw [hg]; exact (below_size (by repeat (first | (with_reducible first | exact HB.out | apply below_alloc | apply pw_below_drewN | apply below_drew1) | exact HB.out))) : w.heap.size ≤ gb157)); clear HO153; clear HB; have HO153 := n0_; have HB := n1_; have BK157 := n2_; have GW157 := n3_; have GE157 := n4_; clear n0_ n1_ n2_ n3_ n4_; clear hb hbox hg; have hcz62_0 : w61.cell? ⟨gb157, 0, none⟩ = some (.int .i64 0) := (blk_cell BK157.out 0).trans rfl; have hcz62_1 : w61.cell? ⟨gb157, 1, none⟩ = some (.int .i64 0) := (blk_cell BK157.out 1).trans rfl; have hfz62_0 := blk_frozen BK157.out 0; have hfz62_1 := blk_frozen BK157.out 1))
                          have n0_ : Aside0 (Kd.R k38 38 ((w61.setCell ⟨gb157, 0, none⟩ (.int .i64 t154)).setCell ⟨gb157, 1, none⟩ (.int .i64 t155)) w.heap.size (fun _ => True) v152 t151) := ⟨by (with_reducible repeat (first | apply Kd.R_alloc | apply Kd.R_drewN | apply Kd.R_drew)); exact Kd.R_mono (Kd.R_far (p := ⟨gb157, 1, none⟩) (Kd.R_far (p := ⟨gb157, 0, none⟩) (Kd.R_types HO153.out BK157.out (by decide)) (fun _ hk => hk.2) (.int .i64 t154)) (fun _ hk => hk.2) (.int .i64 t155)) (fun _ hk => trivial)⟩
                          have n1_ : Aside0 (((w61.setCell ⟨gb157, 0, none⟩ (.int .i64 t154)).setCell ⟨gb157, 1, none⟩ (.int .i64 t155)).heap[gb157]? = some (.cells #[.int .i64 t154, .int .i64 t155] 27 (0, 0))) := ⟨by (with_reducible repeat (first | refine blk_drewN ?_ _ | refine blk_drew ?_ | refine blk_alloc ?_ _)); refine blk_put (cs := #[.int .i64 t154, .int .i64 0]) ?_ 1 _ rfl; (with_reducible repeat (first | refine blk_drewN ?_ _ | refine blk_drew ?_ | refine blk_alloc ?_ _)); refine blk_put (cs := #[.int .i64 0, .int .i64 0]) ?_ 0 _ rfl; (with_reducible repeat (first | refine blk_drewN ?_ _ | refine blk_drew ?_ | refine blk_alloc ?_ _)); exact BK157.out⟩
                          have n2_ : Aside0 (Below w.heap.size w ((w61.setCell ⟨gb157, 0, none⟩ (.int .i64 t154)).setCell ⟨gb157, 1, none⟩ (.int .i64 t155))) := ⟨by repeat (first | (with_reducible first | exact HB.out | apply below_alloc | apply pw_below_drewN | apply below_drew1 | refine below_set ?_ GE157.out) | exact HB.out)⟩
                          (try clear HO153)
                          (try clear BK157)
                          (try clear HB)
                          generalize ((w61.setCell ⟨gb157, 0, none⟩ (.int .i64 t154)).setCell ⟨gb157, 1, none⟩ (.int .i64 t155)) = w63 at n0_ n1_ n2_ ⊢
                          have HO153 := n0_
                          have BK157 := n1_
                          have HB := n2_
                          clear n0_ n1_ n2_
                          have n0_ := Aside0.mk (Kd.R_drew HO153.out)
                          have n1_ := Aside0.mk (blk_drew BK157.out)
                          have n2_ := Aside0.mk (below_drew1 HB.out)
                          clear HO153
                          clear BK157
                          clear HB
                          have HO153 := n0_
                          have BK157 := n1_
                          have HB := n2_
                          clear n0_ n1_ n2_
                          refine start_ (n := 17) (S := fun w' => True) (ds := []) #[false, false, false, false, false, false, false, false, false, false, false, false, false, false, false, false, false] (by kernel_rfl) rfl rfl trivial (fun hHeld => ?_); refine with_tabW transhumancelaw7_DentLacks.tab18 transhumancelaw7_DentLacks.bits18 (fun HT_ HW_ => ?_)
                          generalize w63.drew = w64 at HO153 BK157 HB hHeld ⊢
                          refine pure_ (i := 0) (N := some 50) (v := ?_) (a' := ?_) #[true, false, false, false, false, false, false, false, false, false, false, false, false, false, false, false, false] rfl rfl (any_of HT_.out (by kernel_rfl)) (fun _ _ _ h => h) (Or.inl ⟨by rfl, ?_⟩) ?_ ?_
                          rotate_left
                          · intro w'
                            go_simp
                            with_reducible rfl
                          rotate_left
                          · simp only [Act.put, List.setIfInBounds_toArray, List.set_cons_zero, List.set_cons_succ, i64_w, i32_w]
                            rfl
                          refine pure_ (i := 1) (N := some 51) (v := ?_) (a' := ?_) #[true, true, false, false, false, false, false, false, false, false, false, false, false, false, false, false, false] rfl rfl (any_of HT_.out (by kernel_rfl)) (fun _ _ _ h => h) (Or.inl ⟨by rfl, ?_⟩) ?_ ?_
                          rotate_left
                          · intro w'
                            go_simp
                            with_reducible rfl
                          rotate_left
                          · simp only [Act.put, List.setIfInBounds_toArray, List.set_cons_zero, List.set_cons_succ, i64_w, i32_w]
                            rfl
                          refine pure_ (i := 2) (N := some 52) (v := ?_) (a' := ?_) #[true, true, true, false, false, false, false, false, false, false, false, false, false, false, false, false, false] rfl rfl (any_of HT_.out (by kernel_rfl)) (fun _ _ _ h => h) (Or.inl ⟨by rfl, ?_⟩) ?_ ?_
                          rotate_left
                          · intro w'
                            go_simp
                            with_reducible rfl
                          rotate_left
                          · simp only [Act.put, List.setIfInBounds_toArray, List.set_cons_zero, List.set_cons_succ, i64_w, i32_w]
                            rfl
                          refine pure_ (i := 3) (N := some 53) (v := ?_) (a' := ?_) #[true, true, true, true, false, false, false, false, false, false, false, false, false, false, false, false, false] rfl rfl (any_of HT_.out (by kernel_rfl)) (fun _ _ _ h => h) (Or.inl ⟨by rfl, ?_⟩) ?_ ?_
                          rotate_left
                          · intro w'
                            go_simp
                            with_reducible rfl
                          rotate_left
                          · simp only [Act.put, List.setIfInBounds_toArray, List.set_cons_zero, List.set_cons_succ, i64_w, i32_w]
                            rfl
                          refine pure_ (i := 4) (N := some 54) (v := undef) (a' := ?_) #[true, true, true, true, true, false, false, false, false, false, false, false, false, false, false, false, false] rfl rfl (any_of HT_.out (by kernel_rfl)) (fun _ _ _ h => h) (Or.inr ⟨by rfl, rfl⟩) ?_ ?_
                          rotate_left
                          · simp only [Act.put, List.setIfInBounds_toArray, List.set_cons_zero, List.set_cons_succ, i64_w, i32_w]
                            rfl
                          refine pure_ (i := 5) (N := some 55) (v := undef) (a' := ?_) #[true, true, true, true, true, true, false, false, false, false, false, false, false, false, false, false, false] rfl rfl (any_of HT_.out (by kernel_rfl)) (fun _ _ _ h => h) (Or.inr ⟨by rfl, rfl⟩) ?_ ?_
                          rotate_left
                          · simp only [Act.put, List.setIfInBounds_toArray, List.set_cons_zero, List.set_cons_succ, i64_w, i32_w]
                            rfl
                          refine pure_ (i := 6) (N := some 56) (v := undef) (a' := ?_) #[true, true, true, true, true, true, true, false, false, false, false, false, false, false, false, false, false] rfl rfl (any_of HT_.out (by kernel_rfl)) (fun _ _ _ h => h) (Or.inr ⟨by rfl, rfl⟩) ?_ ?_
                          rotate_left
                          · simp only [Act.put, List.setIfInBounds_toArray, List.set_cons_zero, List.set_cons_succ, i64_w, i32_w]
                            rfl
                          refine pure_ (i := 7) (N := some 57) (v := ?_) (a' := ?_) #[true, true, true, true, true, true, true, true, false, false, false, false, false, false, false, false, false] rfl rfl (any_of HT_.out (by kernel_rfl)) (fun _ _ _ h => h) (Or.inl ⟨by rfl, ?_⟩) ?_ ?_
                          rotate_left
                          · intro w'
                            go_simp
                            with_reducible rfl
                          rotate_left
                          · simp only [Act.put, List.setIfInBounds_toArray, List.set_cons_zero, List.set_cons_succ, i64_w, i32_w]
                            rfl
                          refine pure_ (i := 8) (N := some 58) (v := ?_) (a' := ?_) #[true, true, true, true, true, true, true, true, true, false, false, false, false, false, false, false, false] rfl rfl (any_of HT_.out (by kernel_rfl)) (fun _ _ _ h => h) (Or.inl ⟨by rfl, ?_⟩) ?_ ?_
                          rotate_left
                          · intro w'
                            go_simp
                            with_reducible rfl
                          rotate_left
                          · simp only [Act.put, List.setIfInBounds_toArray, List.set_cons_zero, List.set_cons_succ, i64_w, i32_w]
                            rfl
                          refine pure_ (i := 9) (N := some 59) (v := undef) (a' := ?_) #[true, true, true, true, true, true, true, true, true, true, false, false, false, false, false, false, false] rfl rfl (any_of HT_.out (by kernel_rfl)) (fun _ _ _ h => h) (Or.inr ⟨by rfl, rfl⟩) ?_ ?_
                          rotate_left
                          · simp only [Act.put, List.setIfInBounds_toArray, List.set_cons_zero, List.set_cons_succ, i64_w, i32_w]
                            rfl
                          refine pure_ (i := 10) (N := some 60) (v := undef) (a' := ?_) #[true, true, true, true, true, true, true, true, true, true, true, false, false, false, false, false, false] rfl rfl (any_of HT_.out (by kernel_rfl)) (fun _ _ _ h => h) (Or.inr ⟨by rfl, rfl⟩) ?_ ?_
                          rotate_left
                          · simp only [Act.put, List.setIfInBounds_toArray, List.set_cons_zero, List.set_cons_succ, i64_w, i32_w]
                            rfl
                          refine pure_ (i := 11) (N := some 61) (v := undef) (a' := ?_) #[true, true, true, true, true, true, true, true, true, true, true, true, false, false, false, false, false] rfl rfl (any_of HT_.out (by kernel_rfl)) (fun _ _ _ h => h) (Or.inr ⟨by rfl, rfl⟩) ?_ ?_
                          rotate_left
                          · simp only [Act.put, List.setIfInBounds_toArray, List.set_cons_zero, List.set_cons_succ, i64_w, i32_w]
                            rfl
                          refine pure_ (i := 12) (N := some 62) (v := undef) (a' := ?_) #[true, true, true, true, true, true, true, true, true, true, true, true, true, false, false, false, false] rfl rfl (any_of HT_.out (by kernel_rfl)) (fun _ _ _ h => h) (Or.inr ⟨by rfl, rfl⟩) ?_ ?_
                          rotate_left
                          · simp only [Act.put, List.setIfInBounds_toArray, List.set_cons_zero, List.set_cons_succ, i64_w, i32_w]
                            rfl
                          refine pure_ (i := 13) (N := some 63) (v := undef) (a' := ?_) #[true, true, true, true, true, true, true, true, true, true, true, true, true, true, false, false, false] rfl rfl (any_of HT_.out (by kernel_rfl)) (fun _ _ _ h => h) (Or.inr ⟨by rfl, rfl⟩) ?_ ?_
                          rotate_left
                          · simp only [Act.put, List.setIfInBounds_toArray, List.set_cons_zero, List.set_cons_succ, i64_w, i32_w]
                            rfl
                          refine pure_ (i := 14) (N := some 64) (v := undef) (a' := ?_) #[true, true, true, true, true, true, true, true, true, true, true, true, true, true, true, false, false] rfl rfl (any_of HT_.out (by kernel_rfl)) (fun _ _ _ h => h) (Or.inr ⟨by rfl, rfl⟩) ?_ ?_
                          rotate_left
                          · simp only [Act.put, List.setIfInBounds_toArray, List.set_cons_zero, List.set_cons_succ, i64_w, i32_w]
                            rfl
                          refine pure_ (i := 15) (N := some 65) (v := ?_) (a' := ?_) #[true, true, true, true, true, true, true, true, true, true, true, true, true, true, true, true, false] rfl rfl (any_of HT_.out (by kernel_rfl)) (fun _ _ _ h => h) (Or.inl ⟨by rfl, ?_⟩) ?_ ?_
                          rotate_left
                          · intro w'
                            go_simp
                            with_reducible rfl
                          rotate_left
                          · simp only [Act.put, List.setIfInBounds_toArray, List.set_cons_zero, List.set_cons_succ, i64_w, i32_w]
                            rfl
                          refine pure_ (i := 16) (N := some 6) (v := ?_) (a' := ?_) #[true, true, true, true, true, true, true, true, true, true, true, true, true, true, true, true, true] rfl rfl (any_of HT_.out (by kernel_rfl)) (fun _ _ _ h => h) (Or.inl ⟨by rfl, ?_⟩) ?_ ?_
                          rotate_left
                          · intro w'
                            go_simp
                            with_reducible rfl
                          rotate_left
                          · simp only [Act.put, List.setIfInBounds_toArray, List.set_cons_zero, List.set_cons_succ, i64_w, i32_w]
                            rfl
                          refine done_ (done_of HT_.out (by kernel_rfl)) ?_
                          try go_wp2
                          go_ret
                          exact ⟨by first | rfl | (simp [errW_none, errW_some] <;> rfl) | (simp [*, errW_none, errW_some] <;> rfl), by repeat (first | (with_reducible first | exact HB.out | apply below_alloc | apply pw_below_drewN | apply below_drew1 | refine below_set ?_ GE157.out) | exact HB.out)⟩
                · rw [if_neg c17] at H
                  exact absurd H (by simp)
        · rw [if_neg c9] at H
          exact absurd H (by simp)
      · rw [if_neg c8] at H
        exact absurd H (by simp)
    · rw [if_neg c7] at H
      exact absurd H (by simp)
  · replace c5 := Bool.eq_false_iff.mpr c5
    subst c5
    have H1 : (some false) = some r := by rw [if_neg (show ¬ (false = true) by decide)] at H; exact H
    clear H
    have H := H1
    clear H1
    obtain rfl := Option.some.inj H
    go_enter Tryd.func3, Tryd.ntmps3
    go_wp2_with (first | ((with_reducible refine gate_callee (f := 6) rfl ?_); refine goesL_ (some 16) rfl rfl Tryd.func6 (by kernel_rfl) rfl #[] rfl (by (try simp only [List.map_toArray, List.map_cons, List.map_nil]); first | done | rfl | (simp only [List.length_drop, List.length_take]; rfl)) ?_; (with_reducible refine (transhumancelaw7_known.calls  false _ ?side1 A4.out).mono ?_); (case side1 => exact GL.below0 hG (by repeat (first | (with_reducible first | exact HB.out | apply below_alloc | apply pw_below_drewN | apply below_drew1) | exact HB.out))); rintro e w65 ⟨rfl, hb⟩; refine ⟨_, rfl, ?_⟩; have n0_ := Aside0.mk (below_step (by repeat (first | (with_reducible first | exact HB.out | apply below_alloc | apply pw_below_drewN | apply below_drew1) | exact HB.out)) hb); clear HB; have HB := n0_; clear n0_; (try clear hb); (try clear hb2); (try clear hk); (try clear hi)))
    go_ret
    exact ⟨by first | rfl | (simp [errW_none, errW_some] <;> rfl) | (simp [*, errW_none, errW_some] <;> rfl), by repeat (first | (with_reducible first | exact HB.out | apply below_alloc | apply pw_below_drewN | apply below_drew1) | exact HB.out)⟩
def transhumancelaw7_DentLacks.Pure : Prop := ∀ (a0 : Int) (a1 : Bool) (a2 : Int), (Lit.int .i64 a0).wf = true → (Lit.int .i64 a2).wf = true → ∃ k, transhumancelaw7_DentLacks.f k a0 a1 a2 = some true
theorem transhumancelaw7_DentLacks.walk (P : transhumancelaw7_DentLacks.Pure) (a0 : Int) (a1 : Bool) (a2 : Int) (w : World) (w0 : (Lit.int .i64 a0).wf = true) (w2 : (Lit.int .i64 a2).wf = true) (hG : GL w) :
    Calls Tryd.prog 3 #[.int .i64 a0, .bool a1, .int .i64 a2] w fun e w' => e = .returned (.bool true) ∧ Below w.heap.size w w' := by
  obtain ⟨k, h⟩ := P a0 a1 a2 w0 w2
  refine (transhumancelaw7_DentLacks.calls k a0 a1 a2 true w hG h).mono ?_
  rintro e w' ⟨rfl, hd⟩
  exact ⟨rfl, hd⟩
end Go.Proofs.YtghencpiejbecaaDoor.Q
