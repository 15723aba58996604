import Derived.Test.YtjdjljgbfpkbdaaGreatDoorZCursor
import Derived.Test.YtjdjljgbfpkbdaaGreatDoorZW0
set_option linter.unusedVariables false
set_option linter.unusedSimpArgs false
namespace Go.Proofs.YtjdjljgbfpkbdaaGreatDoor.Q
open Go.RowKit Go.Proofs.YtjdjljgbfpkbdaaGreatDoorW.PrintWords Go.Proofs.YtjdjljgbfpkbdaaGreatDoorW.PrintLast Go.Proofs.YtjdjljgbfpkbdaaGreatDoorW.PrintMore
attribute [local go_sem] max2_int min2_int max_two min_two
def place : List UInt8 → Nat × Nat := fun l => l.foldl (fun p c => if c = 10 then (p.1 + 1, 1) else (p.1, p.2 + 1)) (1, 1)
theorem place_snoc (l : List UInt8) (c : UInt8) : place (l ++ [c]) = if c = 10 then ((place l).1 + 1, 1) else ((place l).1, (place l).2 + 1) := by
  simp [place, List.foldl_append]
theorem place_upto (s : ByteArray) : ∀ k : Nat, k ≤ s.size →
    ((place (s.data.toList.take k)).1 : Int) = 1 + (Lib.countByte (s.data.toList.take k) 10 : Nat) ∧ ((place (s.data.toList.take k)).2 : Int) = k - Lib.lastIdx s 10 k
  | 0, _ => by simp [place, Lib.countByte, Lib.lastIdx]
  | k + 1, h => by
    obtain ⟨h1, h2⟩ := place_upto s k (by omega)
    have hg : s.data.toList[k]? = some s[k] := by rw [List.getElem?_eq_getElem (by simpa using (show k < s.size by omega))]; rfl
    have ht : s.data.toList.take (k + 1) = s.data.toList.take k ++ [s[k]] := by
      rw [List.take_add_one, hg]; rfl
    have hb : s.data[k]! = s[k] := by
      rw [getElem!_pos s.data k (show k < s.data.size from (by omega : k < s.size))]; rfl
    rw [ht, place_snoc]
    unfold Lib.countByte at h1 ⊢
    rw [List.count_append]
    by_cases hc : s[k] = 10
    · rw [if_pos hc, Lib.lastIdx_hit s 10 k (by rw [hb, hc]; rfl), hc]
      simp only [List.count_singleton_self]
      constructor
      · push_cast; omega
      · push_cast; omega
    · rw [if_neg hc, Lib.lastIdx_miss s 10 k (by rw [hb]; intro he; exact hc (by apply UInt8.toNat.inj; have h10 : (10 : UInt8).toNat = 10 := rfl; omega)), List.count_singleton]
      rw [if_neg (by simpa using hc)]
      constructor
      · push_cast; omega
      · push_cast; omega
theorem place_str (s : ByteArray) : ((place s.data.toList).1 : Int) = 1 + (Lib.countByte s.data.toList 10 : Nat) ∧ ((place s.data.toList).2 : Int) = s.size - Lib.lastIndexByte s 10 := by
  have h := place_upto s s.size (Nat.le_refl _)
  rw [List.take_of_length_le (by simp)] at h
  exact h
theorem count_le (l : List UInt8) (c : UInt8) : Lib.countByte l c ≤ l.length := List.count_le_length
theorem last_bd (s : ByteArray) (c : Int) : -1 ≤ Lib.lastIndexByte s c ∧ Lib.lastIndexByte s c < s.size := by
  rcases Lib.lastIndexByte_spec s c with ⟨h, _⟩ | ⟨i, hi, h, _⟩
  · omega
  · omega
set_option maxHeartbeats 800000 in
theorem place_calls (w : World) (s : ByteArray) (k : Nat) (hk : k ≤ s.size) (hs : s.size ≤ 140737488351232) :
    Calls Tryz.prog 24 #[.string s, .int .i64 k] w fun e w' => e = .returned (.agg #[.int .i64 (place (s.data.toList.take k)).1, .int .i64 (place (s.data.toList.take k)).2]) ∧ Below w.heap.size w w' := by
  have HX : ∀ x : ByteArray, x.size = k → x.data.toList = s.data.toList.take k → ∃ (c : Nat) (l : Int), c ≤ k ∧ -1 ≤ l ∧ l < k ∧
      Hid (((place (s.data.toList.take k)).1 : Int) = 1 + c ∧ ((place (s.data.toList.take k)).2 : Int) = k - l) ∧
      (∀ w, Hid (Calls Tryz.prog 48 #[.string x, .string ⟨#[10]⟩] w fun e w' => e = .returned (.int .i64 c) ∧ w = w')) ∧
      (∀ w, Hid (Calls Tryz.prog 49 #[.string x, .int .u8 10] w fun e w' => e = .returned (.int .i64 l) ∧ w = w')) := by
    intro x hs hx
    have h := place_str x
    have hb := last_bd x 10
    have hc := count_le x.data.toList 10
    have hz : x.data.toList.length = x.size := by simp
    rw [hx] at h
    refine ⟨Lib.countByte x.data.toList 10, Lib.lastIndexByte x 10, by omega, by omega, by omega, ⟨by rw [hx]; exact h.1, by have h2 := h.2; omega⟩, fun w => (Tryz.strings_Count_one x 10 w).mono fun _ _ h => ⟨h.1, h.2.symm⟩, fun w => (Tryz.strings_LastIndexByte x 10 (by omega) w).mono fun _ _ h => ⟨h.1, h.2.symm⟩⟩
  by_cases h0 : 0 < k
  · obtain ⟨c, l, hc, hl1, hl2, HP, HC, HL⟩ := HX (s.extract 0 k) (by rw [ByteArray.size_extract]; omega) (by simp [ByteArray.data_extract])
    have hz : (s.extract 0 k).size = k := by rw [ByteArray.size_extract]; omega
    have HZ := Lib.hid hz
    clear HX hz
    go_enter Tryz.func24, Tryz.ntmps24
    go_wp2_with (first | (go_at_call 48; refine (HC _).out.mono ?_; rintro e w1 ⟨rfl, rfl⟩) | (go_at_call 49; refine (HL _).out.mono ?_; rintro e w1 ⟨rfl, rfl⟩))
    rw [HP.out.1, HP.out.2]
    exact bodyPost_ret (results_cell_row rfl _ _ w.heap.size 29 #[.int .i64 (1 + (c : Int)), .int .i64 ((k : Int) - l)] (0, 0) _ rfl (heap_alloc_new _ _) Tryz.underlying29 rfl (by kernel_rfl)) rfl ⟨rfl, (Below.refl _ _).alloc (Nat.le_refl _) _⟩
  · obtain rfl : k = 0 := by omega
    obtain ⟨c, l, hc, hl1, hl2, HP, HC, HL⟩ := HX ByteArray.empty rfl rfl
    clear HX
    go_enter Tryz.func24, Tryz.ntmps24
    go_wp2_with (first | (go_at_call 48; refine (HC _).out.mono ?_; rintro e w1 ⟨rfl, rfl⟩) | (go_at_call 49; refine (HL _).out.mono ?_; rintro e w1 ⟨rfl, rfl⟩))
    rw [HP.out.1, show ((place (s.data.toList.take 0)).2 : Int) = -l from by have := HP.out.2; omega]
    exact bodyPost_ret (results_cell_row rfl _ _ w.heap.size 29 #[.int .i64 (1 + (c : Int)), .int .i64 (-l)] (0, 0) _ rfl (heap_alloc_new _ _) Tryz.underlying29 rfl (by kernel_rfl)) rfl ⟨rfl, (Below.refl _ _).alloc (Nat.le_refl _) _⟩
end Go.Proofs.YtjdjljgbfpkbdaaGreatDoor.Q
