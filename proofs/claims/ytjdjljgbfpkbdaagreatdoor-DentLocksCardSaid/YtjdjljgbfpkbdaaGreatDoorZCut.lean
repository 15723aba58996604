import Derived.Test.YtjdjljgbfpkbdaaGreatDoorZBs
set_option linter.unusedVariables false
set_option linter.unusedSimpArgs false
namespace Go.Proofs.YtjdjljgbfpkbdaaGreatDoor.Q
open Go.RowKit Go.Proofs.YtjdjljgbfpkbdaaGreatDoorW.PrintWords
set_option maxHeartbeats 800000 in
theorem slcut_calls (l : List UInt8) (c : UInt8) (b : Bool) (hb : l.contains c = b) (w : World) (hl : l.length ≤ 140737488351232) :
    Calls Tryz.prog 105 #[.string (bs l), .string ⟨#[c]⟩] w fun e w' => e = .returned (.tuple #[.string (bs (cutL l c)), .string (bs (cutR l c)), .bool b]) ∧ Drawn0 w w' := by
  have hi : ∀ w, Calls Tryz.prog 99 #[.string (bs l), .string ⟨#[c]⟩] w fun e w' => e = .returned (.int .i64 (if l.contains c then ((cutL l c).length : Int) else -1)) ∧ w = w' := by
    intro w
    have h := Tryz.stringslite_Index_one (bs l) c w
    rw [data_bs, idx_span] at h
    exact h.mono fun _ _ h => ⟨h.1, h.2.symm⟩
  by_cases hc : l.contains c = true
  · obtain ⟨h1, h2, h3⟩ := cut_length l c hc
    obtain rfl : b = true := hb.symm.trans hc
    clear hb
    have HI : ∀ w, Hid (Calls Tryz.prog 99 #[.string (bs l), .string ⟨#[c]⟩] w fun e w' => e = .returned (.int .i64 ((cutL l c).length : Int)) ∧ w = w') := by
      intro w
      have := hi w
      rw [if_pos hc] at this
      exact this
    have e1 : ByteArray.extract (bs l) 0 (cutL l c).length = bs (cutL l c) := by rw [extract_bs, List.drop_zero, ← h2]
    have e2 : ByteArray.extract (bs l) ((cutL l c).length + 1) (bs l).size = bs (cutR l c) := by rw [extract_bs, h3, List.take_of_length_le (by rw [size_bs]; exact Nat.le_refl _)]
    have E1 := Lib.hid e1
    have E2 := Lib.hid e2
    have hz : (cutL l c).length < (bs l).size := by rw [size_bs]; exact h1
    have hz2 : (bs l).size ≤ 140737488351232 := by rw [size_bs]; exact hl
    generalize (cutL l c).length = n at *
    clear hi hc h2 h3 e1 e2
    go_enter Tryz.func105, Tryz.ntmps105
    go_wp2_with (go_at_call 99; refine (HI _).out.mono ?_; rintro e w1 ⟨rfl, rfl⟩)
    go_quiet (fail)
    go_wp2
    go_ret3
    rw [E1.out, E2.out]
    exact ⟨rfl, ⟨_, rfl⟩⟩
  · have hc' : l.contains c = false := by simpa using hc
    obtain ⟨h1, h2⟩ := cut_none l c hc'
    obtain rfl : b = false := hb.symm.trans hc'
    clear hb
    rw [h1, h2]
    have HI : ∀ w, Hid (Calls Tryz.prog 99 #[.string (bs l), .string ⟨#[c]⟩] w fun e w' => e = .returned (.int .i64 (-1)) ∧ w = w') := by
      intro w
      have := hi w
      rw [if_neg hc] at this
      exact this
    clear hi hc hc' h1 h2
    go_enter Tryz.func105, Tryz.ntmps105
    go_wp2_with (go_at_call 99; refine (HI _).out.mono ?_; rintro e w1 ⟨rfl, rfl⟩)
    go_ret3
    exact ⟨rfl, Drawn0.refl _⟩
set_option maxHeartbeats 400000 in
theorem cut_calls (l : List UInt8) (c : UInt8) (b : Bool) (hb : l.contains c = b) (w : World) (hl : l.length ≤ 140737488351232) :
    Calls Tryz.prog 90 #[.string (bs l), .string ⟨#[c]⟩] w fun e w' => e = .returned (.tuple #[.string (bs (cutL l c)), .string (bs (cutR l c)), .bool b]) ∧ Drawn0 w w' := by
  have HB := Lib.hid hb
  clear hb
  go_enter Tryz.func90, Tryz.ntmps90
  go_wp2_with (go_at_call 105; refine (slcut_calls l c b HB.out _ hl).mono ?_; rintro e w1 ⟨rfl, hd⟩)
  go_ret3
  exact ⟨rfl, hd⟩
end Go.Proofs.YtjdjljgbfpkbdaaGreatDoor.Q
