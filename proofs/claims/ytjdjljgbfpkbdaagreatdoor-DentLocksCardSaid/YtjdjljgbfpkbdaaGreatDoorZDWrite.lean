import Derived.Test.YtjdjljgbfpkbdaaGreatDoorZQ0
import Derived.Test.YtjdjljgbfpkbdaaGreatDoorZDWr
set_option linter.unusedVariables false
set_option linter.unusedSimpArgs false
namespace Go.Proofs.YtjdjljgbfpkbdaaGreatDoor.Q
open Go.RowKit Go.Proofs.YtjdjljgbfpkbdaaGreatDoorW.PrintWords Go.Proofs.YtjdjljgbfpkbdaaGreatDoorW.PrintLast Go.Proofs.YtjdjljgbfpkbdaaGreatDoorW.PrintMore
def toLk (x : S43) : Lk := ⟨x.f0, x.f1, x.f2, x.f3, x.f4⟩
def smallB (x : Lk) : Bool := decide (x.root.size ≤ 8000) && decide (x.version.size ≤ 8000) && decide (x.rev.size ≤ 8000) && decide (x.within.size ≤ 8000) && decide (x.source.size ≤ 8000)
theorem smallB_iff {x : Lk} (h : smallB x = true) : wsmall x := by
  simp only [smallB, Bool.and_eq_true, decide_eq_true_eq] at h
  obtain ⟨⟨⟨⟨h0, h1⟩, h2⟩, h3⟩, h4⟩ := h
  exact ⟨h0, h1, h2, h3, h4⟩
def dent_Write.f : List S43 → Option ByteArray
  | [] => some ⟨#[]⟩
  | x :: l => if (x :: l).length ≤ 1000 ∧ ((x :: l).map toLk).all smallB = true then some ⟨(writeD ((x :: l).map toLk)).toArray⟩ else none
theorem dent_Write.f_cons (x : S43) (l : List S43) : dent_Write.f (x :: l) = if (x :: l).length ≤ 1000 ∧ ((x :: l).map toLk).all smallB = true then some ⟨(writeD ((x :: l).map toLk)).toArray⟩ else none := rfl
theorem rows_at {w : World} {A : Option Addr} {l : List S43} (h : Kd.C k43 w A l.length l) : RowAt w A (l.map toLk) := by
  intro j hj
  rw [List.length_map] at hj
  obtain ⟨ad, hA, h0, h1, h2, h3, h4⟩ := at_T43 h (j : Int) (by omega) (by omega)
  have e : rd_T43 l (j : Int) = l[j] := by simp [rd_T43, List.getD, List.getElem?_eq_getElem hj]
  rw [e] at h0 h1 h2 h3 h4
  simp only [Int.toNat_natCast] at h0 h1 h2 h3 h4
  refine ⟨ad, hA, ?_⟩
  rw [List.getElem_map]
  exact ⟨h0, h1, h2, h3, h4⟩
theorem dent_Write.calls (A0 : Option Addr) (c0 : Nat) (l0 : List S43) (r : ByteArray) (w : World) (hG : GL w) (hr0 : Kd.C k43 w A0 l0.length l0) (hc0 : l0.length ≤ c0) (h : dent_Write.f l0 = some r) :
    Calls Tryz.prog 10 #[.slice A0 l0.length c0] w fun e w' => e = .returned (.string r) ∧ Below w.heap.size w w' := by
  cases l0 with
  | nil =>
    obtain rfl := Option.some.inj h
    clear hr0 h
    go_enter Tryz.func10, Tryz.ntmps10
    go_wp2_with (fail)
    go_ret
    exact ⟨rfl, Below.refl _ _⟩
  | cons x l =>
    rw [dent_Write.f_cons] at h
    split at h
    · next hs =>
      obtain rfl := Option.some.inj h
      have := dwrite_all w A0 c0 ((x :: l).map toLk) (rows_at hr0) (by rw [List.length_map]; exact hs.1) (fun x hx => smallB_iff (List.all_eq_true.1 hs.2 x hx)) hG (by simp)
      rw [List.length_map] at this
      exact this
    · cases h
end Go.Proofs.YtjdjljgbfpkbdaaGreatDoor.Q
