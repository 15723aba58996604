import Derived.Test.YtjdjljgbfpkbdaaGreatDoorZShelf
import Derived.Test.YtjdjljgbfpkbdaaGreatDoorZBase
set_option linter.unusedVariables false
set_option linter.unusedSimpArgs false
namespace Go.Proofs.YtjdjljgbfpkbdaaGreatDoor.Q
open Go.RowKit Go.Proofs.YtjdjljgbfpkbdaaGreatDoorW.PrintWords
def bs (l : List UInt8) : ByteArray := ⟨l.toArray⟩
theorem bs_data (s : ByteArray) : bs s.data.toList = s := by simp [bs]
theorem data_bs (l : List UInt8) : (bs l).data.toList = l := by simp [bs]
theorem size_bs (l : List UInt8) : (bs l).size = l.length := by simp [bs, ByteArray.size]
theorem toList_bs (l : List UInt8) : (bs l).toList = l := by simp [bs]
theorem ext_bs {s t : ByteArray} (h : s.data.toList = t.data.toList) : s = t := by rw [← bs_data s, ← bs_data t, h]
theorem extract_bs (l : List UInt8) (i j : Nat) : (bs l).extract i j = bs ((l.take j).drop i) := ext_bs (by simp [bs, ByteArray.data_extract, List.extract_eq_take_drop, List.drop_take])
theorem idx_span (l : List UInt8) (c : UInt8) : Lib.indexByte l c = if l.contains c then ((l.takeWhile (· != c)).length : Int) else -1 := by
  induction l with
  | nil => simp [Lib.indexByte]
  | cons x r ih =>
    unfold Lib.indexByte
    by_cases h : x = c
    · subst h
      simp
    · have hb : (x != c) = true := by simpa using h
      have hc : (c == x) = false := by simpa using fun e => h e.symm
      simp only [List.contains_cons, hc, Bool.false_or, List.takeWhile_cons, hb]
      rw [ih]
      simp [h]
      split <;> simp_all
      all_goals omega
def cutL (l : List UInt8) (c : UInt8) : List UInt8 := l.takeWhile (· != c)
def cutR (l : List UInt8) (c : UInt8) : List UInt8 := (l.dropWhile (· != c)).tail
theorem cut_length (l : List UInt8) (c : UInt8) (h : l.contains c = true) : (cutL l c).length < l.length ∧ cutL l c = l.take (cutL l c).length ∧ cutR l c = l.drop ((cutL l c).length + 1) := by
  induction l with
  | nil => simp at h
  | cons x r ih =>
    by_cases hx : x = c
    · subst hx
      simp [cutL, cutR]
    · have hb : (x != c) = true := by simpa using hx
      have hr : r.contains c = true := by
        have hc : (c == x) = false := by simpa using fun e => hx e.symm
        rw [List.contains_cons, hc, Bool.false_or] at h
        exact h
      obtain ⟨h1, h2, h3⟩ := ih hr
      unfold cutL cutR at *
      simp only [List.takeWhile_cons, List.dropWhile_cons, hb, if_true, List.length_cons, List.take_succ_cons, List.drop_succ_cons]
      exact ⟨by omega, by rw [← h2], h3⟩
theorem cut_none (l : List UInt8) (c : UInt8) (h : l.contains c = false) : cutL l c = l ∧ cutR l c = [] := by
  have hp : ∀ x ∈ l, (x != c) = true := by
    intro x hx
    simp at h
    simp
    rintro rfl
    exact h hx
  unfold cutL cutR
  clear h
  induction l with
  | nil => exact ⟨rfl, rfl⟩
  | cons x r ih =>
    obtain ⟨h1, h2⟩ := ih (fun y hy => hp y (List.mem_cons_of_mem _ hy))
    have hx := hp x List.mem_cons_self
    simp only [List.takeWhile_cons, List.dropWhile_cons, hx, if_true]
    exact ⟨by rw [h1], h2⟩
def parts (c : UInt8) : List UInt8 → List (List UInt8)
  | [] => [[]]
  | x :: r => if x = c then [] :: parts c r else match parts c r with | [] => [[x]] | w :: ws => (x :: w) :: ws
theorem parts_ne (c : UInt8) (l : List UInt8) : parts c l ≠ [] := by
  cases l with
  | nil => simp [parts]
  | cons x r =>
    unfold parts
    split
    · simp
    · split <;> simp
theorem parts_cons (c x : UInt8) (r : List UInt8) : parts c (x :: r) = if x = c then [] :: parts c r else match parts c r with | [] => [[x]] | w :: ws => (x :: w) :: ws := rfl
theorem parts_cut (c : UInt8) (l : List UInt8) : parts c l = cutL l c :: (if l.contains c = true then parts c (cutR l c) else []) := by
  induction l with
  | nil => simp [parts, cutL]
  | cons x r ih =>
    rw [parts_cons]
    by_cases hx : x = c
    · subst hx
      rw [if_pos rfl, if_pos (by simp)]
      simp [cutL, cutR]
    · rw [if_neg hx, ih]
      have hb : (x != c) = true := by simpa using hx
      have hc : (c == x) = false := by simpa using fun e => hx e.symm
      have e1 : cutL (x :: r) c = x :: cutL r c := by simp only [cutL, List.takeWhile_cons, hb, if_true]
      have e2 : cutR (x :: r) c = cutR r c := by simp only [cutR, List.dropWhile_cons, hb, if_true]
      rw [e1, e2, List.contains_cons, hc, Bool.false_or]
end Go.Proofs.YtjdjljgbfpkbdaaGreatDoor.Q
