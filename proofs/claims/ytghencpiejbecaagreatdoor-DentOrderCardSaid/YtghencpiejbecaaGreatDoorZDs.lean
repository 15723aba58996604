import Derived.Test.YtghencpiejbecaaGreatDoorZDa
import Derived.Test.YtghencpiejbecaaGreatDoorZPieces
set_option linter.unusedVariables false
set_option linter.unusedSimpArgs false
namespace Go.Proofs.YtghencpiejbecaaGreatDoor.Q
open Go.RowKit Go.Proofs.YtghencpiejbecaaGreatDoorW.PrintWords
def mayL : List UInt8 → Bool
  | [] => false
  | b :: t => decide (Lib.indexByte [34, 32, 35] b < 0) && ((b :: t).getLast (by simp) != 32) && !Lib.contains (b :: t) [32, 35] && !decide (0 ≤ Lib.indexByte (b :: t) 10)
def valueL (s : List UInt8) : List UInt8 × Bool :=
  match unq s with
  | some (out, used) => if used = s.length then (out, true) else (s, mayL s)
  | none => (s, mayL s)
def pairL (x : List UInt8) : Option (ByteArray × List UInt8) :=
  if (Lib.cut x [58, 32]).2.2 = true ∧ Lib.containsS names ⟨(Lib.cut x [58, 32]).1.toArray⟩ = true then
    if (valueL (Lib.cut x [58, 32]).2.1).2 = true then some (⟨(Lib.cut x [58, 32]).1.toArray⟩, (valueL (Lib.cut x [58, 32]).2.1).1) else none
  else none
inductive DRes
  | bad (wh : Nat) (e : Int)
  | ok (l : List Lk) (has : List ByteArray)
def beginE (l : List Lk) : Int := if endedE l = 0 then if 40 ≤ l.length then 2 else 0 else endedE l
def fieldD (a : Nat) (l : List Lk) (has : List ByteArray) (k : ByteArray) (v : List UInt8) : DRes :=
  if Lib.containsS has k = true then .bad a 4
  else if (needsPath k && !rightL v) = true then .bad a 7
  else match l.getLast? with
    | none => .bad a 1
    | some x => .ok (l.dropLast ++ [x.set (Lib.idxOfS names k).toNat ⟨v.toArray⟩]) (has ++ [k])
def lineD (x : List UInt8) (a : Nat) (l : List Lk) (has : List ByteArray) : DRes :=
  if Lib.hasPrefix x [45, 32] = true then
    match pairL (x.drop 2) with
    | none => .bad a 1
    | some (k, v) => if beginE l = 0 then fieldD a (l ++ [Lk.zero]) [] k v else .bad a (beginE l)
  else if Lib.hasPrefix x [32, 32] = true ∧ l ≠ [] then
    match pairL (x.drop 2) with
    | none => .bad a 1
    | some (k, v) => fieldD a l has k v
  else .bad a 1
def wholeL (x : List UInt8) : List UInt8 := Lib.trimSuffix x [10]
def wordL (x : List UInt8) : List UInt8 := Lib.trimLeftB (wholeL x) 32
def locksWordL : List UInt8 := [108, 111, 99, 107, 115, 58]
structure DSt where
  frm : Nat
  begun : Bool
  r : DRes
def stepD (st : DSt) (x : List UInt8) : DSt :=
  match st.r with
  | .bad wh e => ⟨st.frm + x.length, st.begun, .bad wh e⟩
  | .ok l has =>
    if wordL x = [] ∨ (wordL x).head? = some 35 then ⟨st.frm + x.length, st.begun, .ok l has⟩
    else if st.begun = true then ⟨st.frm + x.length, true, lineD (wholeL x) (st.frm + ((wholeL x).length - (wordL x).length)) l has⟩
    else if wholeL x = locksWordL then ⟨st.frm + x.length, true, .ok l has⟩
    else ⟨st.frm + x.length, false, .bad (st.frm + ((wholeL x).length - (wordL x).length)) 1⟩
def badAt : List UInt8 → Option Nat
  | [] => none
  | b :: t => if plainB b = true then (badAt t).map (· + 1) else some 0
def start (s : List UInt8) : DSt := ⟨0, false, match badAt s with | some k => .bad k 1 | none => .ok [] []⟩
def linesD (s : List UInt8) (ps : List (List UInt8)) : DSt := ps.foldl stepD (start s)
def locksD (s : List UInt8) : List Lk × Nat × Int :=
  if 8000 < s.length then ([], 0, 2)
  else match (linesD s (pieces s)).r with
  | .bad wh e => ([], wh, e)
  | .ok l _ => if endedE l = 0 then (l, 0, 0) else ([], s.length, endedE l)
theorem unq_bound (l : List UInt8) (r : List UInt8 × Nat) (h : unq l = some r) : r.2 ≤ l.length ∧ r.1.length ≤ l.length := by
  unfold unq at h
  split at h
  · have := unqGo_bound _ _ _ _ h
    simp only [List.length_cons, List.length_nil] at this ⊢
    omega
  · cases h
theorem valueL_len (s : List UInt8) : (valueL s).1.length ≤ s.length := by
  unfold valueL
  split
  · rename_i out used h
    have := (unq_bound s _ h).2
    split
    · exact this
    · exact Nat.le_refl _
  · exact Nat.le_refl _
theorem cut_len (x sep : List UInt8) : (Lib.cut x sep).1.length ≤ x.length ∧ (Lib.cut x sep).2.1.length ≤ x.length := by
  unfold Lib.cut
  split
  · simp only [List.length_take, List.length_drop]; omega
  · simp
theorem pairL_len {x : List UInt8} {k : ByteArray} {v : List UInt8} (h : pairL x = some (k, v)) : v.length ≤ x.length ∧ Lib.containsS names k = true := by
  unfold pairL at h
  split at h
  · rename_i h1
    split at h
    · simp only [Option.some.injEq, Prod.mk.injEq] at h
      obtain ⟨rfl, rfl⟩ := h
      exact ⟨Nat.le_trans (valueL_len _) (cut_len x _).2, h1.2⟩
    · cases h
  · cases h
theorem word_len (x : List UInt8) : (wordL x).length ≤ (wholeL x).length := (List.dropWhile_suffix _).length_le
theorem whole_len (x : List UInt8) : (wholeL x).length ≤ x.length := by
  unfold wholeL Lib.trimSuffix
  split
  · simp only [List.length_take]; omega
  · exact Nat.le_refl _
def DInv (n j : Nat) : DRes → Prop
  | .bad wh e => wh ≤ n ∧ e ≠ 0
  | .ok l has => l.length ≤ 40 ∧ has.length ≤ j
theorem field_inv {n j a : Nat} {l : List Lk} {has : List ByteArray} {k : ByteArray} {v : List UInt8} (ha : a ≤ n) (hl : l.length ≤ 40) (hh : has.length ≤ j) : DInv n (j + 1) (fieldD a l has k v) := by
  unfold fieldD
  split
  · exact ⟨ha, by decide⟩
  · split
    · exact ⟨ha, by decide⟩
    · split
      · exact ⟨ha, by decide⟩
      · rename_i x hx
        have hne : l ≠ [] := by rintro rfl; simp at hx
        have := List.length_pos_iff.2 hne
        refine ⟨?_, by simpa using hh⟩
        simp only [List.length_append, List.length_dropLast, List.length_cons, List.length_nil]
        omega
theorem line_inv {n j a : Nat} {x : List UInt8} {l : List Lk} {has : List ByteArray} (ha : a ≤ n) (hl : l.length ≤ 40) (hh : has.length ≤ j) : DInv n (j + 1) (lineD x a l has) := by
  unfold lineD
  split
  · split
    · exact ⟨ha, by decide⟩
    · split
      · rename_i h
        have : l.length < 40 := by
          unfold beginE at h
          split at h
          · split at h
            · cases h
            · omega
          · omega
        exact field_inv ha (by simp only [List.length_append, List.length_cons, List.length_nil]; omega) (Nat.zero_le _)
      · rename_i h
        exact ⟨ha, h⟩
  · split
    · split
      · exact ⟨ha, by decide⟩
      · exact field_inv ha hl hh
    · exact ⟨ha, by decide⟩
theorem step_inv {n j : Nat} {st : DSt} {x : List UInt8} (h : DInv n j st.r) (hx : st.frm + x.length ≤ n) : DInv n (j + 1) (stepD st x).r ∧ (stepD st x).frm = st.frm + x.length := by
  have h1 := word_len x
  have h2 := whole_len x
  unfold stepD
  split
  · rename_i wh e hr
    rw [hr] at h
    exact ⟨h, rfl⟩
  · rename_i l has hr
    rw [hr] at h
    have hup : DInv n (j + 1) (.ok l has) := ⟨h.1, by have := h.2; omega⟩
    split
    · exact ⟨hup, rfl⟩
    · split
      · exact ⟨line_inv (by omega) h.1 h.2, rfl⟩
      · split
        · exact ⟨hup, rfl⟩
        · exact ⟨⟨by omega, by decide⟩, rfl⟩
theorem badAt_le : ∀ (s : List UInt8) (k : Nat), badAt s = some k → k < s.length
  | [], k, h => by simp [badAt] at h
  | b :: t, k, h => by
    unfold badAt at h
    split at h
    · cases hb : badAt t with
      | none => rw [hb] at h; simp at h
      | some m =>
        rw [hb] at h
        simp only [Option.map_some, Option.some.injEq] at h
        have := badAt_le t m hb
        simp only [List.length_cons]
        omega
    · simp only [Option.some.injEq] at h
      simp only [List.length_cons]
      omega
theorem start_inv (s : List UInt8) : DInv s.length 0 (start s).r := by
  unfold start
  simp only
  split
  · rename_i k h
    exact ⟨Nat.le_of_lt (badAt_le s k h), by decide⟩
  · exact ⟨Nat.zero_le _, Nat.zero_le _⟩
theorem lines_snoc (s : List UInt8) (ps : List (List UInt8)) (x : List UInt8) : linesD s (ps ++ [x]) = stepD (linesD s ps) x := by simp [linesD, List.foldl_append]
theorem fold_inv (n : Nat) : ∀ (ps : List (List UInt8)) (j : Nat) (st : DSt), DInv n j st.r → st.frm + ps.flatten.length ≤ n →
    DInv n (j + ps.length) (ps.foldl stepD st).r ∧ (ps.foldl stepD st).frm = st.frm + ps.flatten.length
  | [], j, st, h, _ => ⟨h, rfl⟩
  | x :: ps, j, st, h, hn => by
    simp only [List.flatten_cons, List.length_append] at hn
    obtain ⟨h3, h4⟩ := step_inv h (x := x) (by omega)
    obtain ⟨h5, h6⟩ := fold_inv n ps (j + 1) (stepD st x) h3 (by omega)
    refine ⟨?_, ?_⟩
    · rw [List.foldl_cons, List.length_cons, show j + (ps.length + 1) = j + 1 + ps.length from by omega]
      exact h5
    · rw [List.foldl_cons, h6, h4]
      simp only [List.flatten_cons, List.length_append]
      omega
theorem lines_inv (s : List UInt8) (ps qs : List (List UInt8)) (h : ps ++ qs = pieces s) : DInv s.length ps.length (linesD s ps).r ∧ (linesD s ps).frm = ps.flatten.length := by
  have e := congrArg List.length (pieces_flat s)
  rw [← h] at e
  simp only [List.flatten_append, List.length_append] at e
  obtain ⟨h1, h2⟩ := fold_inv s.length ps 0 (start s) (start_inv s) (by show 0 + _ ≤ _; omega)
  rw [Nat.zero_add] at h1
  exact ⟨h1, h2.trans (Nat.zero_add _)⟩
end Go.Proofs.YtghencpiejbecaaGreatDoor.Q
