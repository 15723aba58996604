import Derived.Test.YtjdjljgbfpkbdaaGreatDoorZR
set_option linter.unusedVariables false
set_option linter.unusedSimpArgs false
namespace Go.Proofs.YtjdjljgbfpkbdaaGreatDoor.R
open Go.RowKit Go.Proofs.YtjdjljgbfpkbdaaGreatDoorW.PrintWords
def quoteB (b : UInt8) : List UInt8 := if b = 34 then [92, 34] else if b = 92 then [92, 92] else if b = 10 then [92, 110] else if b = 9 then [92, 116] else [b]
def quoteL (l : List UInt8) : List UInt8 := 34 :: (l.flatMap quoteB ++ [34])
def nats (l : List UInt8) : List Int := l.map fun x => (x.toNat : Int)
theorem nats_append (l m : List UInt8) : nats (l ++ m) = nats l ++ nats m := by simp [nats]
theorem nats_length (l : List UInt8) : (nats l).length = l.length := by simp [nats]
theorem strOf_nats (l : List UInt8) : strOfNums (nats l) = ⟨l.toArray⟩ := by
  unfold strOfNums nats
  rw [List.map_map]
  exact congrArg (fun l : List UInt8 => (⟨l.toArray⟩ : ByteArray)) ((List.map_congr_left fun x _ => by simp).trans (List.map_id l))
theorem idx_cases (b : UInt8) : (b = 34 ∧ Lib.indexByte [34, 92, 10, 9] b = 0) ∨ (b = 92 ∧ Lib.indexByte [34, 92, 10, 9] b = 1) ∨ (b = 10 ∧ Lib.indexByte [34, 92, 10, 9] b = 2) ∨ (b = 9 ∧ Lib.indexByte [34, 92, 10, 9] b = 3)
    ∨ (b ≠ 34 ∧ b ≠ 92 ∧ b ≠ 10 ∧ b ≠ 9 ∧ Lib.indexByte [34, 92, 10, 9] b = -1) := by
  by_cases h0 : b = 34
  · subst h0; exact .inl ⟨rfl, rfl⟩
  by_cases h1 : b = 92
  · subst h1; exact .inr (.inl ⟨rfl, rfl⟩)
  by_cases h2 : b = 10
  · subst h2; exact .inr (.inr (.inl ⟨rfl, rfl⟩))
  by_cases h3 : b = 9
  · subst h3; exact .inr (.inr (.inr (.inl ⟨rfl, rfl⟩)))
  refine .inr (.inr (.inr (.inr ⟨h0, h1, h2, h3, ?_⟩)))
  have hge := Lib.indexByte_ge [34, 92, 10, 9] b
  rcases Int.lt_or_le (Lib.indexByte [34, 92, 10, 9] b) 0 with h | h
  · omega
  · obtain ⟨n, hn⟩ := Int.eq_ofNat_of_zero_le h
    have hm := List.mem_of_getElem? (Lib.indexByte_some hn).1
    simp at hm
    rcases hm with h | h | h | h
    · exact absurd h h0
    · exact absurd h h1
    · exact absurd h h2
    · exact absurd h h3
theorem quote_go (s : ByteArray) (hs : s.size ≤ 100000000) : ∀ (m j : Nat) (acc : List UInt8), j + m = s.size → acc.length ≤ 2 * j + 1 →
    text_Quote.l0 (m + 1) s (nats acc) s.size j = some ⟨(acc ++ ((s.data.toList.drop j).flatMap quoteB ++ [34])).toArray⟩ := by
  intro m
  induction m with
  | zero =>
    intro j acc hj ha
    unfold text_Quote.l0
    rw [if_neg (by omega), nats_length, if_pos (by omega)]
    rw [List.drop_eq_nil_of_le (by rw [data_length]; omega)]
    have := strOf_nats (acc ++ [34])
    rw [nats_append] at this
    exact congrArg some this
  | succ m ih =>
    intro j acc hj ha
    have hlt : j < s.size := by omega
    have hb : bt s j = (s[j].toNat : Int) := by simp [bt, hlt]
    have hd : s.data.toList.drop j = s[j] :: s.data.toList.drop (j + 1) := List.drop_eq_getElem_cons (by rw [data_length]; exact hlt)
    have hw : wrap64 ((j : Int) + 1) = ((j + 1 : Nat) : Int) := by unfold wrap64; omega
    unfold text_Quote.l0
    rw [if_pos (by omega), if_pos (by omega), if_pos (by omega), if_pos (by omega), if_pos (by omega), hb, hd, hw]
    generalize s[j] = b at *
    have hi : strings_IndexByte.f ((⟨#[34, 92, 10, 9, 47]⟩ : ByteArray).extract 0 4) (b.toNat : Int) = some (Lib.indexByte [34, 92, 10, 9] b) := by
      unfold strings_IndexByte.f
      have : ((b.toNat : Int).toNat.toUInt8) = b := by simp
      rw [this]
      rfl
    rw [hi, Option.bind_some]
    have two : ∀ (i : Nat) (c : UInt8), Lib.indexByte [34, 92, 10, 9] b = i → i < 5 → bt (⟨#[34, 92, 110, 116, 47]⟩ : ByteArray) i = (c.toNat : Int) → quoteB b = [92, c] →
        (if Lib.indexByte [34, 92, 10, 9] b ≥ 0 then (if 0 ≤ Lib.indexByte [34, 92, 10, 9] b then (if Lib.indexByte [34, 92, 10, 9] b < 5 then ((some (([92, bt (⟨#[34, 92, 110, 116, 47]⟩ : ByteArray) (Lib.indexByte [34, 92, 10, 9] b)] : List Int) : List Int)).bind fun y105 => (if (nats acc).length + y105.length < 140737488355328 then (text_Quote.l0 (m + 1) s (nats acc ++ y105) s.size ((j + 1 : Nat) : Int)) else (none))) else (none)) else (none)) else (if (nats acc).length < 140737488355328 then (text_Quote.l0 (m + 1) s (nats acc ++ [(b.toNat : Int)]) s.size ((j + 1 : Nat) : Int)) else (none)))
        = some ⟨(acc ++ ((b :: s.data.toList.drop (j + 1)).flatMap quoteB ++ [34])).toArray⟩ := by
      intro i c hi hi5 hc hq
      rw [hi, if_pos (by omega), if_pos (by omega), if_pos (by omega), hc, Option.bind_some, if_pos (by rw [nats_length]; simp only [List.length_cons, List.length_nil]; omega)]
      have e : nats acc ++ [92, (c.toNat : Int)] = nats (acc ++ [92, c]) := by rw [nats_append]; rfl
      rw [e, ih (j + 1) (acc ++ [92, c]) (by omega) (by simp only [List.length_append, List.length_cons, List.length_nil]; omega), List.flatMap_cons, hq]
      simp
    rcases idx_cases b with ⟨hb, hi⟩ | ⟨hb, hi⟩ | ⟨hb, hi⟩ | ⟨hb, hi⟩ | ⟨h0, h1, h2, h3, hi⟩
    · exact two 0 34 hi (by omega) rfl (by rw [hb]; rfl)
    · exact two 1 92 hi (by omega) rfl (by rw [hb]; rfl)
    · exact two 2 110 hi (by omega) rfl (by rw [hb]; rfl)
    · exact two 3 116 hi (by omega) rfl (by rw [hb]; rfl)
    · have hq : quoteB b = [b] := by unfold quoteB; rw [if_neg h0, if_neg h1, if_neg h2, if_neg h3]
      rw [hi, if_neg (by omega), if_pos (by rw [nats_length]; omega)]
      have e : nats acc ++ [(b.toNat : Int)] = nats (acc ++ [b]) := by rw [nats_append]; rfl
      rw [e, ih (j + 1) (acc ++ [b]) (by omega) (by simp only [List.length_append, List.length_cons, List.length_nil]; omega), List.flatMap_cons, hq]
      simp
theorem quote_law (s : ByteArray) (hs : s.size ≤ 100000000) : text_Quote.f (s.size + 1) s = some ⟨(quoteL s.data.toList).toArray⟩ := by
  have := quote_go s hs s.size 0 [34] (by omega) (by simp)
  exact this
theorem quote_calls (s : ByteArray) (hs : s.size ≤ 100000000) (w : World) :
    Calls Tryz.prog 22 #[.string s] w fun e w' => e = .returned (.string ⟨(quoteL s.data.toList).toArray⟩) ∧ Below w.heap.size w w' :=
  text_Quote.calls _ s _ w (quote_law s hs)
theorem quoteB_length (b : UInt8) : (quoteB b).length ≤ 2 := by
  unfold quoteB
  split
  · decide
  · split
    · decide
    · split
      · decide
      · split <;> simp
theorem quoteL_length (l : List UInt8) : (quoteL l).length ≤ 2 * l.length + 2 := by
  have : (l.flatMap quoteB).length ≤ 2 * l.length := by
    induction l with
    | nil => simp
    | cons b l ih =>
      rw [List.flatMap_cons, List.length_append, List.length_cons]
      have := quoteB_length b
      omega
  simp only [quoteL, List.length_cons, List.length_append, List.length_nil]
  omega
end Go.Proofs.YtjdjljgbfpkbdaaGreatDoor.R
