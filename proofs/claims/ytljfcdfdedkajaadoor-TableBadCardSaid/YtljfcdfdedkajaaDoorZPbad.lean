import Derived.Test.YtljfcdfdedkajaaDoorZPk
import Derived.Test.YtljfcdfdedkajaaDoorZPng
import Derived.Test.YtljfcdfdedkajaaDoorZTRef
import Derived.Test.YtljfcdfdedkajaaDoorZQ3
set_option linter.unusedVariables false
set_option linter.unusedSimpArgs false
namespace Go.Proofs.YtljfcdfdedkajaaDoor.Q
open Go.RowKit Go.Proofs.YtljfcdfdedkajaaDoorW.PrintWords Go.Proofs.YtljfcdfdedkajaaDoorW.PrintLast Go.Proofs.YtljfcdfdedkajaaDoorW.PrintMore
def BadAt (s : ByteArray) (k : Nat) : Prop := ∃ h : k < s.size, plainB (s[k]'h) = false
theorem bad_span {s : ByteArray} {k : Nat} (hb : BadAt s k) (p : UInt8 → Bool) (hp : ∀ b, p b = true → plainB b = true) (i : Nat) (hi : i ≤ k) : spanEnd p s i ≤ k := by
 obtain ⟨h, hb⟩ := hb
 rcases Nat.lt_or_ge k (spanEnd p s i) with hlt | hge
 ·have := hp _ (spanEnd_mid p s (k - i) i k (by omega) h hlt)
  rw [this] at hb
  cases hb
 ·exact hge
theorem plain_blank (b : UInt8) (h : blank b = true) : plainB b = true := by
 rcases blank_or b h with rfl | rfl <;> decide
theorem plain_lower (b : UInt8) (h : lower b = true) : plainB b = true := by
 have all : ∀ n : Nat, n < 256 → lower (UInt8.ofNat n) = true → plainB (UInt8.ofNat n) = true := by decide +kernel
 have := all b.toNat b.toNat_lt
 simp only [UInt8.ofNat_toNat] at this
 exact this h
theorem plain_note (b : UInt8) (h : noteB b = true) : plainB b = true := by
 simp only [noteB, Bool.and_eq_true] at h
 exact h.1
theorem bad_get {s : ByteArray} {k a : Nat} (hb : BadAt s k) (ha : a ≤ k) : ∃ b, (s.data.toList.drop a)[k - a]? = some b ∧ plainB b = false := by
 obtain ⟨h, hb⟩ := hb
 refine ⟨s[k], ?_, hb⟩
 rw [List.getElem?_drop, show a + (k - a) = k from by omega, List.getElem?_eq_getElem (by rw [data_length]; exact h)]
 rfl
theorem common_bad : ∀ (l m : List UInt8) (j : Nat) (b : UInt8), m[j]? = some b → plainB b = false → l.all plainB = true → common l m ≤ j
 | [], m, j, b, _, _, _ => by simp [common]
 | x :: l, [], j, b, h, _, _ => by simp at h
 | x :: l, y :: m, j, b, h, hb, hl => by
  simp only [List.all_cons, Bool.and_eq_true] at hl
  unfold common
  by_cases e : x = y
  ·rw [if_pos e]
   cases j with
   | zero =>
    simp only [List.getElem?_cons_zero, Option.some.injEq] at h
    rw [← h, ← e, hl.1] at hb
    cases hb
   | succ j =>
    rw [List.getElem?_cons_succ] at h
    have := common_bad l m j b h hb hl.2
    omega
  ·rw [if_neg e]
   omega
theorem bad_common {s : ByteArray} {k a : Nat} (hb : BadAt s k) (ha : a ≤ k) (l : List UInt8) (hl : l.all plainB = true) : a + common l (s.data.toList.drop a) ≤ k := by
 obtain ⟨b, h1, h2⟩ := bad_get hb ha
 have := common_bad l _ _ b h1 h2 hl
 omega
theorem bad_prefix {s : ByteArray} {k a : Nat} (hb : BadAt s k) (ha : a ≤ k) (l : List UInt8) (hl : l.all plainB = true) (hp : Lib.hasPrefix (s.data.toList.drop a) l = true) : a + l.length ≤ k := by
 have := bad_common hb ha l hl
 rw [pre_common _ _ hp] at this
 exact this
theorem esc_plain (y z : UInt8) (h : esc y = some z) : plainB y = true := by
 have all : ∀ n : Nat, n < 256 → (esc (UInt8.ofNat n)).isSome = true → plainB (UInt8.ofNat n) = true := by decide +kernel
 have := all y.toNat y.toNat_lt
 simp only [UInt8.ofNat_toNat] at this
 exact this (by rw [h]; rfl)
theorem plain_in {x : UInt8} (h : ¬ (x < 32 ∨ 126 < x)) : plainB x = true := by
 simp only [plainB, Bool.or_eq_true, Bool.and_eq_true, beq_iff_eq, decide_eq_true_eq]
 right
 rw [UInt8.lt_iff_toNat_lt, UInt8.lt_iff_toNat_lt] at h
 rw [UInt8.le_iff_toNat_le, UInt8.le_iff_toNat_le]
 constructor <;> omega
theorem unqGo_bad : ∀ (d : Nat) (l acc : List UInt8) (n j : Nat) (b : UInt8) (r : List UInt8 × Nat), l.length ≤ d → unqGo l acc n = some r → l[j]? = some b → plainB b = false → r.2 ≤ n + j
 | d, [], acc, n, j, b, r, hd, h, hj, hb => by simp at hj
 | 0, x :: l, acc, n, j, b, r, hd, h, hj, hb => by simp at hd
 | d + 1, x :: l, acc, n, j, b, r, hd, h, hj, hb => by
  rw [unqGo_cons] at h
  split at h
  ·cases h
  ·next hx =>
   have hj0 : j ≠ 0 := by
    rintro rfl
    simp only [List.getElem?_cons_zero, Option.some.injEq] at hj
    rw [← hj, plain_in hx] at hb
    cases hb
   obtain ⟨j, rfl⟩ : ∃ i, j = i + 1 := ⟨j - 1, by omega⟩
   rw [List.getElem?_cons_succ] at hj
   simp only [List.length_cons] at hd
   split at h
   ·obtain rfl := Option.some.inj h
    simp only
    omega
   ·split at h
    ·cases l with
     | nil => simp at hj
     | cons y l =>
      simp only at h
      cases he : esc y with
      | none => rw [he] at h; cases h
      | some z =>
       rw [he] at h
       have hj1 : j ≠ 0 := by
        rintro rfl
        simp only [List.getElem?_cons_zero, Option.some.injEq] at hj
        rw [← hj, esc_plain y z he] at hb
        cases hb
       obtain ⟨j, rfl⟩ : ∃ i, j = i + 1 := ⟨j - 1, by omega⟩
       rw [List.getElem?_cons_succ] at hj
       simp only [List.length_cons] at hd
       have := unqGo_bad d l _ _ j b r (by omega) h hj hb
       omega
    ·have := unqGo_bad d l _ _ j b r (by omega) h hj hb
     omega
theorem unq_bad {l : List UInt8} {r : List UInt8 × Nat} {j : Nat} {b : UInt8} (h : unq l = some r) (hj : l[j]? = some b) (hb : plainB b = false) : r.2 ≤ j := by
 unfold unq at h
 split at h
 ·rename_i l'
  cases j with
  | zero =>
   simp only [List.getElem?_cons_zero, Option.some.injEq] at hj
   rw [← hj] at hb
   exact absurd hb (by decide)
  | succ j =>
   rw [List.getElem?_cons_succ] at hj
   have := unqGo_bad l'.length l' _ _ j b r (Nat.le_refl _) h hj hb
   omega
 ·cases h
def BadRes (k : Nat) : Res → Prop
 | .bad wh e => wh ≤ k ∧ e ≠ 0
 | .ok st => st.a ≤ k
theorem begin_bad {s : ByteArray} {k a : Nat} {l : List Lk} {hv : ByteArray} (hb : BadAt s k) (ha : a ≤ k) : BadRes k (beginR s ⟨a, l, hv⟩) := by
 rw [beginR_eq]
 by_cases hp : Lib.hasPrefix (s.data.toList.drop a) lockWord.data.toList = true
 ·have h8 := bad_prefix hb ha lockWord.data.toList (by decide) hp
  have e8 : lockWord.data.toList.length = 8 := rfl
  rw [if_pos hp]
  split
  ·split
   ·exact ⟨ha, by decide⟩
   ·show a + 8 ≤ k
    omega
  ·next h => exact ⟨ha, h⟩
 ·rw [if_neg hp]
  exact ⟨bad_common hb ha _ (by decide), by decide⟩
theorem tail_bad {s : ByteArray} {k C n : Nat} {l : List Lk} {x : Lk} {hv word : ByteArray} (hb : BadAt s k) (hC : C ≤ k) : BadRes k (tailR s l x hv word n C) := by
 unfold tailR
 cases hq : unq (s.data.toList.drop C) with
 | none => exact ⟨hC, by decide⟩
 | some r =>
  obtain ⟨b, h1, h2⟩ := bad_get hb hC
  have := unq_bad hq h1 h2
  simp only
  split
  ·exact ⟨hC, by decide⟩
  ·show C + r.2 ≤ k
   omega
theorem field_bad2 {s : ByteArray} {k a : Nat} {l : List Lk} {hv : ByteArray} (hb : BadAt s k) (ha : a ≤ k) : BadRes k (fieldR s ⟨a, l, hv⟩) := by
 rcases List.eq_nil_or_concat l with rfl | ⟨init, x, rfl⟩
 ·exact ⟨ha, by decide⟩
 ·rw [List.concat_eq_append, fieldR_snoc]
  have hE := bad_span hb lower plain_lower a ha
  have hB := bad_span hb blank plain_blank _ hE
  split
  ·exact ⟨ha, by decide⟩
  ·split
   ·exact ⟨ha, by decide⟩
   ·split
    ·next hp =>
     have h1 := bad_prefix hb hB eqs.data.toList (by decide) hp
     have e1 : eqs.data.toList.length = 1 := rfl
     exact tail_bad hb (bad_span hb blank plain_blank _ (by omega))
    ·exact ⟨hB, by decide⟩
theorem switch_bad {s : ByteArray} {k : Nat} {st : PSt} (hb : BadAt s k) (ha : st.a ≤ k) : BadRes k (switchR s st) := by
 obtain ⟨a, l, hv⟩ := st
 unfold switchR
 split
 ·exact begin_bad hb ha
 ·split
  ·exact field_bad2 hb ha
  ·exact ha
theorem rest_badAt {s : ByteArray} {k A : Nat} (hb : BadAt s k) (hA : A ≤ k) : (restR s A).2 ≤ k := by
 have hB := bad_span hb blank plain_blank A hA
 unfold restR
 simp only
 have h2 : (if byteAt s (spanEnd blank s A) = 35 then spanEnd noteB s (spanEnd blank s A) else spanEnd blank s A) ≤ k := by
  split
  ·exact bad_span hb noteB plain_note _ hB
  ·exact hB
 generalize (if byteAt s (spanEnd blank s A) = 35 then spanEnd noteB s (spanEnd blank s A) else spanEnd blank s A) = C at *
 split
 ·next h10 =>
  show C + 1 ≤ k
  rcases Nat.lt_or_ge C k with h | h
  ·exact h
  ·obtain rfl : C = k := by omega
   obtain ⟨hlt, hb⟩ := hb
   rw [byteAt_lt s hlt] at h10
   have e : s[C] = 10 := UInt8.toNat.inj (by simp only [show (10 : UInt8).toNat = 10 from rfl]; omega)
   rw [e] at hb
   exact absurd hb (by decide)
 ·split
  ·exact h2
  ·exact h2
theorem lines_badAt {s : ByteArray} {k : Nat} (hb : BadAt s k) : ∀ (n : Nat) (st : PSt), Inv s st → st.a ≤ k → s.size < n + st.a → ∃ wh e, linesR s n st = .bad wh e ∧ wh ≤ k ∧ e ≠ 0
 | 0, st, hi, ha, hn => by
  have := hi.a
  omega
 | n + 1, st, hi, ha, hn => by
  rw [linesR_eq]
  have hi1 := hi.blank
  have ha1 := bad_span hb blank plain_blank st.a ha
  have hge := spanEnd_ge blank s st.a
  generalize hst : (⟨spanEnd blank s st.a, st.l, st.hv⟩ : PSt) = st1 at *
  have hsta : st1.a = spanEnd blank s st.a := by rw [← hst]
  have h1 := switch_ok s st1 hi1
  have h2 : BadRes k (switchR s st1) := switch_bad hb (by omega)
  generalize switchR s st1 = r at *
  cases r with
  | bad wh e => exact ⟨wh, e, rfl, h2.1, h2.2⟩
  | ok st2 =>
   obtain ⟨hi2, hge2⟩ := h1
   have h3 := rest_badAt hb (show st2.a ≤ k from h2)
   obtain ⟨r1, r2, r3⟩ := rest_bound s st2.a hi2.a
   have hk := hb.1
   cases hrr : (restR s st2.a).1 with
   | false =>
    have e : restOf s (.ok st2) = .bad (restR s st2.a).2 1 := by simp only [restOf, hrr]; rfl
    rw [e]
    exact ⟨_, _, rfl, h3, by decide⟩
   | true =>
    have e : restOf s (.ok st2) = .ok ⟨(restR s st2.a).2, st2.l, st2.hv⟩ := by simp only [restOf, hrr, if_true]
    rw [e]
    have hlt : (restR s st2.a).2 < s.size := by omega
    have hp := r3 hrr hlt
    show ∃ wh e, (if (restR s st2.a).2 < s.size then linesR s n ⟨(restR s st2.a).2, st2.l, st2.hv⟩ else _) = Res.bad wh e ∧ _
    rw [if_pos hlt]
    exact lines_badAt hb n _ ⟨r1, hi2.l, Nat.le_trans hi2.hv r2⟩ h3 (by simp only; omega)
theorem locks_badAt {s : ByteArray} {k : Nat} (hb : BadAt s k) : ∃ wh e, locksR s = ([], wh, e) ∧ wh ≤ k ∧ e ≠ 0 := by
 by_cases hz : 8000 < s.size
 ·exact ⟨0, 2, by unfold locksR; rw [if_pos hz], Nat.zero_le _, by decide⟩
 ·obtain ⟨wh, e, h1, h2, h3⟩ := lines_badAt hb (s.size + 1) ⟨0, [], ⟨#[]⟩⟩ ⟨Nat.zero_le _, Nat.zero_le _, Nat.zero_le _⟩ (Nat.zero_le _) (by simp only; omega)
  exact ⟨wh, e, locksR_bad (by omega) h1, h2, h3⟩
theorem place_rises (l : List UInt8) (i : Nat) : ∀ d : Nat, i + d ≤ l.length → (place (l.take i)).1 < (place (l.take (i + d))).1 ∨ ((place (l.take i)).1 = (place (l.take (i + d))).1 ∧ (place (l.take i)).2 ≤ (place (l.take (i + d))).2)
 | 0, _ => .inr ⟨rfl, Nat.le_refl _⟩
 | d + 1, h => by
  have ih := place_rises l i d (by omega)
  have e : l.take (i + (d + 1)) = l.take (i + d) ++ [l[i + d]'(by omega)] := by
   rw [← Nat.add_assoc, List.take_succ_eq_append_getElem (by omega)]
  rw [e, place_snoc]
  split
  ·simp only
   omega
  ·simp only
   omega
end Go.Proofs.YtljfcdfdedkajaaDoor.Q
