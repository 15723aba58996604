import Derived.Test.YtoghoiecnciglaaGreatDoorZVm
import Derived.Sort.Walk0
import Derived.Lib.ItoaNum
section
namespace Go.Proofs.YtoghoiecnciglaaGreatDoor.Q
open Go.RowKit Go.Proofs.YtoghoiecnciglaaGreatDoorW.PrintWords
structure Way {α : Type} (f : α → α → Int) : Prop where
  bd : ∀ x y, -1 ≤ f x y ∧ f x y ≤ 1
  anti : ∀ x y, f y x = - f x y
  trans : ∀ x y z, f x y ≤ 0 → f y z ≤ 0 → f x z ≤ 0
section
variable {α β : Type} {f g : α → α → Int}
theorem Way.refl (h : Way f) (x : α) : f x x = 0 := by have := h.anti x x; omega
theorem Way.eqL (h : Way f) {x y z : α} (e : f x y = 0) : f x z = f y z := by
  have a1 := h.anti x y
  have a2 := h.anti y z
  have a3 := h.anti x z
  have b1 := h.bd x z
  have b2 := h.bd y z
  have t1 := h.trans x y z
  have t2 := h.trans y x z
  have t3 := h.trans z x y
  have t4 := h.trans z y x
  omega
theorem Way.lt (h : Way f) {x y z : α} (a : f x y ≤ 0) (b : f y z ≤ 0) (c : f x y < 0 ∨ f y z < 0) : f x z < 0 := by
  have t := h.trans x y z a b
  rcases Int.lt_or_eq_of_le t with h1 | h1
  · exact h1
  · have e1 := h.eqL (z := y) h1
    have a1 := h.anti x y
    have a2 := h.anti y z
    have a3 := h.anti z y
    omega
def lexW (f g : α → α → Int) (x y : α) : Int := if f x y = 0 then g x y else f x y
end
theorem way_int : Way cmpI := by
  refine ⟨fun x y => ?_, fun x y => ?_, fun x y z => ?_⟩
  · unfold cmpI; split; decide; split <;> decide
  · unfold cmpI
    by_cases h1 : x < y
    · rw [if_pos h1, if_neg (by omega), if_pos (by omega)]; rfl
    · rw [if_neg h1]
      by_cases h2 : y < x
      · rw [if_pos h2, if_neg h1, if_pos h2]
      · rw [if_neg h2, if_neg h1, if_neg h2]; rfl
  · unfold cmpI
    intro h1 h2
    have a : x ≤ y := by
      rcases Int.lt_or_le y x with h | h
      · rw [if_neg (by omega), if_pos h] at h1; omega
      · exact h
    have b : y ≤ z := by
      rcases Int.lt_or_le z y with h | h
      · rw [if_neg (by omega), if_pos h] at h2; omega
      · exact h
    split
    · decide
    · rw [if_neg (by omega)]; decide
theorem cmpBs_lt (x y : List UInt8) : cmpBs x y = if x < y then -1 else if x = y then 0 else 1 := by
  unfold cmpBs
  rw [Proofs.bytesLess_eq]
  simp only [decide_eq_true_eq, beq_iff_eq]
theorem cmpBs_eq {x y : List UInt8} (h : cmpBs x y = 0) : x = y := by
  rw [cmpBs_lt] at h
  split at h
  · omega
  · split at h
    · assumption
    · omega
def clsI (x : List UInt8) : Int := if allL x = true then 0 else 1
def lenI (x : List UInt8) : Int := if allL x = true then x.length else 0
theorem wordsI_lex (x y : List UInt8) : wordsI x y = lexW (fun x y => cmpI (clsI x) (clsI y)) (lexW (fun x y => cmpI (lenI x) (lenI y)) cmpBs) x y := by
  have c01 : cmpI 0 1 = -1 := rfl
  have c10 : cmpI 1 0 = 1 := rfl
  have c00 : cmpI 0 0 = 0 := rfl
  have c11 : cmpI 1 1 = 0 := rfl
  unfold wordsI lexW clsI lenI
  cases h1 : allL x <;> cases h2 : allL y <;> simp [c01, c10, c00, c11, h1, h2]
theorem lexW_eq {α : Type} {f g : α → α → Int} {x y : α} (h : lexW f g x y = 0) : f x y = 0 ∧ g x y = 0 := by
  unfold lexW at h
  by_cases e : f x y = 0
  · rw [if_pos e] at h
    exact ⟨e, h⟩
  · rw [if_neg e] at h
    exact absurd h e
theorem wordsI_eq {x y : List UInt8} (h : wordsI x y = 0) : x = y := by
  rw [wordsI_lex] at h
  exact cmpBs_eq (lexW_eq (lexW_eq h).2).2
theorem digitB_iff (b : UInt8) : digitB b = true ↔ 48 ≤ b.toNat ∧ b.toNat ≤ 57 := by
  simp [digitB, UInt8.le_iff_toNat_le]
def dv : List UInt8 → Nat
  | [] => 0
  | b :: l => (b.toNat - 48) * 10 ^ l.length + dv l
theorem dv_lt : ∀ l : List UInt8, l.all digitB = true → dv l < 10 ^ l.length
  | [], _ => by simp [dv]
  | b :: l, h => by
    simp only [List.all_cons, Bool.and_eq_true, digitB_iff] at h
    have ih := dv_lt l h.2
    have : (b.toNat - 48) * 10 ^ l.length ≤ 9 * 10 ^ l.length := Nat.mul_le_mul_right _ (by omega)
    simp only [dv, List.length_cons, Nat.pow_succ]
    omega
theorem cmpBs_cons (a b : UInt8) (l m : List UInt8) : cmpBs (a :: l) (b :: m) = if a.toNat < b.toNat then -1 else if b.toNat < a.toNat then 1 else cmpBs l m := by
  unfold cmpBs
  rw [Op.bytesLess]
  by_cases h1 : a.toNat < b.toNat
  · have : decide (a < b) = true := decide_eq_true h1
    rw [if_pos h1, this]
    rfl
  · have e1 : decide (a < b) = false := decide_eq_false h1
    rw [if_neg h1, e1]
    by_cases h2 : b.toNat < a.toNat
    · have e2 : (a == b) = false := by
        simp only [beq_eq_false_iff_ne, ne_eq]
        rintro rfl
        omega
      have e3 : ((a :: l) == (b :: m)) = false := by
        simp only [beq_eq_false_iff_ne, ne_eq]
        intro e
        rw [(List.cons.inj e).1] at h2
        omega
      rw [if_pos h2, e2, e3]
      rfl
    · obtain rfl : a = b := UInt8.toNat_inj.mp (by omega)
      rw [if_neg h2]
      have e2 : (a == a) = true := by simp
      have e3 : ((a :: l) == (a :: m)) = (l == m) := by simp
      rw [e2, e3]
      simp only [Bool.false_or, Bool.true_and]
theorem cmpI_eq0 (a : Int) : cmpI a a = 0 := way_int.refl a
theorem cmpI_lt {a b : Int} (h : a < b) : cmpI a b = -1 := by unfold cmpI; rw [if_pos h]
theorem cmpI_gt {a b : Int} (h : b < a) : cmpI a b = 1 := by unfold cmpI; rw [if_neg (by omega), if_pos h]
theorem cmp_same : ∀ x y : List UInt8, x.all digitB = true → y.all digitB = true → x.length = y.length → cmpBs x y = cmpI (dv x) (dv y)
  | [], [], _, _, _ => rfl
  | [], _ :: _, _, _, h => by simp at h
  | _ :: _, [], _, _, h => by simp at h
  | a :: x, b :: y, hx, hy, hl => by
    simp only [List.all_cons, Bool.and_eq_true, digitB_iff] at hx hy
    have hl' : x.length = y.length := by simpa using hl
    have ih := cmp_same x y hx.2 hy.2 hl'
    have lx := dv_lt x hx.2
    have ly := dv_lt y hy.2
    rw [cmpBs_cons]
    simp only [dv]
    rw [hl'] at lx ⊢
    generalize 10 ^ y.length = P at *
    by_cases h1 : a.toNat < b.toNat
    · have : (a.toNat - 48) * P + P ≤ (b.toNat - 48) * P := by
        rw [← Nat.succ_mul]
        exact Nat.mul_le_mul_right _ (by omega)
      rw [if_pos h1, cmpI_lt (by omega)]
    · rw [if_neg h1]
      by_cases h2 : b.toNat < a.toNat
      · have : (b.toNat - 48) * P + P ≤ (a.toNat - 48) * P := by
          rw [← Nat.succ_mul]
          exact Nat.mul_le_mul_right _ (by omega)
        rw [if_pos h2, cmpI_gt (by omega)]
      · have e : a.toNat = b.toNat := by omega
        rw [if_neg h2, ih, e]
        generalize (b.toNat - 48) * P = Q at *
        rcases Nat.lt_trichotomy (dv x) (dv y) with c | c | c
        · rw [cmpI_lt (by omega), cmpI_lt (by omega)]
        · rw [c, cmpI_eq0, cmpI_eq0]
        · rw [cmpI_gt (by omega), cmpI_gt (by omega)]
def Canon (l : List UInt8) : Prop := l.all digitB = true ∧ l ≠ [] ∧ (l.length = 1 ∨ l.head? ≠ some 48)
theorem dv_ge {l : List UInt8} (h : Canon l) (h1 : 1 < l.length) : 10 ^ (l.length - 1) ≤ dv l := by
  obtain ⟨h2, h3, h4⟩ := h
  cases l with
  | nil => exact absurd rfl h3
  | cons b l =>
    rcases h4 with h4 | h4
    · omega
    · simp only [List.all_cons, Bool.and_eq_true, digitB_iff] at h2
      have hb : b.toNat ≠ 48 := fun e => h4 (by rw [List.head?_cons]; exact congrArg some (UInt8.toNat_inj.mp e))
      have : 1 * 10 ^ l.length ≤ (b.toNat - 48) * 10 ^ l.length := Nat.mul_le_mul_right _ (by omega)
      simp only [dv, List.length_cons, Nat.add_sub_cancel]
      omega
theorem allL_canon {l : List UInt8} (h : Canon l) : allL l = true := by
  unfold allL
  rw [h.1]
  have := h.2.1
  cases l with
  | nil => exact absurd rfl this
  | cons => rfl
theorem dv_len {x y : List UInt8} (hx : Canon x) (hy : Canon y) (h : x.length < y.length) : dv x < dv y := by
  have h1 : 0 < x.length := List.length_pos_iff.2 hx.2.1
  have a := dv_lt x hx.1
  have b := dv_ge hy (by omega)
  have c : 10 ^ x.length ≤ 10 ^ (y.length - 1) := Nat.pow_le_pow_right (by decide) (by omega)
  omega
theorem words_num {x y : List UInt8} (hx : Canon x) (hy : Canon y) : wordsI x y = cmpI (dv x) (dv y) := by
  unfold wordsI
  rw [if_pos (allL_canon hx), if_pos (allL_canon hy)]
  rcases Nat.lt_trichotomy x.length y.length with h | h | h
  · have := dv_len hx hy h
    rw [cmpI_lt (a := (x.length : Int)) (by omega), if_neg (by decide), cmpI_lt (by omega)]
  · rw [h, cmpI_eq0, if_pos rfl]
    exact cmp_same x y hx.1 hy.1 h
  · have := dv_len hy hx h
    rw [cmpI_gt (a := (x.length : Int)) (by omega), if_neg (by decide), cmpI_gt (by omega)]
theorem dv_append (l : List UInt8) (b : UInt8) : dv (l ++ [b]) = 10 * dv l + (b.toNat - 48) := by
  induction l with
  | nil => simp [dv]
  | cons a l ih =>
    simp only [List.cons_append, dv, ih, List.length_append, List.length_cons, List.length_nil, Nat.zero_add, Nat.pow_succ, Nat.mul_add]
    have : (a.toNat - 48) * (10 ^ l.length * 10) = 10 * ((a.toNat - 48) * 10 ^ l.length) := by
      rw [Nat.mul_comm (10 ^ l.length), Nat.mul_left_comm]
    omega
theorem dig_nat (d : Nat) (h : d < 10) : (UInt8.ofNat (48 + d)).toNat = 48 + d := by
  rw [UInt8.toNat_ofNat']
  omega
theorem canon_dec (u : Nat) : Canon (Lib.decDigits u) ∧ dv (Lib.decDigits u) = u ∧ (u ≠ 0 → (Lib.decDigits u).head? ≠ some 48) := by
  induction u using Nat.strongRecOn with
  | _ u ih =>
    by_cases h : u < 10
    · rw [Lib.decDigits, dif_pos h]
      have e := dig_nat u h
      refine ⟨⟨?_, by simp, .inl rfl⟩, ?_, ?_⟩
      · simp only [List.all_cons, List.all_nil, Bool.and_true, digitB_iff, e]
        omega
      · simp only [dv, e, List.length_nil]
        omega
      · intro h0 h1
        simp only [List.head?_cons, Option.some.injEq] at h1
        have := congrArg UInt8.toNat h1
        rw [e] at this
        change 48 + u = 48 at this
        omega
    · rw [Lib.decDigits, dif_neg h]
      obtain ⟨⟨c1, c2, c3⟩, d1, d2⟩ := ih (u / 10) (by omega)
      have e := dig_nat (u % 10) (by omega)
      have hh : (Lib.decDigits (u / 10) ++ [UInt8.ofNat (48 + u % 10)]).head? ≠ some 48 := by
        have := d2 (by omega)
        cases hc : Lib.decDigits (u / 10) with
        | nil => exact absurd hc c2
        | cons a l => rw [hc] at this; exact this
      refine ⟨⟨?_, by simp, .inr hh⟩, ?_, fun _ => hh⟩
      · rw [List.all_append, c1]
        simp only [List.all_cons, List.all_nil, Bool.and_true, Bool.true_and, digitB_iff, e]
        omega
      · rw [dv_append, d1, e]
        omega
theorem canon_uniq {x y : List UInt8} (hx : Canon x) (hy : Canon y) (h : dv x = dv y) : x = y := by
  have := words_num hx hy
  rw [h, cmpI_eq0] at this
  exact wordsI_eq this
end Go.Proofs.YtoghoiecnciglaaGreatDoor.Q
end
section
namespace Go.Proofs.YtoghoiecnciglaaGreatDoor.Q
open Go.RowKit Go.Proofs.YtoghoiecnciglaaGreatDoorW.PrintWords
def preT (p : List UInt8) : List UInt8 := if p = [] then [] else 45 :: p
def textV (v : Vr) : List UInt8 := 118 :: (Lib.decDigits v.a.toNat ++ 46 :: (Lib.decDigits v.b.toNat ++ 46 :: (Lib.decDigits v.c.toNat ++ preT v.p)))
theorem numGo_dv : ∀ (l : List UInt8) (n : Nat), l.all digitB = true → numGo l n = some (n * 10 ^ l.length + dv l)
  | [], n, _ => by simp [numGo, dv]
  | b :: l, n, h => by
    simp only [List.all_cons, Bool.and_eq_true] at h
    rw [numGo, if_pos h.1, numGo_dv l _ h.2]
    simp only [dv, List.length_cons, Nat.pow_succ, Nat.add_mul]
    have : n * (10 ^ l.length * 10) = 10 * n * 10 ^ l.length := by
      rw [Nat.mul_comm 10 n, Nat.mul_assoc, Nat.mul_comm 10]
    rw [this]
    congr 1
    omega
theorem numL_canon {l : List UInt8} (h : Canon l) (hl : l.length ≤ 9) : numL l = some (dv l) := by
  have h0 : 0 < l.length := List.length_pos_iff.2 h.2.1
  unfold numL
  rw [if_neg, numGo_dv l 0 h.1]
  · simp
  · rintro (h1 | h1 | ⟨h1, h2⟩)
    · omega
    · omega
    · rcases h.2.2 with h3 | h3
      · omega
      · exact h3 h2
theorem len_dec {n : Nat} (k : Nat) (h : n < 10 ^ k) (hk : 1 ≤ k) : (Lib.decDigits n).length ≤ k := by
  obtain ⟨c, d, _⟩ := canon_dec n
  rcases Nat.lt_or_ge k (Lib.decDigits n).length with hl | hl
  · have h1 := dv_ge c (by omega)
    rw [d] at h1
    have : 10 ^ k ≤ 10 ^ ((Lib.decDigits n).length - 1) := Nat.pow_le_pow_right (by decide) (by omega)
    omega
  · exact hl
theorem numL_dec (n : Nat) (h : n ≤ 999999999) : numL (Lib.decDigits n) = some n := by
  obtain ⟨c, d, _⟩ := canon_dec n
  rw [numL_canon c (len_dec 9 (by omega) (by decide)), d]
theorem cutL_app (l r : List UInt8) (c : UInt8) (h : ∀ x ∈ l, x ≠ c) : cutL (l ++ c :: r) c = l ∧ cutR (l ++ c :: r) c = r ∧ (l ++ c :: r).contains c = true := by
  refine ⟨?_, ?_, by simp⟩
  · unfold cutL
    rw [List.takeWhile_append_of_pos (by intro x hx; simpa using h x hx)]
    simp
  · unfold cutR
    rw [List.dropWhile_append_of_pos (by intro x hx; simpa using h x hx)]
    simp
theorem cut_free (l : List UInt8) (c : UInt8) (h : ∀ x ∈ l, x ≠ c) : cutL l c = l ∧ cutR l c = [] ∧ l.contains c = false := by
  have hc : l.contains c = false := by
    cases hb : l.contains c with
    | false => rfl
    | true =>
      simp only [List.contains_iff_mem] at hb
      exact absurd rfl (h c hb)
  exact ⟨(cut_none l c hc).1, (cut_none l c hc).2, hc⟩
theorem parts_app (c : UInt8) (l r : List UInt8) (h : ∀ x ∈ l, x ≠ c) : parts c (l ++ c :: r) = l :: parts c r := by
  obtain ⟨h1, h2, h3⟩ := cutL_app l r c h
  rw [parts_cut, h1, h2, h3, if_pos rfl]
theorem parts_free (c : UInt8) (l : List UInt8) (h : ∀ x ∈ l, x ≠ c) : parts c l = [l] := by
  obtain ⟨h1, h2, h3⟩ := cut_free l c h
  rw [parts_cut, h1, h3]
  rfl
theorem dec_free (n : Nat) (c : UInt8) (hc : digitB c = false) : ∀ x ∈ Lib.decDigits n, x ≠ c := by
  intro x hx e
  have := List.all_eq_true.1 (canon_dec n).1.1 x hx
  rw [e, hc] at this
  cases this
def frontV (v : Vr) : List UInt8 := Lib.decDigits v.a.toNat ++ 46 :: (Lib.decDigits v.b.toNat ++ 46 :: Lib.decDigits v.c.toNat)
theorem front_free (v : Vr) : ∀ x ∈ frontV v, x ≠ 45 := by
  intro x hx
  unfold frontV at hx
  simp only [List.mem_append, List.mem_cons] at hx
  rcases hx with h | rfl | h | rfl | h
  · exact dec_free _ 45 rfl x h
  · decide
  · exact dec_free _ 45 rfl x h
  · decide
  · exact dec_free _ 45 rfl x h
theorem textV_eq (v : Vr) : textV v = 118 :: (frontV v ++ preT v.p) := by
  unfold textV frontV
  simp
theorem front_cut (v : Vr) : cutL (frontV v ++ preT v.p) 45 = frontV v ∧ cutR (frontV v ++ preT v.p) 45 = v.p ∧ ((frontV v ++ preT v.p).contains 45 = true ↔ v.p ≠ []) := by
  unfold preT
  by_cases h : v.p = []
  · obtain ⟨h1, h2, h3⟩ := cut_free (frontV v) 45 (front_free v)
    rw [if_pos h, List.append_nil]
    exact ⟨h1, h2.trans h.symm, by rw [h3]; simp [h]⟩
  · obtain ⟨h1, h2, h3⟩ := cutL_app (frontV v) v.p 45 (front_free v)
    rw [if_neg h]
    exact ⟨h1, h2, by rw [h3]; simp [h]⟩
theorem front_parts (v : Vr) : parts 46 (frontV v) = [Lib.decDigits v.a.toNat, Lib.decDigits v.b.toNat, Lib.decDigits v.c.toNat] := by
  unfold frontV
  rw [parts_app 46 _ _ (dec_free _ 46 rfl), parts_app 46 _ _ (dec_free _ 46 rfl), parts_free 46 _ (dec_free _ 46 rfl)]
def okPart (a : Int) : Prop := 0 ≤ a ∧ a ≤ 999999999
theorem parse_front (v : Vr) (ha : okPart v.a) (hb : okPart v.b) (hc : okPart v.c) : numsL (parts 46 (frontV v)) = some (v.a, v.b, v.c) := by
  obtain ⟨a0, a1⟩ := ha
  obtain ⟨b0, b1⟩ := hb
  obtain ⟨c0, c1⟩ := hc
  rw [front_parts]
  simp only [numsL]
  rw [numL_dec _ (by omega), numL_dec _ (by omega), numL_dec _ (by omega)]
  simp only [Int.toNat_of_nonneg a0, Int.toNat_of_nonneg b0, Int.toNat_of_nonneg c0]
theorem parse_text (v : Vr) (ha : okPart v.a) (hb : okPart v.b) (hc : okPart v.c) : parseV (textV v) = if rightV v.a v.b v.c v.p = true then some v else none := by
  obtain ⟨h1, h2, h3⟩ := front_cut v
  have hr : rest0 (textV v) = frontV v ++ preT v.p := by
    rw [textV_eq]
    simp [rest0, Lib.trimPrefix, Lib.hasPrefix]
  have hp : Lib.hasPrefix (textV v) [118] = true := by
    rw [textV_eq]
    simp [Lib.hasPrefix]
  unfold parseV
  rw [hr, h1, h2, if_pos ⟨hp, fun ⟨a, b⟩ => h3.1 a b⟩, parse_front v ha hb hc]
theorem right_parts {a b c : Int} {p : List UInt8} (h : rightV a b c p = true) : (0 ≤ a ∧ a ≤ 999999) ∧ (0 ≤ b ∧ b ≤ 999999) ∧ (0 ≤ c ∧ c ≤ 999999) ∧ p.length ≤ 40 ∧ (p = [] ∨ preL p = true) := by
  unfold rightV partB at h
  simp only [Bool.and_eq_true, decide_eq_true_eq, Bool.or_eq_true, beq_iff_eq] at h
  exact ⟨h.1, h.2.1, h.2.2.1, h.2.2.2.1, h.2.2.2.2⟩
theorem parse_right {v : Vr} (h : rightV v.a v.b v.c v.p = true) : parseV (textV v) = some v := by
  obtain ⟨⟨a0, a1⟩, ⟨b0, b1⟩, ⟨c0, c1⟩, _⟩ := right_parts h
  rw [parse_text v ⟨a0, by omega⟩ ⟨b0, by omega⟩ ⟨c0, by omega⟩, if_pos h]
def hexL (b : UInt8) : Bool := digitB b || (97 ≤ b && b ≤ 102)
def idB (s : List UInt8) : Bool := decide (12 ≤ s.length) && (decide (s.length ≤ 40) && s.all hexL)
def stampL (t : Nat) : List UInt8 := (Lib.decDigits (100000000000000 + t)).drop 1
theorem stamp_len (t : Nat) (h : t < 100000000000000) : (Lib.decDigits (100000000000000 + t)).length = 15 := by
  obtain ⟨c, d, _⟩ := canon_dec (100000000000000 + t)
  have h1 := len_dec (n := 100000000000000 + t) 15 (by omega) (by decide)
  have h2 := dv_lt _ c.1
  rw [d] at h2
  rcases Nat.lt_or_ge (Lib.decDigits (100000000000000 + t)).length 15 with h3 | h3
  · have : 10 ^ (Lib.decDigits (100000000000000 + t)).length ≤ 10 ^ 14 := Nat.pow_le_pow_right (by decide) (by omega)
    omega
  · omega
theorem stamp_ok (t : Nat) (h : t < 100000000000000) : (stampL t).length = 14 ∧ (stampL t).all digitB = true ∧ dv (stampL t) = t := by
  have hl := stamp_len t h
  obtain ⟨⟨c1, c2, c3⟩, d, _⟩ := canon_dec (100000000000000 + t)
  unfold stampL
  cases hc : Lib.decDigits (100000000000000 + t) with
  | nil => exact absurd hc c2
  | cons b l =>
    rw [hc] at c1 c3 d hl
    simp only [List.length_cons] at hl
    simp only [List.all_cons, Bool.and_eq_true, digitB_iff] at c1
    have h1 := dv_lt l c1.2
    have hl' : l.length = 14 := by omega
    simp only [dv, hl'] at d
    rw [hl'] at h1
    have hb : b.toNat - 48 = 1 := by
      generalize b.toNat - 48 = q at *
      have : (10 : Nat) ^ 14 = 100000000000000 := by decide
      rw [this] at d h1
      omega
    rw [hb] at d
    refine ⟨hl', c1.2, ?_⟩
    show dv l = t
    omega
def markL (t : Nat) (id : List UInt8) : List UInt8 := stampL t ++ 45 :: id.take 12
def pseudoR (has : Bool) (v : Vr) (m : List UInt8) : Vr := if has = false then ⟨0, 0, 0, m⟩ else if v.p = [] then ⟨v.a, v.b, v.c + 1, 48 :: 46 :: m⟩ else ⟨v.a, v.b, v.c, v.p ++ 46 :: 48 :: 46 :: m⟩
def pseudoV (has : Bool) (v : Vr) (t : Int) (id : List UInt8) : Option Vr :=
  if t < 0 ∨ 100000000000000 ≤ t ∨ idB id = false then none
  else if rightV (pseudoR has v (markL t.toNat id)).a (pseudoR has v (markL t.toNat id)).b (pseudoR has v (markL t.toNat id)).c (pseudoR has v (markL t.toNat id)).p = true then some (pseudoR has v (markL t.toNat id)) else none
theorem parts_cat (c : UInt8) : ∀ x y : List UInt8, parts c (x ++ c :: y) = parts c x ++ parts c y
  | [], y => by
    rw [List.nil_append, parts_cons, if_pos rfl]
    rfl
  | a :: x, y => by
    have ih := parts_cat c x y
    rw [List.cons_append, parts_cons, parts_cons, ih]
    by_cases h : a = c
    · rw [if_pos h, if_pos h]
      rfl
    · rw [if_neg h, if_neg h]
      cases e : parts c x with
      | nil => exact absurd e (parts_ne c x)
      | cons w ws => rfl
theorem pseudoR_nil (v : Vr) (m : List UInt8) (h : v.p = []) : pseudoR true v m = ⟨v.a, v.b, v.c + 1, 48 :: 46 :: m⟩ := by
  unfold pseudoR
  rw [if_neg (by simp), if_pos h]
theorem pseudoR_pre (v : Vr) (m : List UInt8) (h : v.p ≠ []) : pseudoR true v m = ⟨v.a, v.b, v.c, v.p ++ 46 :: 48 :: 46 :: m⟩ := by
  unfold pseudoR
  rw [if_neg (by simp), if_neg h]
theorem mark_len {t : Nat} {i : List UInt8} (ht : t < 100000000000000) (hi : 12 ≤ i.length) : (markL t i).length = 27 := by
  unfold markL
  rw [List.length_append, (stamp_ok t ht).1, List.length_cons, List.length_take]
  omega
def lastW (p : List UInt8) : List UInt8 := (parts 46 p).getLastD []
def behindL (p : List UInt8) : Option (Nat × List UInt8) :=
  if (lastW p).length = 27 ∧ (lastW p)[14]? = some 45 ∧ ((lastW p).take 14).all digitB = true ∧ ((lastW p).drop 15).all hexL = true then some (dv ((lastW p).take 14), (lastW p).drop 15) else none
theorem lastW_cat (p q : List UInt8) : lastW (p ++ 46 :: q) = lastW q := by
  unfold lastW
  rw [parts_cat]
  cases h : parts 46 q with
  | nil => exact absurd h (parts_ne 46 q)
  | cons w ws => simp [List.getLastD_eq_getLast?, List.getLast?_cons]
theorem all_tail {x : UInt8} {l : List UInt8} (h : (x :: l).all digitB = true) : digitB x = true ∧ l.all digitB = true := by
  simpa [List.all_cons, Bool.and_eq_true] using h
theorem numGo_all : ∀ (l : List UInt8) (n k : Nat), numGo l n = some k → l.all digitB = true
  | [], _, _, _ => rfl
  | b :: l, n, k, h => by
    rw [numGo] at h
    split at h
    · next hb => rw [List.all_cons, hb, numGo_all l _ k h]; rfl
    · cases h
theorem numL_inv {l : List UInt8} {k : Nat} (h : numL l = some k) : l = Lib.decDigits k ∧ k ≤ 999999999 := by
  unfold numL at h
  split at h
  · cases h
  · next hc =>
    have ha := numGo_all l 0 k h
    rw [numGo_dv l 0 ha] at h
    simp only [Nat.zero_mul, Nat.zero_add, Option.some.injEq] at h
    have hn : l ≠ [] := by
      rintro rfl
      exact hc (.inl (by decide))
    have hca : Canon l := by
      refine ⟨ha, hn, ?_⟩
      by_cases h1 : l.length = 1
      · exact .inl h1
      · right
        intro h2
        have := List.length_pos_iff.2 hn
        exact hc (.inr (.inr ⟨by omega, h2⟩))
    have hl : l.length ≤ 9 := by
      rcases Nat.lt_or_ge 9 l.length with h1 | h1
      · exact absurd (.inr (.inl h1)) hc
      · exact h1
    have hb := dv_lt l ha
    have hp : 10 ^ l.length ≤ 10 ^ 9 := Nat.pow_le_pow_right (by decide) hl
    refine ⟨canon_uniq hca (canon_dec k).1 (h.trans (canon_dec k).2.1.symm), ?_⟩
    omega
theorem join_cut (l : List UInt8) (c : UInt8) (h : l.contains c = true) : l = cutL l c ++ c :: cutR l c := by
  obtain ⟨h1, h2, h3⟩ := cut_length l c h
  induction l with
  | nil => simp at h
  | cons x r ih =>
    by_cases hx : x = c
    · subst hx
      simp [cutL, cutR]
    · have hb : (x != c) = true := by simpa using hx
      have hr : r.contains c = true := by
        have hc : (c == x) = false := by simpa using fun e => hx e.symm
        rw [List.contains_cons, hc, Bool.false_or] at h
        exact h
      obtain ⟨g1, g2, g3⟩ := cut_length r c hr
      have e1 : cutL (x :: r) c = x :: cutL r c := by simp only [cutL, List.takeWhile_cons, hb, if_true]
      have e2 : cutR (x :: r) c = cutR r c := by simp only [cutR, List.dropWhile_cons, hb, if_true]
      rw [e1, e2, List.cons_append, ← ih hr g1 g2 g3]
def joinD (c : UInt8) : List (List UInt8) → List UInt8
  | [] => []
  | [x] => x
  | x :: y :: l => x ++ c :: joinD c (y :: l)
theorem joinD_parts (c : UInt8) : ∀ l : List UInt8, joinD c (parts c l) = l
  | [] => rfl
  | x :: r => by
    have ih := joinD_parts c r
    rw [parts_cons]
    cases e : parts c r with
    | nil => exact absurd e (parts_ne c r)
    | cons w ws =>
      rw [e] at ih
      by_cases h : x = c
      · rw [if_pos h, joinD, ih, h]
        rfl
      · rw [if_neg h]
        show joinD c ((x :: w) :: ws) = _
        rw [← ih]
        cases ws with
        | nil => rfl
        | cons v vs => rw [joinD, joinD]; rfl
theorem numsL_inv {l : List (List UInt8)} {a b c : Int} (h : numsL l = some (a, b, c)) : ∃ x y z : Nat, l = [Lib.decDigits x, Lib.decDigits y, Lib.decDigits z] ∧ a = x ∧ b = y ∧ c = z ∧ x ≤ 999999999 ∧ y ≤ 999999999 ∧ z ≤ 999999999 := by
  unfold numsL at h
  split at h
  · next x y z =>
    cases hx : numL x with
    | none => rw [hx] at h; cases h
    | some i =>
      rw [hx] at h
      simp only at h
      cases hy : numL y with
      | none => rw [hy] at h; cases h
      | some j =>
        rw [hy] at h
        simp only at h
        cases hz : numL z with
        | none => rw [hz] at h; cases h
        | some k =>
          rw [hz] at h
          simp only [Option.some.injEq, Prod.mk.injEq] at h
          obtain ⟨x1, x2⟩ := numL_inv hx
          obtain ⟨y1, y2⟩ := numL_inv hy
          obtain ⟨z1, z2⟩ := numL_inv hz
          exact ⟨i, j, k, by rw [← x1, ← y1, ← z1], h.1.symm, h.2.1.symm, h.2.2.symm, x2, y2, z2⟩
  · cases h
theorem parse_iff (s : List UInt8) (v : Vr) : parseV s = some v ↔ rightV v.a v.b v.c v.p = true ∧ s = textV v := by
  constructor
  · intro h
    unfold parseV at h
    split at h
    · next hc =>
      obtain ⟨h1, h2⟩ := hc
      have hs : s = 118 :: rest0 s := by
        unfold rest0 Lib.trimPrefix
        rw [if_pos h1]
        unfold Lib.hasPrefix at h1
        cases s with
        | nil => simp at h1
        | cons x s =>
          simp only [List.isPrefixOf, Bool.and_true, beq_iff_eq] at h1
          subst h1
          rfl
      cases hn : numsL (parts 46 (cutL (rest0 s) 45)) with
      | none => rw [hn] at h; cases h
      | some abc =>
        obtain ⟨a, b, c⟩ := abc
        rw [hn] at h
        simp only at h
        split at h
        · next hr =>
          obtain rfl := Option.some.inj h
          refine ⟨hr, ?_⟩
          obtain ⟨x, y, z, e, rfl, rfl, rfl, _⟩ := numsL_inv hn
          have hj := joinD_parts 46 (cutL (rest0 s) 45)
          rw [e] at hj
          have hf : cutL (rest0 s) 45 = frontV ⟨x, y, z, cutR (rest0 s) 45⟩ := hj.symm
          rw [textV_eq, ← hf, hs]
          congr 1
          simp only
          unfold preT
          cases hcc : (rest0 s).contains 45 with
          | true =>
            rw [← hs, if_neg (fun e => h2 ⟨hcc, e⟩)]
            exact join_cut _ _ hcc
          | false =>
            obtain ⟨c1, c2⟩ := cut_none _ _ hcc
            rw [← hs, c1, c2, if_pos rfl, List.append_nil]
        · cases h
    · cases h
  · rintro ⟨h, rfl⟩
    exact parse_right h
end Go.Proofs.YtoghoiecnciglaaGreatDoor.Q
end
