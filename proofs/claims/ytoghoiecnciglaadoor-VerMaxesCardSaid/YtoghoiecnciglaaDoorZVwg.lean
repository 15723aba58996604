import Derived.Test.YtoghoiecnciglaaDoorZVm
import Derived.Sort.Walk0
import Derived.Lib.ItoaNum
section
namespace Go.Proofs.YtoghoiecnciglaaDoor.Q
open Go.RowKit Go.Proofs.YtoghoiecnciglaaDoorW.PrintWords
structure Way {α : Type} (f : α → α → Int) : Prop where
  bd : ∀ x y, -1 ≤ f x y ∧ f x y ≤ 1
  anti : ∀ x y, f y x = - f x y
  trans : ∀ x y z, f x y ≤ 0 → f y z ≤ 0 → f x z ≤ 0
section
variable {α β : Type} {f g : α → α → Int}
theorem Way.refl (h : Way f) (x : α) : f x x = 0 := by have := h.anti x x; omega
theorem Way.eqL (h : Way f) {x y z : α} (e : f x y = 0) : f x z = f y z := by
  have a1 := h.anti x y
  have a2 := h.anti y z
  have a3 := h.anti x z
  have b1 := h.bd x z
  have b2 := h.bd y z
  have t1 := h.trans x y z
  have t2 := h.trans y x z
  have t3 := h.trans z x y
  have t4 := h.trans z y x
  omega
theorem Way.eqR (h : Way f) {x y z : α} (e : f x y = 0) : f z x = f z y := by
  have := h.eqL (z := z) e
  have a2 := h.anti x z
  have a3 := h.anti y z
  omega
theorem Way.lt (h : Way f) {x y z : α} (a : f x y ≤ 0) (b : f y z ≤ 0) (c : f x y < 0 ∨ f y z < 0) : f x z < 0 := by
  have t := h.trans x y z a b
  rcases Int.lt_or_eq_of_le t with h1 | h1
  · exact h1
  · have e1 := h.eqL (z := y) h1
    have a1 := h.anti x y
    have a2 := h.anti y z
    have a3 := h.anti z y
    omega
theorem Way.pull (h : Way f) (k : β → α) : Way (fun x y => f (k x) (k y)) := ⟨fun _ _ => h.bd _ _, fun _ _ => h.anti _ _, fun _ _ _ => h.trans _ _ _⟩
def lexW (f g : α → α → Int) (x y : α) : Int := if f x y = 0 then g x y else f x y
theorem Way.lex (h : Way f) (k : Way g) : Way (lexW f g) := by
  refine ⟨fun x y => ?_, fun x y => ?_, fun x y z h1 h2 => ?_⟩
  · unfold lexW
    split
    · exact k.bd x y
    · exact h.bd x y
  · unfold lexW
    have a1 := h.anti x y
    have a2 := k.anti x y
    by_cases e : f x y = 0
    · rw [if_pos e, if_pos (by omega)]
      exact a2
    · rw [if_neg e, if_neg (by omega)]
      exact a1
  · unfold lexW at *
    by_cases e1 : f x y = 0
    · rw [if_pos e1] at h1
      have q1 := h.eqL (z := z) e1
      by_cases e2 : f y z = 0
      · rw [if_pos e2] at h2
        rw [if_pos (by omega)]
        exact k.trans x y z h1 h2
      · rw [if_neg e2] at h2
        rw [if_neg (by omega)]
        omega
    · rw [if_neg e1] at h1
      by_cases e2 : f y z = 0
      · have q1 := h.eqR (z := x) e2
        rw [if_neg (by omega)]
        omega
      · rw [if_neg e2] at h2
        have := h.lt h1 h2 (.inl (by omega))
        rw [if_neg (by omega)]
        omega
def rowsW (f : α → α → Int) : List α → List α → Int
  | [], [] => 0
  | [], _ :: _ => -1
  | _ :: _, [] => 1
  | x :: l, y :: m => if f x y = 0 then rowsW f l m else f x y
theorem Way.rows (h : Way f) : Way (rowsW f) := by
  refine ⟨?_, ?_, ?_⟩
  · intro x
    induction x with
    | nil => intro y; cases y <;> simp [rowsW]
    | cons a x ih =>
      intro y
      cases y with
      | nil => simp [rowsW]
      | cons b y =>
        rw [rowsW]
        split
        · exact ih y
        · exact h.bd a b
  · intro x
    induction x with
    | nil => intro y; cases y <;> simp [rowsW]
    | cons a x ih =>
      intro y
      cases y with
      | nil => simp [rowsW]
      | cons b y =>
        have a1 := h.anti a b
        rw [rowsW, rowsW]
        by_cases e : f a b = 0
        · rw [if_pos e, if_pos (by omega)]
          exact ih y
        · rw [if_neg e, if_neg (by omega)]
          exact a1
  · intro x
    induction x with
    | nil => intro y z; cases y <;> cases z <;> simp [rowsW]
    | cons a x ih =>
      intro y z
      cases y with
      | nil => cases z <;> simp [rowsW]
      | cons b y =>
        cases z with
        | nil => simp [rowsW]
        | cons c z =>
          rw [rowsW, rowsW, rowsW]
          intro h1 h2
          by_cases e1 : f a b = 0
          · rw [if_pos e1] at h1
            have q1 := h.eqL (z := c) e1
            by_cases e2 : f b c = 0
            · rw [if_pos e2] at h2
              rw [if_pos (by omega)]
              exact ih y z h1 h2
            · rw [if_neg e2] at h2
              rw [if_neg (by omega)]
              omega
          · rw [if_neg e1] at h1
            by_cases e2 : f b c = 0
            · have q1 := h.eqR (z := a) e2
              rw [if_neg (by omega)]
              omega
            · rw [if_neg e2] at h2
              have := h.lt h1 h2 (.inl (by omega))
              rw [if_neg (by omega)]
              omega
theorem rowsW_eq (h : ∀ x y, f x y = 0 → x = y) : ∀ l m : List α, rowsW f l m = 0 → l = m
  | [], [], _ => rfl
  | [], _ :: _, e => by simp [rowsW] at e
  | _ :: _, [], e => by simp [rowsW] at e
  | x :: l, y :: m, e => by
    rw [rowsW] at e
    by_cases c : f x y = 0
    · rw [if_pos c] at e
      rw [h x y c, rowsW_eq h l m e]
    · rw [if_neg c] at e
      exact absurd e c
end
theorem way_int : Way cmpI := by
  refine ⟨fun x y => ?_, fun x y => ?_, fun x y z => ?_⟩
  · unfold cmpI; split; decide; split <;> decide
  · unfold cmpI
    by_cases h1 : x < y
    · rw [if_pos h1, if_neg (by omega), if_pos (by omega)]; rfl
    · rw [if_neg h1]
      by_cases h2 : y < x
      · rw [if_pos h2, if_neg h1, if_pos h2]
      · rw [if_neg h2, if_neg h1, if_neg h2]; rfl
  · unfold cmpI
    intro h1 h2
    have a : x ≤ y := by
      rcases Int.lt_or_le y x with h | h
      · rw [if_neg (by omega), if_pos h] at h1; omega
      · exact h
    have b : y ≤ z := by
      rcases Int.lt_or_le z y with h | h
      · rw [if_neg (by omega), if_pos h] at h2; omega
      · exact h
    split
    · decide
    · rw [if_neg (by omega)]; decide
theorem cmpI_eq {x y : Int} (h : cmpI x y = 0) : x = y := by
  unfold cmpI at h
  split at h
  · omega
  · split at h
    · omega
    · omega
theorem cmpBs_lt (x y : List UInt8) : cmpBs x y = if x < y then -1 else if x = y then 0 else 1 := by
  unfold cmpBs
  rw [Proofs.bytesLess_eq]
  simp only [decide_eq_true_eq, beq_iff_eq]
theorem lt_or_eqL {a b : List UInt8} (h : a ≤ b) : a < b ∨ a = b := by
  by_cases c : a < b
  · exact .inl c
  · exact .inr (Std.le_antisymm h (List.not_lt.1 c))
theorem way_bs : Way cmpBs := by
  refine ⟨fun x y => ?_, fun x y => ?_, fun x y z => ?_⟩
  · rw [cmpBs_lt]; split; decide; split <;> decide
  · rw [cmpBs_lt, cmpBs_lt]
    by_cases h1 : x < y
    · have h2 : ¬ y < x := List.not_lt.2 (Std.le_of_lt h1)
      have h3 : y ≠ x := by rintro rfl; exact h2 h1
      rw [if_pos h1, if_neg h2, if_neg h3]; rfl
    · rw [if_neg h1]
      by_cases e : x = y
      · subst e
        rw [if_neg h1, if_pos rfl]; rfl
      · have h2 : y < x := by
          rcases lt_or_eqL (List.not_lt.1 h1) with h | h
          · exact h
          · exact absurd h.symm e
        rw [if_pos h2, if_neg e]
  · rw [cmpBs_lt, cmpBs_lt, cmpBs_lt]
    intro h1 h2
    have le : ∀ {a b : List UInt8}, (if a < b then (-1 : Int) else if a = b then 0 else 1) ≤ 0 → a ≤ b := by
      intro a b h
      by_cases c : a < b
      · exact Std.le_of_lt c
      · rw [if_neg c] at h
        by_cases e : a = b
        · subst e; exact Std.le_refl _
        · rw [if_neg e] at h; omega
    have := Std.le_trans (le h1) (le h2)
    rcases lt_or_eqL this with h | h
    · rw [if_pos h]; decide
    · subst h
      split
      · decide
      · rw [if_pos rfl]; decide
theorem cmpBs_eq {x y : List UInt8} (h : cmpBs x y = 0) : x = y := by
  rw [cmpBs_lt] at h
  split at h
  · omega
  · split at h
    · assumption
    · omega
def clsI (x : List UInt8) : Int := if allL x = true then 0 else 1
def lenI (x : List UInt8) : Int := if allL x = true then x.length else 0
theorem wordsI_lex (x y : List UInt8) : wordsI x y = lexW (fun x y => cmpI (clsI x) (clsI y)) (lexW (fun x y => cmpI (lenI x) (lenI y)) cmpBs) x y := by
  have c01 : cmpI 0 1 = -1 := rfl
  have c10 : cmpI 1 0 = 1 := rfl
  have c00 : cmpI 0 0 = 0 := rfl
  have c11 : cmpI 1 1 = 0 := rfl
  unfold wordsI lexW clsI lenI
  cases h1 : allL x <;> cases h2 : allL y <;> simp [c01, c10, c00, c11, h1, h2]
theorem way_words : Way wordsI := by
  have : wordsI = lexW (fun x y => cmpI (clsI x) (clsI y)) (lexW (fun x y => cmpI (lenI x) (lenI y)) cmpBs) := funext fun x => funext fun y => wordsI_lex x y
  rw [this]
  exact (way_int.pull clsI).lex ((way_int.pull lenI).lex way_bs)
theorem lexW_eq {α : Type} {f g : α → α → Int} {x y : α} (h : lexW f g x y = 0) : f x y = 0 ∧ g x y = 0 := by
  unfold lexW at h
  by_cases e : f x y = 0
  · rw [if_pos e] at h
    exact ⟨e, h⟩
  · rw [if_neg e] at h
    exact absurd h e
theorem wordsI_eq {x y : List UInt8} (h : wordsI x y = 0) : x = y := by
  rw [wordsI_lex] at h
  exact cmpBs_eq (lexW_eq (lexW_eq h).2).2
theorem rowsI_W : ∀ l m : List (List UInt8), rowsI l m = rowsW wordsI l m
  | [], [] => rfl
  | [], _ :: _ => rfl
  | _ :: _, [] => rfl
  | x :: l, y :: m => by rw [rowsI, rowsW, rowsI_W l m]
theorem way_rowsI : Way rowsI := by
  have : rowsI = rowsW wordsI := funext fun x => funext fun y => rowsI_W x y
  rw [this]
  exact way_words.rows
theorem rowsI_eq {l m : List (List UInt8)} (h : rowsI l m = 0) : l = m := by
  rw [rowsI_W] at h
  exact rowsW_eq (fun _ _ => wordsI_eq) l m h
theorem parts_inj (c : UInt8) : ∀ x y : List UInt8, parts c x = parts c y → x = y
  | [], [], _ => rfl
  | [], y :: m, h => by
    rw [parts_cons] at h
    split at h
    · have := congrArg List.tail h
      exact absurd this.symm (parts_ne c m)
    · split at h
      · simp [parts] at h
      · simp [parts] at h
  | x :: l, [], h => by
    rw [parts_cons] at h
    split at h
    · have := congrArg List.tail h
      exact absurd this (parts_ne c l)
    · split at h
      · simp [parts] at h
      · simp [parts] at h
  | x :: l, y :: m, h => by
    rw [parts_cons, parts_cons] at h
    have hl := parts_ne c l
    have hm := parts_ne c m
    have ih := parts_inj c l m
    by_cases hx : x = c
    · by_cases hy : y = c
      · rw [if_pos hx, if_pos hy] at h
        rw [hx, hy, ih (List.cons.inj h).2]
      · rw [if_pos hx, if_neg hy] at h
        cases e : parts c m with
        | nil => exact absurd e hm
        | cons w ws => rw [e] at h; simp at h
    · by_cases hy : y = c
      · rw [if_neg hx, if_pos hy] at h
        cases e : parts c l with
        | nil => exact absurd e hl
        | cons w ws => rw [e] at h; simp at h
      · rw [if_neg hx, if_neg hy] at h
        cases e : parts c l with
        | nil => exact absurd e hl
        | cons w ws =>
          cases e2 : parts c m with
          | nil => exact absurd e2 hm
          | cons v vs =>
            rw [e, e2] at h
            simp only [List.cons.injEq] at h
            obtain ⟨⟨rfl, rfl⟩, rfl⟩ := h
            rw [ih (e.trans e2.symm)]
def nilI (x : List UInt8) : Int := if x = [] then 1 else 0
theorem aheadI_lex (x y : List UInt8) : aheadI x y = lexW (fun x y => cmpI (nilI x) (nilI y)) (fun x y => rowsI (parts 46 x) (parts 46 y)) x y := by
  unfold aheadI lexW nilI
  have e : ∀ a b : List UInt8, ((a == b) = true) = (a = b) := fun a b => by simp
  simp only [e]
  by_cases h : x = y
  · subst h
    rw [if_pos rfl, if_pos (way_int.refl _), way_rowsI.refl]
  · rw [if_neg h]
    by_cases h1 : x = []
    · subst h1
      have h2 : ¬ y = [] := fun e => h e.symm
      rw [if_pos rfl, if_pos rfl, if_neg h2]
      rfl
    · rw [if_neg h1, if_neg h1]
      by_cases h2 : y = []
      · rw [if_pos h2, if_pos h2]
        rfl
      · rw [if_neg h2, if_neg h2]
        rfl
theorem way_ahead : Way aheadI := by
  have : aheadI = lexW (fun x y => cmpI (nilI x) (nilI y)) (fun x y => rowsI (parts 46 x) (parts 46 y)) := funext fun x => funext fun y => aheadI_lex x y
  rw [this]
  exact (way_int.pull nilI).lex (way_rowsI.pull (parts 46))
theorem aheadI_eq {x y : List UInt8} (h : aheadI x y = 0) : x = y := by
  rw [aheadI_lex] at h
  exact parts_inj 46 x y (rowsI_eq (lexW_eq h).2)
theorem cmpV_lex (x y : Vr) : cmpV x y = lexW (fun x y => cmpI x.a y.a) (lexW (fun x y => cmpI x.b y.b) (lexW (fun x y => cmpI x.c y.c) (fun x y => aheadI x.p y.p))) x y := by
  unfold cmpV lexW
  by_cases h1 : cmpI x.a y.a = 0
  · rw [if_neg (by omega), if_pos h1]
    by_cases h2 : cmpI x.b y.b = 0
    · rw [if_neg (by omega), if_pos h2]
      by_cases h3 : cmpI x.c y.c = 0
      · rw [if_neg (by omega), if_pos h3]
      · rw [if_pos h3, if_neg h3]
    · rw [if_pos h2, if_neg h2]
  · rw [if_pos h1, if_neg h1]
theorem way_ver : Way cmpV := by
  have : cmpV = lexW (fun x y => cmpI x.a y.a) (lexW (fun x y => cmpI x.b y.b) (lexW (fun x y => cmpI x.c y.c) (fun x y => aheadI x.p y.p))) := funext fun x => funext fun y => cmpV_lex x y
  rw [this]
  exact (way_int.pull Vr.a).lex ((way_int.pull Vr.b).lex ((way_int.pull Vr.c).lex (way_ahead.pull Vr.p)))
theorem cmpV_eq {x y : Vr} (h : cmpV x y = 0) : x = y := by
  rw [cmpV_lex] at h
  obtain ⟨h1, h⟩ := lexW_eq h
  obtain ⟨h2, h⟩ := lexW_eq h
  obtain ⟨h3, h4⟩ := lexW_eq h
  have e1 := cmpI_eq h1
  have e2 := cmpI_eq h2
  have e3 := cmpI_eq h3
  have e4 := aheadI_eq h4
  cases x
  cases y
  simp only at e1 e2 e3 e4
  subst e1 e2 e3 e4
  rfl
theorem digitB_iff (b : UInt8) : digitB b = true ↔ 48 ≤ b.toNat ∧ b.toNat ≤ 57 := by
  simp [digitB, UInt8.le_iff_toNat_le]
def dv : List UInt8 → Nat
  | [] => 0
  | b :: l => (b.toNat - 48) * 10 ^ l.length + dv l
theorem dv_lt : ∀ l : List UInt8, l.all digitB = true → dv l < 10 ^ l.length
  | [], _ => by simp [dv]
  | b :: l, h => by
    simp only [List.all_cons, Bool.and_eq_true, digitB_iff] at h
    have ih := dv_lt l h.2
    have : (b.toNat - 48) * 10 ^ l.length ≤ 9 * 10 ^ l.length := Nat.mul_le_mul_right _ (by omega)
    simp only [dv, List.length_cons, Nat.pow_succ]
    omega
def Canon (l : List UInt8) : Prop := l.all digitB = true ∧ l ≠ [] ∧ (l.length = 1 ∨ l.head? ≠ some 48)
theorem dv_ge {l : List UInt8} (h : Canon l) (h1 : 1 < l.length) : 10 ^ (l.length - 1) ≤ dv l := by
  obtain ⟨h2, h3, h4⟩ := h
  cases l with
  | nil => exact absurd rfl h3
  | cons b l =>
    rcases h4 with h4 | h4
    · omega
    · simp only [List.all_cons, Bool.and_eq_true, digitB_iff] at h2
      have hb : b.toNat ≠ 48 := fun e => h4 (by rw [List.head?_cons]; exact congrArg some (UInt8.toNat_inj.mp e))
      have : 1 * 10 ^ l.length ≤ (b.toNat - 48) * 10 ^ l.length := Nat.mul_le_mul_right _ (by omega)
      simp only [dv, List.length_cons, Nat.add_sub_cancel]
      omega
theorem dv_append (l : List UInt8) (b : UInt8) : dv (l ++ [b]) = 10 * dv l + (b.toNat - 48) := by
  induction l with
  | nil => simp [dv]
  | cons a l ih =>
    simp only [List.cons_append, dv, ih, List.length_append, List.length_cons, List.length_nil, Nat.zero_add, Nat.pow_succ, Nat.mul_add]
    have : (a.toNat - 48) * (10 ^ l.length * 10) = 10 * ((a.toNat - 48) * 10 ^ l.length) := by
      rw [Nat.mul_comm (10 ^ l.length), Nat.mul_left_comm]
    omega
theorem dig_nat (d : Nat) (h : d < 10) : (UInt8.ofNat (48 + d)).toNat = 48 + d := by
  rw [UInt8.toNat_ofNat']
  omega
theorem canon_dec (u : Nat) : Canon (Lib.decDigits u) ∧ dv (Lib.decDigits u) = u ∧ (u ≠ 0 → (Lib.decDigits u).head? ≠ some 48) := by
  induction u using Nat.strongRecOn with
  | _ u ih =>
    by_cases h : u < 10
    · rw [Lib.decDigits, dif_pos h]
      have e := dig_nat u h
      refine ⟨⟨?_, by simp, .inl rfl⟩, ?_, ?_⟩
      · simp only [List.all_cons, List.all_nil, Bool.and_true, digitB_iff, e]
        omega
      · simp only [dv, e, List.length_nil]
        omega
      · intro h0 h1
        simp only [List.head?_cons, Option.some.injEq] at h1
        have := congrArg UInt8.toNat h1
        rw [e] at this
        change 48 + u = 48 at this
        omega
    · rw [Lib.decDigits, dif_neg h]
      obtain ⟨⟨c1, c2, c3⟩, d1, d2⟩ := ih (u / 10) (by omega)
      have e := dig_nat (u % 10) (by omega)
      have hh : (Lib.decDigits (u / 10) ++ [UInt8.ofNat (48 + u % 10)]).head? ≠ some 48 := by
        have := d2 (by omega)
        cases hc : Lib.decDigits (u / 10) with
        | nil => exact absurd hc c2
        | cons a l => rw [hc] at this; exact this
      refine ⟨⟨?_, by simp, .inr hh⟩, ?_, fun _ => hh⟩
      · rw [List.all_append, c1]
        simp only [List.all_cons, List.all_nil, Bool.and_true, Bool.true_and, digitB_iff, e]
        omega
      · rw [dv_append, d1, e]
        omega
end Go.Proofs.YtoghoiecnciglaaDoor.Q
end
section
namespace Go.Proofs.YtoghoiecnciglaaDoor.Q
open Go.RowKit Go.Proofs.YtoghoiecnciglaaDoorW.PrintWords
theorem len_dec {n : Nat} (k : Nat) (h : n < 10 ^ k) (hk : 1 ≤ k) : (Lib.decDigits n).length ≤ k := by
  obtain ⟨c, d, _⟩ := canon_dec n
  rcases Nat.lt_or_ge k (Lib.decDigits n).length with hl | hl
  · have h1 := dv_ge c (by omega)
    rw [d] at h1
    have : 10 ^ k ≤ 10 ^ ((Lib.decDigits n).length - 1) := Nat.pow_le_pow_right (by decide) (by omega)
    omega
  · exact hl
theorem cut_free (l : List UInt8) (c : UInt8) (h : ∀ x ∈ l, x ≠ c) : cutL l c = l ∧ cutR l c = [] ∧ l.contains c = false := by
  have hc : l.contains c = false := by
    cases hb : l.contains c with
    | false => rfl
    | true =>
      simp only [List.contains_iff_mem] at hb
      exact absurd rfl (h c hb)
  exact ⟨(cut_none l c hc).1, (cut_none l c hc).2, hc⟩
theorem parts_free (c : UInt8) (l : List UInt8) (h : ∀ x ∈ l, x ≠ c) : parts c l = [l] := by
  obtain ⟨h1, h2, h3⟩ := cut_free l c h
  rw [parts_cut, h1, h3]
  rfl
theorem right_parts {a b c : Int} {p : List UInt8} (h : rightV a b c p = true) : (0 ≤ a ∧ a ≤ 999999) ∧ (0 ≤ b ∧ b ≤ 999999) ∧ (0 ≤ c ∧ c ≤ 999999) ∧ p.length ≤ 40 ∧ (p = [] ∨ preL p = true) := by
  unfold rightV partB at h
  simp only [Bool.and_eq_true, decide_eq_true_eq, Bool.or_eq_true, beq_iff_eq] at h
  exact ⟨h.1, h.2.1, h.2.2.1, h.2.2.2.1, h.2.2.2.2⟩
def hexL (b : UInt8) : Bool := digitB b || (97 ≤ b && b ≤ 102)
def idB (s : List UInt8) : Bool := decide (12 ≤ s.length) && (decide (s.length ≤ 40) && s.all hexL)
def stampL (t : Nat) : List UInt8 := (Lib.decDigits (100000000000000 + t)).drop 1
theorem stamp_len (t : Nat) (h : t < 100000000000000) : (Lib.decDigits (100000000000000 + t)).length = 15 := by
  obtain ⟨c, d, _⟩ := canon_dec (100000000000000 + t)
  have h1 := len_dec (n := 100000000000000 + t) 15 (by omega) (by decide)
  have h2 := dv_lt _ c.1
  rw [d] at h2
  rcases Nat.lt_or_ge (Lib.decDigits (100000000000000 + t)).length 15 with h3 | h3
  · have : 10 ^ (Lib.decDigits (100000000000000 + t)).length ≤ 10 ^ 14 := Nat.pow_le_pow_right (by decide) (by omega)
    omega
  · omega
theorem stamp_ok (t : Nat) (h : t < 100000000000000) : (stampL t).length = 14 ∧ (stampL t).all digitB = true ∧ dv (stampL t) = t := by
  have hl := stamp_len t h
  obtain ⟨⟨c1, c2, c3⟩, d, _⟩ := canon_dec (100000000000000 + t)
  unfold stampL
  cases hc : Lib.decDigits (100000000000000 + t) with
  | nil => exact absurd hc c2
  | cons b l =>
    rw [hc] at c1 c3 d hl
    simp only [List.length_cons] at hl
    simp only [List.all_cons, Bool.and_eq_true, digitB_iff] at c1
    have h1 := dv_lt l c1.2
    have hl' : l.length = 14 := by omega
    simp only [dv, hl'] at d
    rw [hl'] at h1
    have hb : b.toNat - 48 = 1 := by
      generalize b.toNat - 48 = q at *
      have : (10 : Nat) ^ 14 = 100000000000000 := by decide
      rw [this] at d h1
      omega
    rw [hb] at d
    refine ⟨hl', c1.2, ?_⟩
    show dv l = t
    omega
def markL (t : Nat) (id : List UInt8) : List UInt8 := stampL t ++ 45 :: id.take 12
def pseudoR (has : Bool) (v : Vr) (m : List UInt8) : Vr := if has = false then ⟨0, 0, 0, m⟩ else if v.p = [] then ⟨v.a, v.b, v.c + 1, 48 :: 46 :: m⟩ else ⟨v.a, v.b, v.c, v.p ++ 46 :: 48 :: 46 :: m⟩
def pseudoV (has : Bool) (v : Vr) (t : Int) (id : List UInt8) : Option Vr :=
  if t < 0 ∨ 100000000000000 ≤ t ∨ idB id = false then none
  else if rightV (pseudoR has v (markL t.toNat id)).a (pseudoR has v (markL t.toNat id)).b (pseudoR has v (markL t.toNat id)).c (pseudoR has v (markL t.toNat id)).p = true then some (pseudoR has v (markL t.toNat id)) else none
theorem parts_cat (c : UInt8) : ∀ x y : List UInt8, parts c (x ++ c :: y) = parts c x ++ parts c y
  | [], y => by
    rw [List.nil_append, parts_cons, if_pos rfl]
    rfl
  | a :: x, y => by
    have ih := parts_cat c x y
    rw [List.cons_append, parts_cons, parts_cons, ih]
    by_cases h : a = c
    · rw [if_pos h, if_pos h]
      rfl
    · rw [if_neg h, if_neg h]
      cases e : parts c x with
      | nil => exact absurd e (parts_ne c x)
      | cons w ws => rfl
theorem pseudoR_nil (v : Vr) (m : List UInt8) (h : v.p = []) : pseudoR true v m = ⟨v.a, v.b, v.c + 1, 48 :: 46 :: m⟩ := by
  unfold pseudoR
  rw [if_neg (by simp), if_pos h]
theorem pseudoR_pre (v : Vr) (m : List UInt8) (h : v.p ≠ []) : pseudoR true v m = ⟨v.a, v.b, v.c, v.p ++ 46 :: 48 :: 46 :: m⟩ := by
  unfold pseudoR
  rw [if_neg (by simp), if_neg h]
theorem mark_len {t : Nat} {i : List UInt8} (ht : t < 100000000000000) (hi : 12 ≤ i.length) : (markL t i).length = 27 := by
  unfold markL
  rw [List.length_append, (stamp_ok t ht).1, List.length_cons, List.length_take]
  omega
def lastW (p : List UInt8) : List UInt8 := (parts 46 p).getLastD []
def behindL (p : List UInt8) : Option (Nat × List UInt8) :=
  if (lastW p).length = 27 ∧ (lastW p)[14]? = some 45 ∧ ((lastW p).take 14).all digitB = true ∧ ((lastW p).drop 15).all hexL = true then some (dv ((lastW p).take 14), (lastW p).drop 15) else none
theorem lastW_cat (p q : List UInt8) : lastW (p ++ 46 :: q) = lastW q := by
  unfold lastW
  rw [parts_cat]
  cases h : parts 46 q with
  | nil => exact absurd h (parts_ne 46 q)
  | cons w ws => simp [List.getLastD_eq_getLast?, List.getLast?_cons]
theorem all_tail {x : UInt8} {l : List UInt8} (h : (x :: l).all digitB = true) : digitB x = true ∧ l.all digitB = true := by
  simpa [List.all_cons, Bool.and_eq_true] using h
theorem maxGo_ok : ∀ (l : List Vr) (m : Vr), (maxGo l m = m ∨ maxGo l m ∈ l) ∧ cmpV m (maxGo l m) ≤ 0 ∧ ∀ x ∈ l, cmpV x (maxGo l m) ≤ 0
  | [], m => ⟨.inl rfl, by rw [show maxGo [] m = m from rfl, way_ver.refl]; decide, fun _ h => absurd h (by simp)⟩
  | x :: l, m => by
    have e : maxGo (x :: l) m = maxGo l (if 0 < cmpV x m then x else m) := rfl
    rw [e]
    by_cases h : 0 < cmpV x m
    · rw [if_pos h]
      obtain ⟨h1, h2, h3⟩ := maxGo_ok l x
      refine ⟨.inr ?_, ?_, ?_⟩
      · rcases h1 with h1 | h1
        · rw [h1]; exact List.mem_cons_self
        · exact List.mem_cons_of_mem _ h1
      · have := way_ver.anti x m
        exact way_ver.trans m x _ (by omega) h2
      · intro y hy
        rcases List.mem_cons.1 hy with rfl | hy
        · exact h2
        · exact h3 y hy
    · rw [if_neg h]
      obtain ⟨h1, h2, h3⟩ := maxGo_ok l m
      refine ⟨?_, h2, ?_⟩
      · rcases h1 with h1 | h1
        · exact .inl h1
        · exact .inr (List.mem_cons_of_mem _ h1)
      · intro y hy
        rcases List.mem_cons.1 hy with rfl | hy
        · exact way_ver.trans y m _ (by omega) h2
        · exact h3 y hy
theorem maxV_ok {l : List Vr} (h : l ≠ []) : maxV l ∈ l ∧ ∀ x ∈ l, cmpV x (maxV l) ≤ 0 := by
  cases l with
  | nil => exact absurd rfl h
  | cons x l =>
    obtain ⟨h1, h2, h3⟩ := maxGo_ok l x
    refine ⟨?_, ?_⟩
    · rcases h1 with h1 | h1
      · show maxGo l x ∈ x :: l
        rw [h1]; exact List.mem_cons_self
      · exact List.mem_cons_of_mem _ h1
    · intro y hy
      rcases List.mem_cons.1 hy with rfl | hy
      · exact h2
      · exact h3 y hy
theorem maxV_uniq {l : List Vr} {m : Vr} (h : m ∈ l) (h2 : ∀ x ∈ l, cmpV x m ≤ 0) : maxV l = m := by
  obtain ⟨h3, h4⟩ := maxV_ok (l := l) (by rintro rfl; simp at h)
  have a := h4 m h
  have b := h2 _ h3
  have c := way_ver.anti m (maxV l)
  exact cmpV_eq (by omega)
theorem maxV_same {l m : List Vr} (hl : l ≠ []) (h : ∀ x, x ∈ l ↔ x ∈ m) : maxV m = maxV l := by
  obtain ⟨h3, h4⟩ := maxV_ok hl
  exact maxV_uniq ((h _).1 h3) (fun x hx => h4 x ((h x).2 hx))
theorem maxV_two {l m : List Vr} (hl : l ≠ []) (hm : m ≠ []) : maxV [maxV l, maxV m] = maxV (l ++ m) := by
  obtain ⟨h3, h4⟩ := maxV_ok hl
  obtain ⟨k3, k4⟩ := maxV_ok hm
  obtain ⟨g3, g4⟩ := maxV_ok (l := [maxV l, maxV m]) (by simp)
  refine (maxV_uniq ?_ ?_).symm
  · rcases List.mem_cons.1 g3 with h | h
    · rw [h]; exact List.mem_append_left _ h3
    · rw [List.mem_singleton.1 h]; exact List.mem_append_right _ k3
  · intro x hx
    rcases List.mem_append.1 hx with h | h
    · exact way_ver.trans _ _ _ (h4 x h) (g4 _ List.mem_cons_self)
    · exact way_ver.trans _ _ _ (k4 x h) (g4 _ (by simp))
end Go.Proofs.YtoghoiecnciglaaDoor.Q
end
