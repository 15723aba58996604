import Derived.Test.YtoghoiecnciglaaGreatDoorZVwg
namespace Go.Proofs.YtoghoiecnciglaaGreatDoor.Q
open Go.RowKit Go.Proofs.YtoghoiecnciglaaGreatDoorW.PrintWords
def partP (c : UInt8) : List UInt8 → Option (Nat × List UInt8)
  | [] => none
  | x :: t => if x = c then (numL (t.takeWhile digitB)).map fun n => (n, t.dropWhile digitB) else none
def preP : List UInt8 → Option (List UInt8)
  | [] => some []
  | x :: t => if x = 45 ∧ t ≠ [] then some t else none
def lastP (a b c : Nat) (l : List UInt8) : Option Vr := (preP l).bind fun p => if rightV a b c p = true then some ⟨a, b, c, p⟩ else none
def refParse (l : List UInt8) : Option Vr :=
  (partP 118 l).bind fun x => (partP 46 x.2).bind fun y => (partP 46 y.2).bind fun z => lastP x.1 y.1 z.1 z.2
theorem partP_cons (c x : UInt8) (t : List UInt8) : partP c (x :: t) = if x = c then (numL (t.takeWhile digitB)).map fun n => (n, t.dropWhile digitB) else none := rfl
theorem preP_cons (x : UInt8) (t : List UInt8) : preP (x :: t) = if x = 45 ∧ t ≠ [] then some t else none := rfl
theorem partP_inv {c : UInt8} {l r : List UInt8} {n : Nat} (h : partP c l = some (n, r)) : l = c :: (Lib.decDigits n ++ r) := by
  cases l with
  | nil => cases h
  | cons x t =>
    rw [partP_cons] at h
    split at h
    · next hx =>
      subst hx
      obtain ⟨m, hm, he⟩ := Option.map_eq_some_iff.1 h
      injection he with e1 e2
      subst e1 e2
      rw [← (numL_inv hm).1, List.takeWhile_append_dropWhile]
    · cases h
theorem take_app : ∀ (d r : List UInt8), d.all digitB = true → (∀ x t, r = x :: t → digitB x = false) → (d ++ r).takeWhile digitB = d ∧ (d ++ r).dropWhile digitB = r
  | [], r, _, h => by
    cases r with
    | nil => exact ⟨rfl, rfl⟩
    | cons x t => simp [h x t rfl]
  | y :: d, r, hd, h => by
    simp only [List.all_cons, Bool.and_eq_true] at hd
    obtain ⟨h1, h2⟩ := take_app d r hd.2 h
    simp [hd.1, h1, h2]
theorem partP_app (c : UInt8) (n : Nat) (r : List UInt8) (hn : n ≤ 999999999) (h : ∀ x t, r = x :: t → digitB x = false) : partP c (c :: (Lib.decDigits n ++ r)) = some (n, r) := by
  rw [partP_cons]
  obtain ⟨h1, h2⟩ := take_app (Lib.decDigits n) r (canon_dec n).1.1 h
  rw [if_pos rfl, h1, h2, numL_dec n hn]
  rfl
theorem preP_inv {l p : List UInt8} (h : preP l = some p) : l = preT p := by
  cases l with
  | nil => injection h with h; subst h; rfl
  | cons x t =>
    rw [preP_cons] at h
    split at h
    · next hx =>
      injection h with h
      subst h
      unfold preT
      rw [if_neg hx.2, hx.1]
    · cases h
theorem preP_pre (p : List UInt8) : preP (preT p) = some p := by
  unfold preT
  by_cases h : p = []
  · rw [if_pos h, h]; rfl
  · rw [if_neg h]
    rw [preP_cons]
    rw [if_pos ⟨rfl, h⟩]
theorem ref_iff (s : List UInt8) (v : Vr) : refParse s = some v ↔ rightV v.a v.b v.c v.p = true ∧ s = textV v := by
  constructor
  · intro h
    obtain ⟨⟨a, l1⟩, h1, h⟩ := Option.bind_eq_some_iff.1 h
    obtain ⟨⟨b, l2⟩, h2, h⟩ := Option.bind_eq_some_iff.1 h
    obtain ⟨⟨c, l3⟩, h3, h⟩ := Option.bind_eq_some_iff.1 h
    obtain ⟨p, h4, h⟩ := Option.bind_eq_some_iff.1 h
    split at h
    · next hr =>
      injection h with h
      subst h
      refine ⟨hr, ?_⟩
      have e1 := partP_inv h1
      have e2 := partP_inv h2
      have e3 := partP_inv h3
      have e4 := preP_inv h4
      simp only at e1 e2 e3 e4
      rw [e1, e2, e3, e4]
      rfl
    · cases h
  · rintro ⟨hr, rfl⟩
    obtain ⟨⟨a0, a1⟩, ⟨b0, b1⟩, ⟨c0, c1⟩, _⟩ := right_parts hr
    have d46 : ∀ (r : List UInt8) (x : UInt8) (t : List UInt8), 46 :: r = x :: t → digitB x = false := by
      intro r x t h
      injection h with h1 h2
      subst h1
      rfl
    have dpre : ∀ (x : UInt8) (t : List UInt8), preT v.p = x :: t → digitB x = false := by
      intro x t h
      unfold preT at h
      split at h
      · cases h
      · injection h with h1 h2
        subst h1
        rfl
    have e1 : partP 118 (textV v) = some (v.a.toNat, 46 :: (Lib.decDigits v.b.toNat ++ 46 :: (Lib.decDigits v.c.toNat ++ preT v.p))) := partP_app 118 _ _ (by omega) (d46 _)
    have e2 : partP 46 (46 :: (Lib.decDigits v.b.toNat ++ 46 :: (Lib.decDigits v.c.toNat ++ preT v.p))) = some (v.b.toNat, 46 :: (Lib.decDigits v.c.toNat ++ preT v.p)) := partP_app 46 _ _ (by omega) (d46 _)
    have e3 : partP 46 (46 :: (Lib.decDigits v.c.toNat ++ preT v.p)) = some (v.c.toNat, preT v.p) := partP_app 46 _ _ (by omega) dpre
    have z1 : ((v.a.toNat : Nat) : Int) = v.a := Int.toNat_of_nonneg a0
    have z2 : ((v.b.toNat : Nat) : Int) = v.b := Int.toNat_of_nonneg b0
    have z3 : ((v.c.toNat : Nat) : Int) = v.c := Int.toNat_of_nonneg c0
    unfold refParse
    rw [e1, Option.bind_some, e2, Option.bind_some, e3, Option.bind_some]
    unfold lastP
    rw [preP_pre, Option.bind_some]
    simp only [z1, z2, z3]
    rw [if_pos hr]
theorem ref_parse (s : List UInt8) : refParse s = parseV s := by
  cases h : parseV s with
  | some v => exact (ref_iff s v).2 ((parse_iff s v).1 h)
  | none =>
    cases h2 : refParse s with
    | none => rfl
    | some v =>
      rw [(parse_iff s v).2 ((ref_iff s v).1 h2)] at h
      cases h
end Go.Proofs.YtoghoiecnciglaaGreatDoor.Q
