import Derived.Test.YtoghoiecnciglaaGreatDoorZVrp
import Derived.Test.YtoghoiecnciglaaGreatDoorZVyz
import Derived.Test.YtoghoiecnciglaaGreatDoorZU1
import Derived.Deep.CutBlock
namespace Go.Proofs.YtoghoiecnciglaaGreatDoor.Q
open Go.RowKit Go.Proofs.YtoghoiecnciglaaGreatDoorW.PrintWords
theorem num2_l0 (s : ByteArray) (hs : s.size ≤ 9) : ∀ (d k i n : Nat), i + d = s.size → d < k → n < 10 ^ i → U.transhumanceref1_Number.l0 k s n i = some (numRes (numGo (s.data.toList.drop i) n))
  | 0, k, i, n, hd, hk, hn => by
    obtain ⟨k, rfl⟩ : ∃ m, k = m + 1 := ⟨k - 1, by omega⟩
    rw [U.transhumanceref1_Number.l0.eq_2, if_neg (by omega), List.drop_eq_nil_of_le (by simp; omega)]
    rfl
  | d + 1, k, i, n, hd, hk, hn => by
    obtain ⟨k, rfl⟩ : ∃ m, k = m + 1 := ⟨k - 1, by omega⟩
    have hi : i < s.size := by omega
    have hw : wrap64 ((i : Int) + 1) = ((i + 1 : Nat) : Int) := wrap_in (by omega) (by omega)
    have hp : 10 ^ i ≤ 10 ^ 8 := Nat.pow_le_pow_right (by decide) (by omega)
    rw [U.transhumanceref1_Number.l0.eq_2, if_pos (by omega), if_pos (by omega), bt_int s i hi, drop_byte s i hi, hw]
    by_cases h1 : (s[i].toNat : Int) < 48
    · have : ¬ digitB s[i] = true := by rw [digit_int]; omega
      rw [if_pos h1, numGo, if_neg this]; rfl
    by_cases h2 : (s[i].toNat : Int) > 57
    · have : ¬ digitB s[i] = true := by rw [digit_int]; omega
      rw [if_neg h1, if_pos h2, numGo, if_neg this]; rfl
    have hd1 : digitB s[i] = true := by rw [digit_int]; omega
    rw [if_neg h1, if_neg h2, numGo, if_pos hd1]
    have e : wrap64 (wrap64 (10 * (n : Int)) + (((s[i].toNat : Int) - 48) % 256)) = ((10 * n + (s[i].toNat - 48) : Nat) : Int) := by
      have a1 : wrap64 (10 * (n : Int)) = 10 * n := wrap_in (by omega) (by omega)
      rw [a1, wrap_in (by omega) (by omega)]
      omega
    rw [e]
    exact num2_l0 s hs d k (i + 1) _ (by omega) (by omega) (by rw [Nat.pow_succ]; omega)
theorem num2_f (s : ByteArray) : U.transhumanceref1_Number.f 12 s = some (numRes (numL s.data.toList)) := by
  unfold U.transhumanceref1_Number.f numL
  have hl : s.data.toList.length = s.size := rfl
  rw [hl]
  have j0 : U.transhumanceref1_Number.j0 12 s true = some (numRes none) := rfl
  by_cases h1 : (s.size : Int) < 1
  · rw [if_pos h1, if_pos (by omega)]; exact j0
  by_cases h2 : (s.size : Int) > 9
  · rw [if_neg h1, if_pos h2, if_pos (by omega)]; exact j0
  have go : U.transhumanceref1_Number.j0 12 s false = some (numRes (numGo s.data.toList 0)) := by
    rw [U.transhumanceref1_Number.j0.eq_2, if_neg (by simp)]
    have := num2_l0 s (by omega) s.size 11 0 0 (by omega) (by omega) (by decide)
    rw [List.drop_zero] at this
    exact this
  rw [if_neg h1, if_neg h2]
  by_cases h3 : (s.size : Int) > 1
  · have hs0 : 0 < s.size := by omega
    have hh : s.data.toList.head? = some s[0] := by
      have := drop_byte s 0 hs0
      rw [List.drop_zero] at this
      rw [this]; rfl
    rw [if_pos h3, if_pos (show 0 < (s.size : Int) from by omega), show bt s 0 = (s[0].toNat : Int) from bt_int s 0 hs0, hh]
    by_cases h4 : s[0] = 48
    · rw [h4, if_pos (by refine .inr (.inr ⟨by omega, rfl⟩))]; exact j0
    · have : ((s[0].toNat : Int) == 48) = false := by
        have : s[0].toNat ≠ 48 := fun e => h4 (by rw [← UInt8.toNat_inj]; exact e)
        simp only [beq_eq_false_iff_ne, ne_eq]
        omega
      rw [this, if_neg (by rintro (h | h | ⟨_, h⟩); omega; omega; exact h4 (Option.some.inj h))]
      exact go
  · rw [if_neg h3, if_neg (by rintro (h | h | ⟨h, _⟩) <;> omega)]
    exact go
theorem num2_calls (s : ByteArray) (w : World) : Calls Tryz.prog 23 #[.string s] w fun e w' => e = .returned (.tuple #[.int .i64 (numRes (numL s.data.toList)).1, .bool (numRes (numL s.data.toList)).2]) ∧ Drawn0 w w' :=
  U.transhumanceref1_Number.calls 12 s _ _ w (num2_f s)
theorem digit_calls (b : UInt8) (w : World) : Calls Tryz.prog 22 #[.int .u8 (b.toNat : Int)] w fun e w' => e = .returned (.bool (digitB b)) ∧ Drawn0 w w' := by
  refine transhumanceref2_digit.calls _ _ w ?_
  unfold transhumanceref2_digit.f
  have := digit_int b
  by_cases h1 : (b.toNat : Int) ≥ 48
  · rw [if_pos h1]
    congr 1
    rw [Bool.eq_iff_iff, this, decide_eq_true_eq]
    omega
  · rw [if_neg h1]
    congr 1
    symm
    rw [Bool.eq_false_iff, Ne, this]
    omega
def kontG (i a b c : Nat) (l : List UInt8) : Option Vr :=
  if i = 0 then (partP 118 l).bind fun x => (partP 46 x.2).bind fun y => (partP 46 y.2).bind fun z => lastP x.1 y.1 z.1 z.2
  else if i = 1 then (partP 46 l).bind fun y => (partP 46 y.2).bind fun z => lastP a y.1 z.1 z.2
  else if i = 2 then (partP 46 l).bind fun z => lastP a b z.1 z.2
  else lastP a b c l
def signP (i : Nat) : UInt8 := if i = 0 then 118 else 46
def setA (i a k : Nat) : Nat := if i = 0 then k else a
def setB (i a k : Nat) : Nat := if i = 1 then k else a
def setC (i a k : Nat) : Nat := if i = 2 then k else a
theorem kont_step (i a b c : Nat) (l : List UInt8) (h : i < 3) : kontG i a b c l = (partP (signP i) l).bind fun x => kontG (i + 1) (setA i a x.1) (setB i b x.1) (setC i c x.1) x.2 := by
  rcases (by omega : i = 0 ∨ i = 1 ∨ i = 2) with rfl | rfl | rfl <;> rfl
theorem part_none {i a b c : Nat} {l : List UInt8} (h : i < 3) (hp : partP (signP i) l = none) : kontG i a b c l = none := by
  rw [kont_step i a b c l h, hp]
  rfl
theorem part_some {i a b c n : Nat} {l r : List UInt8} (h : i < 3) (hp : partP (signP i) l = some (n, r)) : kontG i a b c l = kontG (i + 1) (setA i a n) (setB i b n) (setC i c n) r := by
  rw [kont_step i a b c l h, hp]
  rfl
theorem tw_in : ∀ (l : List UInt8) (j : Nat), j < (l.takeWhile digitB).length → ∃ h : j < l.length, digitB l[j] = true
  | [], j, h => by simp at h
  | x :: l, j, h => by
    by_cases hx : digitB x = true
    · cases j with
      | zero => exact ⟨by simp, hx⟩
      | succ j =>
        rw [List.takeWhile_cons_of_pos hx, List.length_cons] at h
        obtain ⟨h1, h2⟩ := tw_in l j (by omega)
        exact ⟨by simp; omega, h2⟩
    · rw [List.takeWhile_cons_of_neg hx] at h
      simp at h
theorem tw_out : ∀ (l : List UInt8), (l.takeWhile digitB).length = l.length ∨ ∃ h : (l.takeWhile digitB).length < l.length, digitB l[(l.takeWhile digitB).length] = false
  | [] => .inl rfl
  | x :: l => by
    by_cases hx : digitB x = true
    · rcases tw_out l with h | ⟨h1, h2⟩
      · exact .inl (by rw [List.takeWhile_cons_of_pos hx, List.length_cons, List.length_cons, h])
      · refine .inr ⟨by rw [List.takeWhile_cons_of_pos hx, List.length_cons, List.length_cons]; omega, ?_⟩
        have : ∀ (m : List UInt8), m = x :: l.takeWhile digitB → ∀ (h : m.length < (x :: l).length), digitB (x :: l)[m.length] = false := by
          rintro m rfl h
          exact h2
        exact this _ (List.takeWhile_cons_of_pos hx) _
    · refine .inr ⟨by rw [List.takeWhile_cons_of_neg hx]; simp, ?_⟩
      have : ∀ (m : List UInt8), m = [] → ∀ (h : m.length < (x :: l).length), digitB (x :: l)[m.length] = false := by
        rintro m rfl h
        exact Bool.eq_false_iff.2 hx
      exact this _ (List.takeWhile_cons_of_neg hx) _
theorem tw_take (l : List UInt8) : l.takeWhile digitB = l.take (l.takeWhile digitB).length := by
  conv => rhs; rw [← List.takeWhile_append_dropWhile (p := digitB) (l := l)]
  rw [List.take_left']
  rw [List.takeWhile_append_dropWhile]
theorem dw_drop (l : List UInt8) : l.dropWhile digitB = l.drop (l.takeWhile digitB).length := by
  conv => rhs; rw [← List.takeWhile_append_dropWhile (p := digitB) (l := l)]
  rw [List.drop_left']
  rw [List.takeWhile_append_dropWhile]
end Go.Proofs.YtoghoiecnciglaaGreatDoor.Q
