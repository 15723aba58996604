/- DentMany answers true for every input: plain part, over what the program's dent.Locks computes. -/
import Derived.Test.YtghencpiejbecaaDoorZDk
import Derived.Test.YtghencpiejbecaaDoorZDPm
import Derived.Test.YtghencpiejbecaaDoorZQ4
set_option linter.unusedVariables false
set_option linter.unusedSimpArgs false
namespace Go.Proofs.YtghencpiejbecaaDoor.Pure
open Go.RowKit Go.Proofs.YtghencpiejbecaaDoor.Q Go.Proofs.YtghencpiejbecaaDoorW.PrintWords Go.Proofs.YtghencpiejbecaaDoorW.PrintLast
def dg (i : Nat) : List UInt8 := if i < 10 then [UInt8.ofNat (48 + i)] else [UInt8.ofNat (48 + i / 10), UInt8.ofNat (48 + i % 10)]
theorem dg_all : ∀ i : Fin 45, transhumanceref1_Digits.f 5 (i.val : Int) = some (bs (dg i.val)) := by decide +kernel
theorem dg_ev (i : Nat) (h : i < 45) : Ev (fun k => transhumanceref1_Digits.f k (i : Int)) (bs (dg i)) := Ev.of (transhumanceref1_Digits.mono (i : Int)) (dg_all ⟨i, h⟩)
theorem dg_len (i : Nat) : (dg i).length ≤ 2 := by
  unfold dg
  split <;> simp
def front : List UInt8 := [45, 32, 114, 111, 111, 116, 58, 32, 109]
def back : List UInt8 := [10, 32, 32, 114, 101, 118, 105, 115, 105, 111, 110, 58, 32, 49, 10]
def txt : Nat → List UInt8
  | 0 => [108, 111, 99, 107, 115, 58, 10]
  | n + 1 => ((txt n ++ front) ++ dg n) ++ back
theorem txt_len : ∀ i : Nat, (txt i).length ≤ 7 + 26 * i
  | 0 => by simp [txt]
  | i + 1 => by
    have := txt_len i
    have h2 := dg_len i
    have e1 : front.length = 9 := rfl
    have e2 : back.length = 15 := rfl
    simp only [txt, List.length_append]
    omega
theorem txt_mono : ∀ (d i : Nat), (txt i).length ≤ (txt (i + d)).length
  | 0, i => Nat.le_refl _
  | d + 1, i => by
    have := txt_mono d i
    rw [← Nat.add_assoc]
    simp only [txt, List.length_append]
    omega
def at40 (i : Nat) : Nat := if 40 < i then (txt 40).length else 0
set_option maxRecDepth 1000000 in
theorem few_all : ∀ j : Fin 6, (locksD (txt (35 + j.val))).2 = (0, 0) ∧ (locksD (txt (35 + j.val))).1.length = 35 + j.val := by decide +kernel
set_option maxRecDepth 1000000 in
theorem more_all : ∀ j : Fin 4, (locksD (txt (41 + j.val))).2 = ((txt 40).length, 2) ∧ (locksD (txt (41 + j.val))).1.length = 0 := by decide +kernel
theorem txt_f (n : Nat) (hn : n ≤ 45) : dent_Locks.f (bs (txt n)) = some ((locksD (txt n)).1.map Lk.out, ((dent_Locks.line (bs (txt n))).1 : Int), ((dent_Locks.line (bs (txt n))).2 : Int), (locksD (txt n)).2.2) := by
  unfold dent_Locks.f
  have := txt_len n
  rw [if_pos (by rw [size_bs]; omega), data_bs]
theorem many_l0 (n : Nat) (h1 : 35 ≤ n) (hn : n ≤ 44) : ∀ (d i : Nat), i + d = n → Ev (fun k => transhumancelaw7_DentMany.l0 k n (bs (txt i)) (at40 i) i) true
  | 0, i, hd => by
    obtain rfl : i = n := by omega
    have hz := txt_len i
    have hsz : (bs (txt i)).size ≤ 140737488351232 := by rw [size_bs]; omega
    refine Ev.step (fun _ => transhumancelaw7_DentMany.l0.eq_2 ..) (Ev.neg (by omega) ?_)
    refine Ev.val (txt_f i (by omega)) ?_
    by_cases h : 40 < i
    · obtain ⟨j, hj⟩ : ∃ j : Fin 4, i = 41 + j.val := ⟨⟨i - 41, by omega⟩, by simp only; omega⟩
      obtain ⟨hl1, hl2⟩ := more_all j
      rw [← hj] at hl1 hl2
      have e40 : at40 i = (txt 40).length := if_pos h
      have hle : (txt 40).length ≤ (bs (txt i)).size := by
        rw [size_bs]
        have := txt_mono (i - 40) 40
        rwa [show 40 + (i - 40) = i from by omega] at this
      have hline : dent_Locks.line (bs (txt i)) = place ((txt i).take (txt 40).length) := by
        unfold dent_Locks.line
        rw [data_bs, hl1, if_neg (by decide)]
      refine Ev.pos (by omega) (Ev.pos (by rw [hl1]) ?_)
      rw [e40]
      refine Ev.bind (place_ev _ hsz _ hle) (Ev.pos ?_ (Ev.ret ?_))
      · rw [hline, data_bs]
        simp
      · rw [List.length_map, hl2]
        rfl
    · obtain ⟨j, hj⟩ : ∃ j : Fin 6, i = 35 + j.val := ⟨⟨i - 35, by omega⟩, by simp only; omega⟩
      obtain ⟨hl1, hl2⟩ := few_all j
      rw [← hj] at hl1 hl2
      refine Ev.neg (by omega) (Ev.pos (by rw [hl1]) (Ev.ret ?_))
      rw [List.length_map, hl2]
      simp
  | d + 1, i, hd => by
    have hw : wrap64 ((i : Int) + 1) = ((i + 1 : Nat) : Int) := wrap_id (by omega) (by omega)
    have hz := txt_len i
    have h2 := dg_len i
    have e18 : (⟨#[45, 32, 114, 111, 111, 116, 58, 32, 109]⟩ : ByteArray).size = 9 := rfl
    have heq : ((bs (txt i) ++ (⟨#[45, 32, 114, 111, 111, 116, 58, 32, 109]⟩ : ByteArray)) ++ bs (dg i)) ++ (⟨#[10, 32, 32, 114, 101, 118, 105, 115, 105, 111, 110, 58, 32, 49, 10]⟩ : ByteArray) = bs (txt (i + 1)) := by
      apply ext_bs
      simp [ByteArray.data_append, bs, front, back, txt]
    have hrec := many_l0 n h1 hn d (i + 1) (by omega)
    refine Ev.step (fun _ => transhumancelaw7_DentMany.l0.eq_2 ..) (Ev.pos (by omega) ?_)
    by_cases h40 : (i : Int) = 40
    · obtain rfl : i = 40 := by omega
      have e40 : at40 (40 + 1) = (txt 40).length := if_pos (by omega)
      refine Ev.pos h40 (Ev.pos ?_ (Ev.bind (dg_ev 40 (by omega)) (Ev.pos ?_ (Ev.pos ?_ ?_))))
      · rw [size_bs]; omega
      · simp only [ByteArray.size_append, size_bs, e18]; omega
      · simp only [ByteArray.size_append, size_bs, e18]; omega
      · rw [heq, hw, size_bs]
        rw [e40] at hrec
        exact hrec
    · have e40 : at40 (i + 1) = at40 i := by
        unfold at40
        by_cases h : 40 < i
        · rw [if_pos h, if_pos (by omega)]
        · rw [if_neg h, if_neg (by omega)]
      refine Ev.neg h40 (Ev.pos ?_ (Ev.bind (dg_ev i (by omega)) (Ev.pos ?_ (Ev.pos ?_ ?_))))
      · rw [size_bs]; omega
      · simp only [ByteArray.size_append, size_bs, e18]; omega
      · simp only [ByteArray.size_append, size_bs, e18]; omega
      · rw [heq, hw]
        rw [e40] at hrec
        exact hrec
theorem DentMany : transhumancelaw7_DentMany.Pure := by
  intro a0 _
  apply Ev.rounds
  unfold transhumancelaw7_DentMany.f
  obtain ⟨j, hj⟩ := win_fin a0 10 (by decide)
  have hj' : win a0 10 = (j.val : Int) := hj
  have hjl := j.isLt
  refine Ev.val known_true (Ev.pos rfl (Ev.val (within_f a0 10 (by decide) (by decide)) ?_))
  rw [hj', show wrap64 (35 + (j.val : Int)) = ((35 + j.val : Nat) : Int) from wrap_id (by omega) (by omega)]
  exact many_l0 (35 + j.val) (by omega) (by omega) (35 + j.val) 0 (by omega)
end Go.Proofs.YtghencpiejbecaaDoor.Pure
