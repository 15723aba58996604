import Derived.Test.YtbdojilhmgfdcaaGreatDoorZVy
import Derived.Test.YtbdojilhmgfdcaaGreatDoorZQ17
namespace Go.Proofs.YtbdojilhmgfdcaaGreatDoor.Q
open Go.RowKit Go.Proofs.YtbdojilhmgfdcaaGreatDoorW.PrintWords Go.Proofs.YtbdojilhmgfdcaaGreatDoorW.PrintLast Go.Proofs.YtbdojilhmgfdcaaGreatDoorW.PrintMore
theorem rd_words (l : List (List UInt8)) (i : Nat) (hi : i < l.length) : rdOf ByteArray.empty (l.map bs) (i : Int) = bs l[i] := by
  simp [rdOf, List.getD, List.getElem?_eq_getElem hi]
theorem rorder_f (x y : List UInt8) (hx : x.length ≤ 1000000) (hy : y.length ≤ 1000000) : transhumanceref2_order.f (bs x) (bs y) = some (wordsI x y) := by
  unfold transhumanceref2_order.f
  rw [size_bs, size_bs, if_pos ⟨hx, hy⟩, data_bs, data_bs]
theorem rcmp_l1 (l m : List (List UInt8)) (hl : l.length ≤ 1000000) (hm : m.length ≤ 1000000) (hz : ∀ x ∈ l, x.length ≤ 1000000) (hy : ∀ x ∈ m, x.length ≤ 1000000) : ∀ (d i : Nat), l.length + 1 = i + d → 1 ≤ d → i ≤ l.length → i ≤ m.length →
    Ev (fun k => transhumanceref2_Cmp.l1 k (l.map bs) (m.map bs) (i : Int)) (rowsI (l.drop i) (m.drop i))
  | 0, i, hd, h1, _, _ => by omega
  | d + 1, i, hd, h1, hil, him => by
    have hw : wrap64 ((i : Int) + 1) = ((i + 1 : Nat) : Int) := wrap_id (by omega) (by omega)
    have fin : (i = l.length ∨ i = m.length) → Ev (fun k => transhumanceref2_Cmp.j3 k (l.map bs) (m.map bs) i false) (rowsI (l.drop i) (m.drop i)) := by
      intro h
      refine Ev.step (fun _ => transhumanceref2_Cmp.j3.eq_2 ..) (Ev.neg (by simp) (Ev.val (rsign_f _ _) (Ev.ret ?_)))
      rw [List.length_map, List.length_map]
      congr 1
      rcases Nat.lt_trichotomy l.length m.length with h2 | h2 | h2
      · have : i = l.length := by omega
        rw [cmpI_lt (by omega), List.drop_eq_nil_of_le (by omega), List.drop_eq_getElem_cons (show i < m.length by omega)]
        rfl
      · rw [h2, cmpI_eq0, List.drop_eq_nil_of_le (by omega), List.drop_eq_nil_of_le (by omega)]
        rfl
      · have : i = m.length := by omega
        rw [cmpI_gt (by omega), List.drop_eq_nil_of_le (show m.length ≤ i by omega), List.drop_eq_getElem_cons (show i < l.length by omega)]
        rfl
    refine Ev.step (fun _ => transhumanceref2_Cmp.l1.eq_2 ..) ?_
    by_cases h2 : i < l.length
    · refine Ev.pos (by rw [List.length_map]; omega) ?_
      by_cases h3 : i < m.length
      · rw [decide_eq_true (show (i : Int) < ((m.map bs).length : Int) by rw [List.length_map]; omega)]
        refine Ev.step (fun _ => transhumanceref2_Cmp.j3.eq_2 ..) (Ev.pos rfl (Ev.pos (by omega) (Ev.pos (by rw [List.length_map]; omega) (Ev.pos (by rw [List.length_map]; omega) ?_))))
        rw [rd_words l i h2, rd_words m i h3, hw, rowsI_drop l m i h2 h3]
        refine Ev.val (rorder_f _ _ (hz _ (List.getElem_mem h2)) (hy _ (List.getElem_mem h3))) ?_
        by_cases h0 : wordsI l[i] m[i] = 0
        · rw [if_pos h0]
          exact Ev.pos h0 (rcmp_l1 l m hl hm hz hy d (i + 1) (by omega) (by omega) (by omega) (by omega))
        · rw [if_neg h0]
          exact Ev.neg h0 (Ev.now _)
      · rw [decide_eq_false (show ¬ (i : Int) < ((m.map bs).length : Int) by rw [List.length_map]; omega)]
        exact fin (.inr (by omega))
    · exact Ev.neg (by rw [List.length_map]; omega) (fin (.inl (by omega)))
theorem rcmp_ahead (x y : Vr) (hx : x.p.length ≤ 900000) (hy : y.p.length ≤ 900000) (b : Bool) (hb : b = (decide (x.p = []) || decide (y.p = []))) : Ev (fun k => transhumanceref2_Cmp.j1 k b x.a x.b x.c (bs x.p) y.a y.b y.c (bs y.p)) (aheadI x.p y.p) := by
  subst hb
  by_cases h1 : x.p = []
  · rw [decide_eq_true h1, Bool.true_or]
    refine Ev.step (fun _ => transhumanceref2_Cmp.j1.eq_2 ..) (Ev.pos rfl (Ev.val (rsign_f _ _) (Ev.ret ?_)))
    rw [size_bs, size_bs, h1]
    by_cases h2 : y.p = []
    · rw [h2, cmpI_eq0, Int.zero_mul, wrap_id (by decide) (by decide)]
      rfl
    · have hl := List.length_pos_iff.2 h2
      rw [nil_ahead y.p h2, cmpI_gt (by simp only [List.length_nil]; omega)]
      congr 1
      have : mn 1 (wrap64 ((([] : List UInt8).length : Int) + (y.p.length : Int))) = 1 := by
        rw [wrap_id (by simp only [List.length_nil]; omega) (by simp only [List.length_nil]; omega)]
        unfold mn
        simp only [List.length_nil]
        omega
      rw [this]
      exact wrap_id (by decide) (by decide)
  · have hl := List.length_pos_iff.2 h1
    by_cases h2 : y.p = []
    · rw [decide_eq_true h2, Bool.or_true]
      refine Ev.step (fun _ => transhumanceref2_Cmp.j1.eq_2 ..) (Ev.pos rfl (Ev.val (rsign_f _ _) (Ev.ret ?_)))
      rw [size_bs, size_bs, h2, ahead_nil x.p h1, cmpI_lt (by simp only [List.length_nil]; omega)]
      congr 1
      have : mn 1 (wrap64 ((x.p.length : Int) + (([] : List UInt8).length : Int))) = 1 := by
        rw [wrap_id (by simp only [List.length_nil]; omega) (by simp only [List.length_nil]; omega)]
        unfold mn
        simp only [List.length_nil]
        omega
      rw [this]
      exact wrap_id (by decide) (by decide)
    · rw [decide_eq_false h1, decide_eq_false h2]
      have wx := rwords_ev (bs x.p) (by rw [size_bs]; omega)
      have wy := rwords_ev (bs y.p) (by rw [size_bs]; omega)
      rw [data_bs] at wx wy
      have lx := parts_len 46 x.p
      have ly := parts_len 46 y.p
      have e := rcmp_l1 (parts 46 x.p) (parts 46 y.p) (by omega) (by omega) (fun w hw => by have := parts_each 46 x.p w hw; omega) (fun w hw => by have := parts_each 46 y.p w hw; omega) ((parts 46 x.p).length + 1) 0 (by omega) (by omega) (by omega) (by omega)
      rw [List.drop_zero, List.drop_zero] at e
      rw [ahead_ne _ _ h1 h2]
      exact Ev.step (fun _ => transhumanceref2_Cmp.j1.eq_2 ..) (Ev.neg (by simp) (Ev.bind wx (Ev.bind wy e)))
theorem rcmp_ev (x y : Vr) (hx : x.p.length ≤ 900000) (hy : y.p.length ≤ 900000) : Ev (fun k => transhumanceref2_Cmp.f k x.a x.b x.c (bs x.p) y.a y.b y.c (bs y.p)) (cmpV x y) := by
  unfold transhumanceref2_Cmp.f
  refine Ev.val (rsign_f _ _) (Ev.val (rsign_f _ _) (Ev.val (rsign_f _ _) ?_))
  have w0 : wrap64 ((0 : Int) + 1) = 1 := wrap_id (by decide) (by decide)
  have w1 : wrap64 ((1 : Int) + 1) = 2 := wrap_id (by decide) (by decide)
  have w2 : wrap64 ((2 : Int) + 1) = 3 := wrap_id (by decide) (by decide)
  unfold cmpV
  refine Ev.step (fun _ => transhumanceref2_Cmp.l0.eq_2 ..) (Ev.pos (by decide) (Ev.pos (by decide) (Ev.pos (by show (0 : Int) < ((3 : Nat) : Int); decide) ?_)))
  rw [w0, show rd [cmpI x.a y.a, cmpI x.b y.b, cmpI x.c y.c] 0 = cmpI x.a y.a from rfl]
  by_cases h1 : cmpI x.a y.a = 0
  · rw [if_neg (show ¬ cmpI x.a y.a ≠ 0 by omega)]
    refine Ev.pos h1 (Ev.step (fun _ => transhumanceref2_Cmp.l0.eq_2 ..) (Ev.pos (by decide) (Ev.pos (by decide) (Ev.pos (by show (1 : Int) < ((3 : Nat) : Int); decide) ?_))))
    rw [w1, show rd [cmpI x.a y.a, cmpI x.b y.b, cmpI x.c y.c] 1 = cmpI x.b y.b from rfl]
    by_cases h2 : cmpI x.b y.b = 0
    · rw [if_neg (show ¬ cmpI x.b y.b ≠ 0 by omega)]
      refine Ev.pos h2 (Ev.step (fun _ => transhumanceref2_Cmp.l0.eq_2 ..) (Ev.pos (by decide) (Ev.pos (by decide) (Ev.pos (by show (2 : Int) < ((3 : Nat) : Int); decide) ?_))))
      rw [w2, show rd [cmpI x.a y.a, cmpI x.b y.b, cmpI x.c y.c] 2 = cmpI x.c y.c from rfl]
      by_cases h3 : cmpI x.c y.c = 0
      · rw [if_neg (show ¬ cmpI x.c y.c ≠ 0 by omega)]
        refine Ev.pos h3 (Ev.step (fun _ => transhumanceref2_Cmp.l0.eq_2 ..) (Ev.neg (by decide) ?_))
        by_cases hp : x.p = []
        · refine Ev.pos (by rw [toList_bs]; exact hp) ?_
          exact rcmp_ahead x y hx hy true (by rw [decide_eq_true hp]; rfl)
        · refine Ev.neg (by rw [toList_bs]; exact hp) ?_
          refine rcmp_ahead x y hx hy _ ?_
          rw [decide_eq_false hp, Bool.false_or, toList_bs]
          by_cases hq : y.p = []
          · rw [hq]; rfl
          · rw [decide_eq_false hq]; simpa using hq
      · rw [if_pos h3]
        exact Ev.neg h3 (Ev.now _)
    · rw [if_pos h2]
      exact Ev.neg h2 (Ev.now _)
  · rw [if_pos h1]
    exact Ev.neg h1 (Ev.now _)
end Go.Proofs.YtbdojilhmgfdcaaGreatDoor.Q
