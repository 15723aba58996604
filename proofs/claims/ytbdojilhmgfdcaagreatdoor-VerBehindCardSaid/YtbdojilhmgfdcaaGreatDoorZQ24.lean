import Derived.Test.YtbdojilhmgfdcaaGreatDoorZQ0
import Derived.Test.YtbdojilhmgfdcaaGreatDoorZQ4
import Derived.Test.YtbdojilhmgfdcaaGreatDoorZQ5
import Derived.Test.YtbdojilhmgfdcaaGreatDoorZQ12
namespace Go.Proofs.YtbdojilhmgfdcaaGreatDoor.Q
open Go.RowKit Go.Proofs.YtbdojilhmgfdcaaGreatDoorW.PrintWords Go.Proofs.YtbdojilhmgfdcaaGreatDoorW.PrintLast Go.Proofs.YtbdojilhmgfdcaaGreatDoorW.PrintMore
attribute [local go_sem] max2_int min2_int max_two min_two max_three min_three max_four min_four
set_option linter.unusedVariables false
set_option linter.unusedSimpArgs false
mutual
def transhumanceref2_Behind.j0 : Nat → ByteArray → Bool → Option (Int × ByteArray × Bool)
  | 0, _, _ => none
  | k + 1, x6, x37 => if x37 = true then (some (0, (⟨#[]⟩ : ByteArray), false)) else (transhumanceref2_Behind.l0 k x6 0 0)
def transhumanceref2_Behind.l0 : Nat → ByteArray → Int → Int → Option (Int × ByteArray × Bool)
  | 0, _, _, _ => none
  | k + 1, x6, x7, x8 => if x8 < 14 then (if 0 ≤ x8 then (if x8 < (x6.size : Int) then (transhumanceref2_Behind.l0 k x6 (wrap64 ((wrap64 (10 * x7)) + (((bt x6 x8) - 48) % 256))) (wrap64 (x8 + 1))) else (none)) else (none)) else (if 15 ≤ (x6.size : Int) then (some (x7, x6.extract 15 x6.size, true)) else (none))
end
def transhumanceref2_Behind.f (k : Nat) (a0_0 : Int) (a0_1 : Int) (a0_2 : Int) (a0_3 : ByteArray) : Option (Int × ByteArray × Bool) := (transhumanceref2_words.f k a0_3).bind fun t294 => (if 0 ≤ (wrap64 ((t294.length : Int) - 1)) then (if (wrap64 ((t294.length : Int) - 1)) < (t294.length : Int) then (if ((rdOf ByteArray.empty t294 (wrap64 ((t294.length : Int) - 1))).size : Int) = 27 then (if 14 < ((rdOf ByteArray.empty t294 (wrap64 ((t294.length : Int) - 1))).size : Int) then (if (bt (rdOf ByteArray.empty t294 (wrap64 ((t294.length : Int) - 1))) 14) = 45 then (if 0 ≤ 14 then (if 14 ≤ ((rdOf ByteArray.empty t294 (wrap64 ((t294.length : Int) - 1))).size : Int) then ((transhumanceref2_digits.f k ((rdOf ByteArray.empty t294 (wrap64 ((t294.length : Int) - 1))).extract 0 14)).bind fun t298 => (if t298 = true then (if 15 ≤ ((rdOf ByteArray.empty t294 (wrap64 ((t294.length : Int) - 1))).size : Int) then ((transhumanceref2_Id.f k ((rdOf ByteArray.empty t294 (wrap64 ((t294.length : Int) - 1))).extract 15 (rdOf ByteArray.empty t294 (wrap64 ((t294.length : Int) - 1))).size)).bind fun t299 => (transhumanceref2_Behind.j0 k (rdOf ByteArray.empty t294 (wrap64 ((t294.length : Int) - 1))) (!t299))) else (none)) else (transhumanceref2_Behind.j0 k (rdOf ByteArray.empty t294 (wrap64 ((t294.length : Int) - 1))) true))) else (none)) else (none)) else (transhumanceref2_Behind.j0 k (rdOf ByteArray.empty t294 (wrap64 ((t294.length : Int) - 1))) true)) else (none)) else (transhumanceref2_Behind.j0 k (rdOf ByteArray.empty t294 (wrap64 ((t294.length : Int) - 1))) true)) else (none)) else (none))
set_option maxHeartbeats 8000000 in
set_option maxRecDepth 100000 in
theorem transhumanceref2_Behind.calls (k : Nat) (a0_0 : Int) (a0_1 : Int) (a0_2 : Int) (a0_3 : ByteArray) (r1 : Int) (r2 : ByteArray) (r3 : Bool) (w : World) (h : transhumanceref2_Behind.f k a0_0 a0_1 a0_2 a0_3 = some (r1, r2, r3)) :
    Calls Tryz.prog 26 #[.agg #[.int .i64 a0_0, .int .i64 a0_1, .int .i64 a0_2, .string a0_3]] w fun e w' => e = .returned (.tuple #[.int .i64 r1, .string r2, .bool r3]) ∧ Below w.heap.size w w' := by
  have hu25 := Tryz.underlying25
  have HB := Aside0.mk (Below.refl w.heap.size w)
  have H : ((transhumanceref2_words.f k a0_3).bind fun t294 => (if 0 ≤ (wrap64 ((t294.length : Int) - 1)) then (if (wrap64 ((t294.length : Int) - 1)) < (t294.length : Int) then (if ((rdOf ByteArray.empty t294 (wrap64 ((t294.length : Int) - 1))).size : Int) = 27 then (if 14 < ((rdOf ByteArray.empty t294 (wrap64 ((t294.length : Int) - 1))).size : Int) then (if (bt (rdOf ByteArray.empty t294 (wrap64 ((t294.length : Int) - 1))) 14) = 45 then (if 0 ≤ 14 then (if 14 ≤ ((rdOf ByteArray.empty t294 (wrap64 ((t294.length : Int) - 1))).size : Int) then ((transhumanceref2_digits.f k ((rdOf ByteArray.empty t294 (wrap64 ((t294.length : Int) - 1))).extract 0 14)).bind fun t298 => (if t298 = true then (if 15 ≤ ((rdOf ByteArray.empty t294 (wrap64 ((t294.length : Int) - 1))).size : Int) then ((transhumanceref2_Id.f k ((rdOf ByteArray.empty t294 (wrap64 ((t294.length : Int) - 1))).extract 15 (rdOf ByteArray.empty t294 (wrap64 ((t294.length : Int) - 1))).size)).bind fun t299 => (transhumanceref2_Behind.j0 k (rdOf ByteArray.empty t294 (wrap64 ((t294.length : Int) - 1))) (!t299))) else (none)) else (transhumanceref2_Behind.j0 k (rdOf ByteArray.empty t294 (wrap64 ((t294.length : Int) - 1))) true))) else (none)) else (none)) else (transhumanceref2_Behind.j0 k (rdOf ByteArray.empty t294 (wrap64 ((t294.length : Int) - 1))) true)) else (none)) else (transhumanceref2_Behind.j0 k (rdOf ByteArray.empty t294 (wrap64 ((t294.length : Int) - 1))) true)) else (none)) else (none))) = some (r1, r2, r3) := h
  clear h
  replace H := Option.bind_eq_some_iff.mp H
  obtain ⟨t294, A20, H⟩ := H
  replace H : (if 0 ≤ (wrap64 ((t294.length : Int) - 1)) then (if (wrap64 ((t294.length : Int) - 1)) < (t294.length : Int) then (if ((rdOf ByteArray.empty t294 (wrap64 ((t294.length : Int) - 1))).size : Int) = 27 then (if 14 < ((rdOf ByteArray.empty t294 (wrap64 ((t294.length : Int) - 1))).size : Int) then (if (bt (rdOf ByteArray.empty t294 (wrap64 ((t294.length : Int) - 1))) 14) = 45 then (if 0 ≤ 14 then (if 14 ≤ ((rdOf ByteArray.empty t294 (wrap64 ((t294.length : Int) - 1))).size : Int) then ((transhumanceref2_digits.f k ((rdOf ByteArray.empty t294 (wrap64 ((t294.length : Int) - 1))).extract 0 14)).bind fun t298 => (if t298 = true then (if 15 ≤ ((rdOf ByteArray.empty t294 (wrap64 ((t294.length : Int) - 1))).size : Int) then ((transhumanceref2_Id.f k ((rdOf ByteArray.empty t294 (wrap64 ((t294.length : Int) - 1))).extract 15 (rdOf ByteArray.empty t294 (wrap64 ((t294.length : Int) - 1))).size)).bind fun t299 => (transhumanceref2_Behind.j0 k (rdOf ByteArray.empty t294 (wrap64 ((t294.length : Int) - 1))) (!t299))) else (none)) else (transhumanceref2_Behind.j0 k (rdOf ByteArray.empty t294 (wrap64 ((t294.length : Int) - 1))) true))) else (none)) else (none)) else (transhumanceref2_Behind.j0 k (rdOf ByteArray.empty t294 (wrap64 ((t294.length : Int) - 1))) true)) else (none)) else (transhumanceref2_Behind.j0 k (rdOf ByteArray.empty t294 (wrap64 ((t294.length : Int) - 1))) true)) else (none)) else (none)) = some (r1, r2, r3) := H
  have A2 := Aside0.mk A20
  clear A20
  obtain ⟨ji3, hji3⟩ : ∃ j_ : Int, (wrap64 ((t294.length : Int) - 1)) = j_ := ⟨_, rfl⟩
  replace H : (if 0 ≤ (ji3) then (if (ji3) < (t294.length : Int) then (if ((rdOf ByteArray.empty t294 (ji3)).size : Int) = 27 then (if 14 < ((rdOf ByteArray.empty t294 (ji3)).size : Int) then (if (bt (rdOf ByteArray.empty t294 (ji3)) 14) = 45 then (if 0 ≤ 14 then (if 14 ≤ ((rdOf ByteArray.empty t294 (ji3)).size : Int) then ((transhumanceref2_digits.f k ((rdOf ByteArray.empty t294 (ji3)).extract 0 14)).bind fun t298 => (if t298 = true then (if 15 ≤ ((rdOf ByteArray.empty t294 (ji3)).size : Int) then ((transhumanceref2_Id.f k ((rdOf ByteArray.empty t294 (ji3)).extract 15 (rdOf ByteArray.empty t294 (ji3)).size)).bind fun t299 => (transhumanceref2_Behind.j0 k (rdOf ByteArray.empty t294 (ji3)) (!t299))) else (none)) else (transhumanceref2_Behind.j0 k (rdOf ByteArray.empty t294 (ji3)) true))) else (none)) else (none)) else (transhumanceref2_Behind.j0 k (rdOf ByteArray.empty t294 (ji3)) true)) else (none)) else (transhumanceref2_Behind.j0 k (rdOf ByteArray.empty t294 (ji3)) true)) else (none)) else (none)) = some (r1, r2, r3) := by first | (rw [hji3] at H; exact H) | (simp only [hji3] at H ⊢; exact H)
  (try rw [hji3] at A2)
  have hji3w : (IntKind.i64.wrap ((t294.length : Int) - 1)) = ji3 := (i64_w _).trans hji3
  by_cases c4 : 0 ≤ (ji3)
  · rw [if_pos c4] at H
    have c4b0 : decide (0 ≤ (ji3)) = true := decide_eq_true c4
    clear c4
    by_cases c5 : (ji3) < (t294.length : Int)
    · rw [if_pos c5] at H
      have c5b0 : decide ((ji3) < (t294.length : Int)) = true := decide_eq_true c5
      clear c5
      have HC6 := Aside0.mk H
      clear H
      go_enter Tryz.func26, Tryz.ntmps26
      go_upto_region 3 with (first | ((with_reducible refine gate_dst (N := 1) rfl ?_); refine box_event ?hg (N := 1) ?hd (cs := #[.int .i64 a0_0, .int .i64 a0_1, .int .i64 a0_2, .string a0_3]) (t := 25) ?hr ?_; (case hd => rfl); (case hg => rfl); (case hr => first | (go_simp; done) | (go_simp; rfl)); intro gb293 hg w7 hbox hb; have n0_ := Aside0.mk (below_step (by repeat (first | (with_reducible first | exact HB.out | apply below_alloc | apply pw_below_drewN | apply below_drew1) | exact HB.out)) hb); have n1_ := Aside0.mk (hbox); have n2_ := Aside0.mk ((by rw [hg]; exact (below_size (by repeat (first | (with_reducible first | exact HB.out | apply below_alloc | apply pw_below_drewN | apply below_drew1) | exact HB.out))) : w.heap.size ≤ gb293)); have n3_ := Aside0.mk ((by rw [hg]; exact (below_size (by repeat (first | (with_reducible first | exact HB.out | apply below_alloc | apply pw_below_drewN | apply below_drew1) | exact HB.out))) : w.heap.size ≤ gb293)); clear HB; have HB := n0_; have BK293 := n1_; have GW293 := n2_; have GE293 := n3_; clear n0_ n1_ n2_ n3_; clear hb hbox hg; have hcz8_0 : w7.cell? ⟨gb293, 0, none⟩ = some (.int .i64 a0_0) := (blk_cell BK293.out 0).trans rfl; have hcz8_1 : w7.cell? ⟨gb293, 1, none⟩ = some (.int .i64 a0_1) := (blk_cell BK293.out 1).trans rfl; have hcz8_2 : w7.cell? ⟨gb293, 2, none⟩ = some (.int .i64 a0_2) := (blk_cell BK293.out 2).trans rfl; have hcz8_3 : w7.cell? ⟨gb293, 3, none⟩ = some (.string a0_3) := (blk_cell BK293.out 3).trans rfl; have hfz8_0 := blk_frozen BK293.out 0; have hfz8_1 := blk_frozen BK293.out 1; have hfz8_2 := blk_frozen BK293.out 2; have hfz8_3 := blk_frozen BK293.out 3) | (go_at_call 40; (with_reducible refine (transhumanceref2_words.calls k a0_3 t294 _ A2.out).mono ?_); rintro e w9 ⟨v295, rfl, ho0, hb⟩; have n0_ := Aside0.mk (Kd.R_lower ho0 (below_size (by repeat (first | (with_reducible first | exact HB.out | apply below_alloc | apply pw_below_drewN | apply below_drew1 | refine below_set ?_ GE293.out) | exact HB.out)))); have n1_ := Aside0.mk (blk_below (g := gb293) (o := .cells #[.int .i64 a0_0, .int .i64 a0_1, .int .i64 a0_2, .string a0_3] 25 (0, 0)) (by (with_reducible repeat (first | refine blk_drewN ?_ _ | refine blk_drew ?_ | refine blk_alloc ?_ _)); exact BK293.out) hb); have n2_ := Aside0.mk (below_step (by repeat (first | (with_reducible first | exact HB.out | apply below_alloc | apply pw_below_drewN | apply below_drew1 | refine below_set ?_ GE293.out) | exact HB.out)) hb); clear BK293; clear HB; have HO296 := n0_; have BK293 := n1_; have HB := n2_; clear n0_ n1_ n2_; (try clear hb); (try clear hb2); (try clear hk); (try clear hi); (try clear ho0); obtain ⟨Ao10, co10, eo10⟩ := Kd.R_slice HO296.out; subst eo10; have p297 : 0 ≤ ((ji3) : Int) := of_decide_eq_true (by first | (with_reducible assumption) | assumption); have q297 : (ji3) < (t294.length : Int) := of_decide_eq_true (by first | (with_reducible assumption) | assumption); obtain ⟨ad297, e297, hx297_0⟩ := Kd.at_string (Kd.R_reads' HO296.out).2.2 (ji3) p297 q297; cases e297; replace p297 := eq_true p297; replace q297 := eq_true q297))
      repeat (go_quiet (first | ((with_reducible refine gate_dst (N := 1) rfl ?_); refine box_event ?hg (N := 1) ?hd (cs := #[.int .i64 a0_0, .int .i64 a0_1, .int .i64 a0_2, .string a0_3]) (t := 25) ?hr ?_; (case hd => rfl); (case hg => rfl); (case hr => first | (go_simp; done) | (go_simp; rfl)); intro gb293 hg w7 hbox hb; have n0_ := Aside0.mk (below_step (by repeat (first | (with_reducible first | exact HB.out | apply below_alloc | apply pw_below_drewN | apply below_drew1) | exact HB.out)) hb); have n1_ := Aside0.mk (hbox); have n2_ := Aside0.mk ((by rw [hg]; exact (below_size (by repeat (first | (with_reducible first | exact HB.out | apply below_alloc | apply pw_below_drewN | apply below_drew1) | exact HB.out))) : w.heap.size ≤ gb293)); have n3_ := Aside0.mk ((by rw [hg]; exact (below_size (by repeat (first | (with_reducible first | exact HB.out | apply below_alloc | apply pw_below_drewN | apply below_drew1) | exact HB.out))) : w.heap.size ≤ gb293)); clear HB; have HB := n0_; have BK293 := n1_; have GW293 := n2_; have GE293 := n3_; clear n0_ n1_ n2_ n3_; clear hb hbox hg; have hcz8_0 : w7.cell? ⟨gb293, 0, none⟩ = some (.int .i64 a0_0) := (blk_cell BK293.out 0).trans rfl; have hcz8_1 : w7.cell? ⟨gb293, 1, none⟩ = some (.int .i64 a0_1) := (blk_cell BK293.out 1).trans rfl; have hcz8_2 : w7.cell? ⟨gb293, 2, none⟩ = some (.int .i64 a0_2) := (blk_cell BK293.out 2).trans rfl; have hcz8_3 : w7.cell? ⟨gb293, 3, none⟩ = some (.string a0_3) := (blk_cell BK293.out 3).trans rfl; have hfz8_0 := blk_frozen BK293.out 0; have hfz8_1 := blk_frozen BK293.out 1; have hfz8_2 := blk_frozen BK293.out 2; have hfz8_3 := blk_frozen BK293.out 3) | (go_at_call 40; (with_reducible refine (transhumanceref2_words.calls k a0_3 t294 _ A2.out).mono ?_); rintro e w9 ⟨v295, rfl, ho0, hb⟩; have n0_ := Aside0.mk (Kd.R_lower ho0 (below_size (by repeat (first | (with_reducible first | exact HB.out | apply below_alloc | apply pw_below_drewN | apply below_drew1 | refine below_set ?_ GE293.out) | exact HB.out)))); have n1_ := Aside0.mk (blk_below (g := gb293) (o := .cells #[.int .i64 a0_0, .int .i64 a0_1, .int .i64 a0_2, .string a0_3] 25 (0, 0)) (by (with_reducible repeat (first | refine blk_drewN ?_ _ | refine blk_drew ?_ | refine blk_alloc ?_ _)); exact BK293.out) hb); have n2_ := Aside0.mk (below_step (by repeat (first | (with_reducible first | exact HB.out | apply below_alloc | apply pw_below_drewN | apply below_drew1 | refine below_set ?_ GE293.out) | exact HB.out)) hb); clear BK293; clear HB; have HO296 := n0_; have BK293 := n1_; have HB := n2_; clear n0_ n1_ n2_; (try clear hb); (try clear hb2); (try clear hk); (try clear hi); (try clear ho0); obtain ⟨Ao10, co10, eo10⟩ := Kd.R_slice HO296.out; subst eo10; have p297 : 0 ≤ ((ji3) : Int) := of_decide_eq_true (by first | (with_reducible assumption) | assumption); have q297 : (ji3) < (t294.length : Int) := of_decide_eq_true (by first | (with_reducible assumption) | assumption); obtain ⟨ad297, e297, hx297_0⟩ := Kd.at_string (Kd.R_reads' HO296.out).2.2 (ji3) p297 q297; cases e297; replace p297 := eq_true p297; replace q297 := eq_true q297)); go_upto_region 3 with (first | ((with_reducible refine gate_dst (N := 1) rfl ?_); refine box_event ?hg (N := 1) ?hd (cs := #[.int .i64 a0_0, .int .i64 a0_1, .int .i64 a0_2, .string a0_3]) (t := 25) ?hr ?_; (case hd => rfl); (case hg => rfl); (case hr => first | (go_simp; done) | (go_simp; rfl)); intro gb293 hg w7 hbox hb; have n0_ := Aside0.mk (below_step (by repeat (first | (with_reducible first | exact HB.out | apply below_alloc | apply pw_below_drewN | apply below_drew1) | exact HB.out)) hb); have n1_ := Aside0.mk (hbox); have n2_ := Aside0.mk ((by rw [hg]; exact (below_size (by repeat (first | (with_reducible first | exact HB.out | apply below_alloc | apply pw_below_drewN | apply below_drew1) | exact HB.out))) : w.heap.size ≤ gb293)); have n3_ := Aside0.mk ((by rw [hg]; exact (below_size (by repeat (first | (with_reducible first | exact HB.out | apply below_alloc | apply pw_below_drewN | apply below_drew1) | exact HB.out))) : w.heap.size ≤ gb293)); clear HB; have HB := n0_; have BK293 := n1_; have GW293 := n2_; have GE293 := n3_; clear n0_ n1_ n2_ n3_; clear hb hbox hg; have hcz8_0 : w7.cell? ⟨gb293, 0, none⟩ = some (.int .i64 a0_0) := (blk_cell BK293.out 0).trans rfl; have hcz8_1 : w7.cell? ⟨gb293, 1, none⟩ = some (.int .i64 a0_1) := (blk_cell BK293.out 1).trans rfl; have hcz8_2 : w7.cell? ⟨gb293, 2, none⟩ = some (.int .i64 a0_2) := (blk_cell BK293.out 2).trans rfl; have hcz8_3 : w7.cell? ⟨gb293, 3, none⟩ = some (.string a0_3) := (blk_cell BK293.out 3).trans rfl; have hfz8_0 := blk_frozen BK293.out 0; have hfz8_1 := blk_frozen BK293.out 1; have hfz8_2 := blk_frozen BK293.out 2; have hfz8_3 := blk_frozen BK293.out 3) | (go_at_call 40; (with_reducible refine (transhumanceref2_words.calls k a0_3 t294 _ A2.out).mono ?_); rintro e w9 ⟨v295, rfl, ho0, hb⟩; have n0_ := Aside0.mk (Kd.R_lower ho0 (below_size (by repeat (first | (with_reducible first | exact HB.out | apply below_alloc | apply pw_below_drewN | apply below_drew1 | refine below_set ?_ GE293.out) | exact HB.out)))); have n1_ := Aside0.mk (blk_below (g := gb293) (o := .cells #[.int .i64 a0_0, .int .i64 a0_1, .int .i64 a0_2, .string a0_3] 25 (0, 0)) (by (with_reducible repeat (first | refine blk_drewN ?_ _ | refine blk_drew ?_ | refine blk_alloc ?_ _)); exact BK293.out) hb); have n2_ := Aside0.mk (below_step (by repeat (first | (with_reducible first | exact HB.out | apply below_alloc | apply pw_below_drewN | apply below_drew1 | refine below_set ?_ GE293.out) | exact HB.out)) hb); clear BK293; clear HB; have HO296 := n0_; have BK293 := n1_; have HB := n2_; clear n0_ n1_ n2_; (try clear hb); (try clear hb2); (try clear hk); (try clear hi); (try clear ho0); obtain ⟨Ao10, co10, eo10⟩ := Kd.R_slice HO296.out; subst eo10; have p297 : 0 ≤ ((ji3) : Int) := of_decide_eq_true (by first | (with_reducible assumption) | assumption); have q297 : (ji3) < (t294.length : Int) := of_decide_eq_true (by first | (with_reducible assumption) | assumption); obtain ⟨ad297, e297, hx297_0⟩ := Kd.at_string (Kd.R_reads' HO296.out).2.2 (ji3) p297 q297; cases e297; replace p297 := eq_true p297; replace q297 := eq_true q297)))
      (try simp only [Act.put, List.setIfInBounds_toArray, List.set_cons_zero, List.set_cons_succ])
      go_cut [37] (fun v37 wc => ∃ (kq : Nat) (x37_5 : Bool), v37 = .bool x37_5 ∧ Aside0 (transhumanceref2_Behind.j0 kq (rdOf ByteArray.empty t294 (ji3)) x37_5 = some (r1, r2, r3)) ∧ Aside0 (kq ≤ k) ∧ Aside0 (wc.heap[gb293]? = some (.cells #[.int .i64 a0_0, .int .i64 a0_1, .int .i64 a0_2, .string a0_3] 25 (0, 0))) ∧ Aside0 (Below w.heap.size w wc))
      case first =>
        have H := HC6.out
        clear HC6
        by_cases c11 : ((rdOf ByteArray.empty t294 (ji3)).size : Int) = 27
        · rw [if_pos c11] at H
          have c11b0 : (((rdOf ByteArray.empty t294 (ji3)).size : Int) == 27) = true := beq_iff_eq.mpr c11
          have c11b1 : (((rdOf ByteArray.empty t294 (ji3)).size : Int) != 27) = false := bne_eq_false_iff_eq.mpr c11
          clear c11
          (first | rw [c11b0] | (simp only [i64_w, i32_w]; rw [c11b0]) | skip)
          by_cases c12 : 14 < ((rdOf ByteArray.empty t294 (ji3)).size : Int)
          · rw [if_pos c12] at H
            have c12b0 : decide (14 < ((rdOf ByteArray.empty t294 (ji3)).size : Int)) = true := decide_eq_true c12
            have c12b1 : decide (14 < (rdOf ByteArray.empty t294 (ji3)).size) = true := decide_eq_true (by omega)
            clear c12
            by_cases c14 : (bt (rdOf ByteArray.empty t294 (ji3)) 14) = 45
            · rw [if_pos c14] at H
              have c14b0 : ((bt (rdOf ByteArray.empty t294 (ji3)) 14) == 45) = true := beq_iff_eq.mpr c14
              have c14b1 : ((bt (rdOf ByteArray.empty t294 (ji3)) 14) != 45) = false := bne_eq_false_iff_eq.mpr c14
              clear c14
              by_cases c15 : 0 ≤ 14
              · rw [if_pos c15] at H
                have c15b0 := eq_true c15
                have c15b1 : decide (0 ≤ 14) = true := decide_eq_true c15
                clear c15
                by_cases c16 : 14 ≤ ((rdOf ByteArray.empty t294 (ji3)).size : Int)
                · rw [if_pos c16] at H
                  have c16b0 := eq_true c16
                  have c16b1 : decide (14 ≤ ((rdOf ByteArray.empty t294 (ji3)).size : Int)) = true := decide_eq_true c16
                  clear c16
                  replace H := Option.bind_eq_some_iff.mp H
                  obtain ⟨t298, A170, H⟩ := H
                  replace H : (if t298 = true then (if 15 ≤ ((rdOf ByteArray.empty t294 (ji3)).size : Int) then ((transhumanceref2_Id.f k ((rdOf ByteArray.empty t294 (ji3)).extract 15 (rdOf ByteArray.empty t294 (ji3)).size)).bind fun t299 => (transhumanceref2_Behind.j0 k (rdOf ByteArray.empty t294 (ji3)) (!t299))) else (none)) else (transhumanceref2_Behind.j0 k (rdOf ByteArray.empty t294 (ji3)) true)) = some (r1, r2, r3) := H
                  have A17 := Aside0.mk A170
                  clear A170
                  by_cases c18 : t298 = true
                  · subst c18
                    have H1 : (if 15 ≤ ((rdOf ByteArray.empty t294 (ji3)).size : Int) then ((transhumanceref2_Id.f k ((rdOf ByteArray.empty t294 (ji3)).extract 15 (rdOf ByteArray.empty t294 (ji3)).size)).bind fun t299 => (transhumanceref2_Behind.j0 k (rdOf ByteArray.empty t294 (ji3)) (!t299))) else (none)) = some (r1, r2, r3) := by rw [if_pos rfl] at H; exact H
                    clear H
                    have H := H1
                    clear H1
                    by_cases c19 : 15 ≤ ((rdOf ByteArray.empty t294 (ji3)).size : Int)
                    · rw [if_pos c19] at H
                      have c19b0 := eq_true c19
                      have c19b1 : decide (15 ≤ ((rdOf ByteArray.empty t294 (ji3)).size : Int)) = true := decide_eq_true c19
                      clear c19
                      replace H := Option.bind_eq_some_iff.mp H
                      obtain ⟨t299, A200, H⟩ := H
                      replace H : (transhumanceref2_Behind.j0 k (rdOf ByteArray.empty t294 (ji3)) (!t299)) = some (r1, r2, r3) := H
                      have A20 := Aside0.mk A200
                      clear A200
                      have H' := Aside0.mk H
                      clear H
                      have p13 : 0 ≤ (14 : Int) := (by omega)
                      have q13 : 14 < (rdOf ByteArray.empty t294 (ji3)).size := (by have : (14 : Int) < ((rdOf ByteArray.empty t294 (ji3)).size : Int) := of_decide_eq_true (by first | (with_reducible assumption) | assumption); omega)
                      have hx13 : ∀ h : 14 < (rdOf ByteArray.empty t294 (ji3)).size, (((rdOf ByteArray.empty t294 (ji3))[14]'h).toNat : Int) = bt (rdOf ByteArray.empty t294 (ji3)) 14 := bt_at (rdOf ByteArray.empty t294 (ji3)) 14
                      clear p13
                      have qi13 : (14 < ((rdOf ByteArray.empty t294 (ji3)).size : Int)) = True := eq_true (of_decide_eq_true (by first | (with_reducible assumption) | assumption))
                      replace q13 := eq_true q13
                      go_wp2_with (first | (go_at_call 54; (with_reducible refine (transhumanceref2_digits.calls k ((rdOf ByteArray.empty t294 (ji3)).extract 0 14) true _ A17.out).mono ?_); rintro e w' ⟨rfl, ⟨nd, rfl⟩⟩; (try first | exact ⟨rfl, _, World.drewN_drewN _ _ _⟩ | exact ⟨rfl, _, Eq.trans (World.drewN_drewN _ _ _) (congrArg (World.drewN _) (Nat.add_assoc _ _ _))⟩)) | (go_at_call 49; (with_reducible refine (transhumanceref2_Id.calls k ((rdOf ByteArray.empty t294 (ji3)).extract 15 (rdOf ByteArray.empty t294 (ji3)).size) t299 _ A20.out).mono ?_); rintro e w' ⟨rfl, ⟨nd, rfl⟩⟩; (try first | exact ⟨rfl, _, World.drewN_drewN _ _ _⟩ | exact ⟨rfl, _, Eq.trans (World.drewN_drewN _ _ _) (congrArg (World.drewN _) (Nat.add_assoc _ _ _))⟩)))
                      repeat (go_quiet (first | (go_at_call 54; (with_reducible refine (transhumanceref2_digits.calls k ((rdOf ByteArray.empty t294 (ji3)).extract 0 14) true _ A17.out).mono ?_); rintro e w' ⟨rfl, ⟨nd, rfl⟩⟩; (try first | exact ⟨rfl, _, World.drewN_drewN _ _ _⟩ | exact ⟨rfl, _, Eq.trans (World.drewN_drewN _ _ _) (congrArg (World.drewN _) (Nat.add_assoc _ _ _))⟩)) | (go_at_call 49; (with_reducible refine (transhumanceref2_Id.calls k ((rdOf ByteArray.empty t294 (ji3)).extract 15 (rdOf ByteArray.empty t294 (ji3)).size) t299 _ A20.out).mono ?_); rintro e w' ⟨rfl, ⟨nd, rfl⟩⟩; (try first | exact ⟨rfl, _, World.drewN_drewN _ _ _⟩ | exact ⟨rfl, _, Eq.trans (World.drewN_drewN _ _ _) (congrArg (World.drewN _) (Nat.add_assoc _ _ _))⟩))); try go_wp2_with (first | (go_at_call 54; (with_reducible refine (transhumanceref2_digits.calls k ((rdOf ByteArray.empty t294 (ji3)).extract 0 14) true _ A17.out).mono ?_); rintro e w' ⟨rfl, ⟨nd, rfl⟩⟩; (try first | exact ⟨rfl, _, World.drewN_drewN _ _ _⟩ | exact ⟨rfl, _, Eq.trans (World.drewN_drewN _ _ _) (congrArg (World.drewN _) (Nat.add_assoc _ _ _))⟩)) | (go_at_call 49; (with_reducible refine (transhumanceref2_Id.calls k ((rdOf ByteArray.empty t294 (ji3)).extract 15 (rdOf ByteArray.empty t294 (ji3)).size) t299 _ A20.out).mono ?_); rintro e w' ⟨rfl, ⟨nd, rfl⟩⟩; (try first | exact ⟨rfl, _, World.drewN_drewN _ _ _⟩ | exact ⟨rfl, _, Eq.trans (World.drewN_drewN _ _ _) (congrArg (World.drewN _) (Nat.add_assoc _ _ _))⟩))))
                      go_meet
                      case rel => exact ⟨_, (!t299), (by first | rfl | (simp; done) | (simp [*]; done) | (simp; exact (fun l_ : List UInt8 => by cases l_ <;> rfl : ∀ l_ : List UInt8, l_.isEmpty = !(l_ != [])) _)), H', ⟨by first | omega | exact Nat.le_refl _⟩, ⟨by (with_reducible repeat (first | refine blk_drewN ?_ _ | refine blk_drew ?_ | refine blk_alloc ?_ _)); exact BK293.out⟩, ⟨by repeat (first | (with_reducible first | exact HB.out | apply below_alloc | apply pw_below_drewN | apply below_drew1 | refine below_set ?_ GE293.out) | exact HB.out)⟩⟩
                    · rw [if_neg c19] at H
                      exact absurd H (by simp)
                  · replace c18 := Bool.eq_false_iff.mpr c18
                    subst c18
                    have H1 : (transhumanceref2_Behind.j0 k (rdOf ByteArray.empty t294 (ji3)) true) = some (r1, r2, r3) := by rw [if_neg (show ¬ (false = true) by decide)] at H; exact H
                    clear H
                    have H := H1
                    clear H1
                    have H' := Aside0.mk H
                    clear H
                    have p13 : 0 ≤ (14 : Int) := (by omega)
                    have q13 : 14 < (rdOf ByteArray.empty t294 (ji3)).size := (by have : (14 : Int) < ((rdOf ByteArray.empty t294 (ji3)).size : Int) := of_decide_eq_true (by first | (with_reducible assumption) | assumption); omega)
                    have hx13 : ∀ h : 14 < (rdOf ByteArray.empty t294 (ji3)).size, (((rdOf ByteArray.empty t294 (ji3))[14]'h).toNat : Int) = bt (rdOf ByteArray.empty t294 (ji3)) 14 := bt_at (rdOf ByteArray.empty t294 (ji3)) 14
                    clear p13
                    have qi13 : (14 < ((rdOf ByteArray.empty t294 (ji3)).size : Int)) = True := eq_true (of_decide_eq_true (by first | (with_reducible assumption) | assumption))
                    replace q13 := eq_true q13
                    go_wp2_with (first | (go_at_call 54; (with_reducible refine (transhumanceref2_digits.calls k ((rdOf ByteArray.empty t294 (ji3)).extract 0 14) false _ A17.out).mono ?_); rintro e w' ⟨rfl, ⟨nd, rfl⟩⟩; (try first | exact ⟨rfl, _, World.drewN_drewN _ _ _⟩ | exact ⟨rfl, _, Eq.trans (World.drewN_drewN _ _ _) (congrArg (World.drewN _) (Nat.add_assoc _ _ _))⟩)))
                    repeat (go_quiet (first | (go_at_call 54; (with_reducible refine (transhumanceref2_digits.calls k ((rdOf ByteArray.empty t294 (ji3)).extract 0 14) false _ A17.out).mono ?_); rintro e w' ⟨rfl, ⟨nd, rfl⟩⟩; (try first | exact ⟨rfl, _, World.drewN_drewN _ _ _⟩ | exact ⟨rfl, _, Eq.trans (World.drewN_drewN _ _ _) (congrArg (World.drewN _) (Nat.add_assoc _ _ _))⟩))); try go_wp2_with (first | (go_at_call 54; (with_reducible refine (transhumanceref2_digits.calls k ((rdOf ByteArray.empty t294 (ji3)).extract 0 14) false _ A17.out).mono ?_); rintro e w' ⟨rfl, ⟨nd, rfl⟩⟩; (try first | exact ⟨rfl, _, World.drewN_drewN _ _ _⟩ | exact ⟨rfl, _, Eq.trans (World.drewN_drewN _ _ _) (congrArg (World.drewN _) (Nat.add_assoc _ _ _))⟩))))
                    go_meet
                    case rel => exact ⟨_, (true), (by first | rfl | (simp; done) | (simp [*]; done) | (simp; exact (fun l_ : List UInt8 => by cases l_ <;> rfl : ∀ l_ : List UInt8, l_.isEmpty = !(l_ != [])) _)), H', ⟨by first | omega | exact Nat.le_refl _⟩, ⟨by (with_reducible repeat (first | refine blk_drewN ?_ _ | refine blk_drew ?_ | refine blk_alloc ?_ _)); exact BK293.out⟩, ⟨by repeat (first | (with_reducible first | exact HB.out | apply below_alloc | apply pw_below_drewN | apply below_drew1 | refine below_set ?_ GE293.out) | exact HB.out)⟩⟩
                · rw [if_neg c16] at H
                  exact absurd H (by simp)
              · rw [if_neg c15] at H
                exact absurd H (by simp)
            · rw [if_neg c14] at H
              have c14b0 : ((bt (rdOf ByteArray.empty t294 (ji3)) 14) == 45) = false := beq_eq_false_iff_ne.mpr c14
              have c14b1 : ((bt (rdOf ByteArray.empty t294 (ji3)) 14) != 45) = true := bne_iff_ne.mpr c14
              have H' := Aside0.mk H
              clear H
              have p13 : 0 ≤ (14 : Int) := (by omega)
              have q13 : 14 < (rdOf ByteArray.empty t294 (ji3)).size := (by have : (14 : Int) < ((rdOf ByteArray.empty t294 (ji3)).size : Int) := of_decide_eq_true (by first | (with_reducible assumption) | assumption); omega)
              have hx13 : ∀ h : 14 < (rdOf ByteArray.empty t294 (ji3)).size, (((rdOf ByteArray.empty t294 (ji3))[14]'h).toNat : Int) = bt (rdOf ByteArray.empty t294 (ji3)) 14 := bt_at (rdOf ByteArray.empty t294 (ji3)) 14
              clear p13
              have qi13 : (14 < ((rdOf ByteArray.empty t294 (ji3)).size : Int)) = True := eq_true (of_decide_eq_true (by first | (with_reducible assumption) | assumption))
              replace q13 := eq_true q13
              go_wp2
              repeat (go_quiet (fail); try go_wp2)
              go_meet
              case rel => exact ⟨_, (true), (by first | rfl | (simp; done) | (simp [*]; done) | (simp; exact (fun l_ : List UInt8 => by cases l_ <;> rfl : ∀ l_ : List UInt8, l_.isEmpty = !(l_ != [])) _)), H', ⟨by first | omega | exact Nat.le_refl _⟩, ⟨by (with_reducible repeat (first | refine blk_drewN ?_ _ | refine blk_drew ?_ | refine blk_alloc ?_ _)); exact BK293.out⟩, ⟨by repeat (first | (with_reducible first | exact HB.out | apply below_alloc | apply pw_below_drewN | apply below_drew1 | refine below_set ?_ GE293.out) | exact HB.out)⟩⟩
          · rw [if_neg c12] at H
            exact absurd H (by simp)
        · rw [if_neg c11] at H
          have c11b0 : (((rdOf ByteArray.empty t294 (ji3)).size : Int) == 27) = false := beq_eq_false_iff_ne.mpr c11
          have c11b1 : (((rdOf ByteArray.empty t294 (ji3)).size : Int) != 27) = true := bne_iff_ne.mpr c11
          (first | rw [c11b0] | (simp only [i64_w, i32_w]; rw [c11b0]) | skip)
          have H' := Aside0.mk H
          clear H
          go_wp2
          repeat (go_quiet (fail); try go_wp2)
          go_meet
          case rel => exact ⟨_, (true), (by first | rfl | (simp; done) | (simp [*]; done) | (simp; exact (fun l_ : List UInt8 => by cases l_ <;> rfl : ∀ l_ : List UInt8, l_.isEmpty = !(l_ != [])) _)), H', ⟨by first | omega | exact Nat.le_refl _⟩, ⟨by (with_reducible repeat (first | refine blk_drewN ?_ _ | refine blk_drew ?_ | refine blk_alloc ?_ _)); exact BK293.out⟩, ⟨by repeat (first | (with_reducible first | exact HB.out | apply below_alloc | apply pw_below_drewN | apply below_drew1 | refine below_set ?_ GE293.out) | exact HB.out)⟩⟩
      case rest =>
        clear HC6
        try clear c1
        try clear p1
        try clear q1
        try clear hx1
        try clear qi1
        try clear c2
        try clear p2
        try clear q2
        try clear hx2
        try clear c4
        try clear c4b0
        try clear c5
        try clear c5b0
        try clear p6
        try clear c11
        try clear c11b0
        try clear c11b1
        try clear c12
        try clear c12b0
        try clear c12b1
        try clear p13
        try clear q13
        try clear hx13
        try clear qi13
        try clear c14
        try clear c14b0
        try clear c14b1
        try clear c15
        try clear c15b0
        try clear c15b1
        try clear c16
        try clear c16b0
        try clear c16b1
        try clear c18
        try clear c19
        try clear c19b0
        try clear c19b1
        try clear hcz8_0
        try clear hcz8_1
        try clear hcz8_2
        try clear hcz8_3
        try clear hfz8_0
        try clear hfz8_1
        try clear hfz8_2
        try clear hfz8_3
        try clear hx297_0
        try clear p13
        try clear p297
        try clear q13
        try clear q297
        obtain ⟨kq, x37_5, rfl, HA, HJ5, BK293, HB⟩ := hcut
        cases kq with
        | zero => exact absurd HA.out (by simp [transhumanceref2_Behind.j0])
        | succ kj5 =>
          have H := HA.out
          clear HA
          simp only [transhumanceref2_Behind.j0] at H
          by_cases c21 : x37_5 = true
          · subst c21
            have H1 : (some (0, (⟨#[]⟩ : ByteArray), false)) = some (r1, r2, r3) := by rw [if_pos rfl] at H; exact H
            clear H
            have H := H1
            clear H1
            simp only [Option.some.injEq, Prod.mk.injEq] at H
            obtain ⟨rfl, rfl, rfl⟩ := H
            go_wp2
            repeat (go_quiet (fail); try go_wp2)
            go_ret3
            exact ⟨by first | rfl | (simp [errW_none, errW_some] <;> rfl) | (simp only [← hji3]; first | rfl | (simp [errW_none, errW_some] <;> rfl)) | (simp [*, errW_none, errW_some] <;> rfl), by repeat (first | (with_reducible first | exact HB.out | apply below_alloc | apply pw_below_drewN | apply below_drew1 | refine below_set ?_ GE293.out) | exact HB.out)⟩
          · replace c21 := Bool.eq_false_iff.mpr c21
            subst c21
            have H1 : (transhumanceref2_Behind.l0 kj5 (rdOf ByteArray.empty t294 (ji3)) 0 0) = some (r1, r2, r3) := by rw [if_neg (show ¬ (false = true) by decide)] at H; exact H
            clear H
            have H := H1
            clear H1
            have H' := Aside0.mk H
            clear H
            go_wp2
            repeat (go_quiet (fail); try go_wp2)
            go_loopg [7, 8] kj5 (fun kq v7 v8 w' => ∃ (x7_2 : Int) (x8_2 : Int), v7 = .int .i64 x7_2 ∧ v8 = .int .i64 x8_2 ∧ Aside0 (transhumanceref2_Behind.l0 kq (rdOf ByteArray.empty t294 (ji3)) x7_2 x8_2 = some (r1, r2, r3)) ∧ Aside0 (kq ≤ kj5) ∧ Aside0 (w'.heap[gb293]? = some (.cells #[.int .i64 a0_0, .int .i64 a0_1, .int .i64 a0_2, .string a0_3] 25 (0, 0))) ∧ Aside0 (Below w.heap.size w w'))
            case atStart => exact ⟨(0), (0), (by first | rfl | (simp; done) | (simp [*]; done) | (simp; exact (fun l_ : List UInt8 => by cases l_ <;> rfl : ∀ l_ : List UInt8, l_.isEmpty = !(l_ != [])) _)), (by first | rfl | (simp; done) | (simp [*]; done) | (simp; exact (fun l_ : List UInt8 => by cases l_ <;> rfl : ∀ l_ : List UInt8, l_.isEmpty = !(l_ != [])) _)), H', ⟨Nat.le_refl _⟩, ⟨by (with_reducible repeat (first | refine blk_drewN ?_ _ | refine blk_drew ?_ | refine blk_alloc ?_ _)); exact BK293.out⟩, ⟨by repeat (first | (with_reducible first | exact HB.out | apply below_alloc | apply pw_below_drewN | apply below_drew1 | refine below_set ?_ GE293.out) | exact HB.out)⟩⟩
            case round =>
              clear H'
              try clear c1
              try clear p1
              try clear q1
              try clear hx1
              try clear qi1
              try clear c2
              try clear p2
              try clear q2
              try clear hx2
              try clear c4
              try clear c4b0
              try clear c5
              try clear c5b0
              try clear p6
              try clear c11
              try clear c11b0
              try clear c11b1
              try clear c12
              try clear c12b0
              try clear c12b1
              try clear p13
              try clear q13
              try clear hx13
              try clear qi13
              try clear c14
              try clear c14b0
              try clear c14b1
              try clear c15
              try clear c15b0
              try clear c15b1
              try clear c16
              try clear c16b0
              try clear c16b1
              try clear c18
              try clear c19
              try clear c19b0
              try clear c19b1
              try clear c21
              try clear hcz8_0
              try clear hcz8_1
              try clear hcz8_2
              try clear hcz8_3
              try clear hfz8_0
              try clear hfz8_1
              try clear hfz8_2
              try clear hfz8_3
              try clear hx297_0
              try clear p1
              try clear p13
              try clear p2
              try clear p297
              try clear p6
              try clear q1
              try clear q13
              try clear q2
              try clear q297
              obtain ⟨x7_2, x8_2, rfl, rfl, HA, HK2, BK293, HB⟩ := hrel
              cases gk with
              | zero => exact absurd HA.out (by simp [transhumanceref2_Behind.l0])
              | succ k2 =>
                have H := HA.out
                clear HA
                simp only [transhumanceref2_Behind.l0] at H
                by_cases c22 : x8_2 < 14
                · rw [if_pos c22] at H
                  have c22b0 : decide (x8_2 < 14) = true := decide_eq_true c22
                  clear c22
                  by_cases c23 : 0 ≤ x8_2
                  · rw [if_pos c23] at H
                    have c23b0 : decide (0 ≤ x8_2) = true := decide_eq_true c23
                    clear c23
                    by_cases c24 : x8_2 < ((rdOf ByteArray.empty t294 (ji3)).size : Int)
                    · rw [if_pos c24] at H
                      have c24b0 : decide (x8_2 < ((rdOf ByteArray.empty t294 (ji3)).size : Int)) = true := decide_eq_true c24
                      clear c24
                      have H' := Aside0.mk H
                      clear H
                      have p25 : 0 ≤ (x8_2 : Int) := of_decide_eq_true (by first | (with_reducible assumption) | assumption)
                      have q25 : x8_2 < ((rdOf ByteArray.empty t294 (ji3)).size : Int) := of_decide_eq_true (by first | (with_reducible assumption) | assumption)
                      have hx25 := bt_at (rdOf ByteArray.empty t294 (ji3)) x8_2
                      replace p25 := eq_true p25
                      replace q25 := eq_true q25
                      go_wp2
                      repeat (go_quiet (fail); try go_wp2)
                      go_roundg k2
                      case measure => have := HJ5.out; have := HK2.out; omega
                      case rel => exact ⟨(wrap64 ((wrap64 (10 * x7_2)) + (((bt (rdOf ByteArray.empty t294 (ji3)) x8_2) - 48) % 256))), (wrap64 (x8_2 + 1)), (by first | rfl | (simp; done) | (simp only [← hji3] <;> (first | rfl | (simp; done) | (simp [*]; done) | (simp_all; done))) | (simp [*]; done) | (simp; exact (fun l_ : List UInt8 => by cases l_ <;> rfl : ∀ l_ : List UInt8, l_.isEmpty = !(l_ != [])) _)), (by first | rfl | (simp; done) | (simp [*]; done) | (simp; exact (fun l_ : List UInt8 => by cases l_ <;> rfl : ∀ l_ : List UInt8, l_.isEmpty = !(l_ != [])) _)), H', ⟨by have := HJ5.out; have := HK2.out; omega⟩, ⟨by (with_reducible repeat (first | refine blk_drewN ?_ _ | refine blk_drew ?_ | refine blk_alloc ?_ _)); exact BK293.out⟩, ⟨by repeat (first | (with_reducible first | exact HB.out | apply below_alloc | apply pw_below_drewN | apply below_drew1 | refine below_set ?_ GE293.out) | exact HB.out)⟩⟩
                    · rw [if_neg c24] at H
                      exact absurd H (by simp)
                  · rw [if_neg c23] at H
                    exact absurd H (by simp)
                · rw [if_neg c22] at H
                  have c22b0 : decide (x8_2 < 14) = false := decide_eq_false c22
                  clear c22
                  by_cases c26 : 15 ≤ ((rdOf ByteArray.empty t294 (ji3)).size : Int)
                  · rw [if_pos c26] at H
                    have c26b0 := eq_true c26
                    have c26b1 : decide (15 ≤ ((rdOf ByteArray.empty t294 (ji3)).size : Int)) = true := decide_eq_true c26
                    clear c26
                    simp only [Option.some.injEq, Prod.mk.injEq] at H
                    obtain ⟨rfl, rfl, rfl⟩ := H
                    go_wp2
                    repeat (go_quiet (fail); try go_wp2)
                    go_ret3
                    exact ⟨by first | rfl | (simp [errW_none, errW_some] <;> rfl) | (simp only [← hji3]; first | rfl | (simp [errW_none, errW_some] <;> rfl)) | (simp [*, errW_none, errW_some] <;> rfl), by repeat (first | (with_reducible first | exact HB.out | apply below_alloc | apply pw_below_drewN | apply below_drew1 | refine below_set ?_ GE293.out) | exact HB.out)⟩
                  · rw [if_neg c26] at H
                    exact absurd H (by simp)
    · rw [if_neg c5] at H
      exact absurd H (by simp)
  · rw [if_neg c4] at H
    exact absurd H (by simp)
end Go.Proofs.YtbdojilhmgfdcaaGreatDoor.Q
