import Derived.Test.YtljfcdfdedkajaaDoorZQ2g
namespace Go.Proofs.YtljfcdfdedkajaaDoor.Q
open Go.RowKit Go.Proofs.YtljfcdfdedkajaaDoorW.PrintWords Go.Proofs.YtljfcdfdedkajaaDoorW.PrintLast Go.Proofs.YtljfcdfdedkajaaDoorW.PrintMore
attribute [local go_sem] max2_int min2_int max_two min_two max_three min_three max_four min_four
set_option linter.unusedVariables false
set_option linter.unusedSimpArgs false
mutual
def transhumanceref6_Check.j0 : Nat → List (S31) → Int → Bool → ByteArray → ByteArray → ByteArray → ByteArray → ByteArray → Option (Int)
 | 0, _, _, _, _, _, _, _, _ => none
 | k + 1, x0, x3, x28, x118000, x118001, x118002, x118003, x118004 => if x28 = true then (some 1) else (transhumanceref6_Check.l0 k x0 x3 0 x118000 x118001 x118002 x118003 x118004)
def transhumanceref6_Check.l0 : Nat → List (S31) → Int → Int → ByteArray → ByteArray → ByteArray → ByteArray → ByteArray → Option (Int)
 | 0, _, _, _, _, _, _, _, _ => none
 | k + 1, x0, x3, x5, x118000, x118001, x118002, x118003, x118004 => if x5 < x3 then (if 0 ≤ x5 then (if x5 < (x0.length : Int) then (if ((rd_T31 x0 x5).f0).toList = x118000.toList then (some 4) else (transhumanceref6_Check.l0 k x0 x3 (wrap64 (x5 + 1)) x118000 x118001 x118002 x118003 x118004)) else (none)) else (none)) else (some 0)
end
def transhumanceref6_Check.f (k : Nat) (l0 : List (S31)) : Option (Int) := if (l0.length : Int) = 0 then (some 0) else (if 0 ≤ (wrap64 ((l0.length : Int) - 1)) then (if (wrap64 ((l0.length : Int) - 1)) < (l0.length : Int) then (if ((rd_T31 l0 (wrap64 ((l0.length : Int) - 1))).f0).toList = ([] : List UInt8) then (transhumanceref6_Check.j0 k l0 (wrap64 ((l0.length : Int) - 1)) true ((rd_T31 l0 (wrap64 ((l0.length : Int) - 1))).f0) ((rd_T31 l0 (wrap64 ((l0.length : Int) - 1))).f1) ((rd_T31 l0 (wrap64 ((l0.length : Int) - 1))).f2) ((rd_T31 l0 (wrap64 ((l0.length : Int) - 1))).f3) ((rd_T31 l0 (wrap64 ((l0.length : Int) - 1))).f4)) else (if ((rd_T31 l0 (wrap64 ((l0.length : Int) - 1))).f1).toList = ([] : List UInt8) then (transhumanceref6_Check.j0 k l0 (wrap64 ((l0.length : Int) - 1)) (((rd_T31 l0 (wrap64 ((l0.length : Int) - 1))).f2).toList == ([] : List UInt8)) ((rd_T31 l0 (wrap64 ((l0.length : Int) - 1))).f0) ((rd_T31 l0 (wrap64 ((l0.length : Int) - 1))).f1) ((rd_T31 l0 (wrap64 ((l0.length : Int) - 1))).f2) ((rd_T31 l0 (wrap64 ((l0.length : Int) - 1))).f3) ((rd_T31 l0 (wrap64 ((l0.length : Int) - 1))).f4)) else (transhumanceref6_Check.j0 k l0 (wrap64 ((l0.length : Int) - 1)) false ((rd_T31 l0 (wrap64 ((l0.length : Int) - 1))).f0) ((rd_T31 l0 (wrap64 ((l0.length : Int) - 1))).f1) ((rd_T31 l0 (wrap64 ((l0.length : Int) - 1))).f2) ((rd_T31 l0 (wrap64 ((l0.length : Int) - 1))).f3) ((rd_T31 l0 (wrap64 ((l0.length : Int) - 1))).f4)))) else (none)) else (none))
set_option maxHeartbeats 8000000 in
set_option maxRecDepth 100000 in
theorem transhumanceref6_Check.calls (k : Nat) (A0 : Option Addr) (c0 : Nat) (l0 : List (S31)) (r : Int) (w : World) (hr0 : Kd.C k31 w A0 l0.length l0) (hc0 : l0.length ≤ c0) (h : transhumanceref6_Check.f k l0 = some r) :
  Calls Tryd.prog 32 #[.slice A0 l0.length c0] w fun e w' => e = .returned (.int .i64 r) ∧ Below w.heap.size w w' := by
 have hu31 := Tryd.underlying31
 have HR0 := Aside0.mk hr0
 have HC0 := Aside0.mk hc0
 clear hr0 hc0
 have HB := Aside0.mk (Below.refl w.heap.size w)
 have H : (if (l0.length : Int) = 0 then (some 0) else (if 0 ≤ (wrap64 ((l0.length : Int) - 1)) then (if (wrap64 ((l0.length : Int) - 1)) < (l0.length : Int) then (if ((rd_T31 l0 (wrap64 ((l0.length : Int) - 1))).f0).toList = ([] : List UInt8) then (transhumanceref6_Check.j0 k l0 (wrap64 ((l0.length : Int) - 1)) true ((rd_T31 l0 (wrap64 ((l0.length : Int) - 1))).f0) ((rd_T31 l0 (wrap64 ((l0.length : Int) - 1))).f1) ((rd_T31 l0 (wrap64 ((l0.length : Int) - 1))).f2) ((rd_T31 l0 (wrap64 ((l0.length : Int) - 1))).f3) ((rd_T31 l0 (wrap64 ((l0.length : Int) - 1))).f4)) else (if ((rd_T31 l0 (wrap64 ((l0.length : Int) - 1))).f1).toList = ([] : List UInt8) then (transhumanceref6_Check.j0 k l0 (wrap64 ((l0.length : Int) - 1)) (((rd_T31 l0 (wrap64 ((l0.length : Int) - 1))).f2).toList == ([] : List UInt8)) ((rd_T31 l0 (wrap64 ((l0.length : Int) - 1))).f0) ((rd_T31 l0 (wrap64 ((l0.length : Int) - 1))).f1) ((rd_T31 l0 (wrap64 ((l0.length : Int) - 1))).f2) ((rd_T31 l0 (wrap64 ((l0.length : Int) - 1))).f3) ((rd_T31 l0 (wrap64 ((l0.length : Int) - 1))).f4)) else (transhumanceref6_Check.j0 k l0 (wrap64 ((l0.length : Int) - 1)) false ((rd_T31 l0 (wrap64 ((l0.length : Int) - 1))).f0) ((rd_T31 l0 (wrap64 ((l0.length : Int) - 1))).f1) ((rd_T31 l0 (wrap64 ((l0.length : Int) - 1))).f2) ((rd_T31 l0 (wrap64 ((l0.length : Int) - 1))).f3) ((rd_T31 l0 (wrap64 ((l0.length : Int) - 1))).f4)))) else (none)) else (none))) = some r := h
 clear h
 by_cases c2 : (l0.length : Int) = 0
 ·rw [if_pos c2] at H
  have c2b0 : ((l0.length : Int) == 0) = true := beq_iff_eq.mpr c2
  have c2b1 : ((l0.length : Int) != 0) = false := bne_eq_false_iff_eq.mpr c2
  clear c2
  obtain rfl := Option.some.inj H
  go_enter Tryd.func32, Tryd.ntmps32
  go_wp2
  repeat (go_quiet (fail); try go_wp2)
  go_ret
  exact ⟨by first | rfl | (simp [errW_none, errW_some] <;> rfl) | (simp [*, errW_none, errW_some] <;> rfl), by repeat (first | (with_reducible first | exact HB.out | apply below_alloc | apply pw_below_drewN | apply below_drew1) | exact HB.out)⟩
 ·rw [if_neg c2] at H
  have c2b0 : ((l0.length : Int) == 0) = false := beq_eq_false_iff_ne.mpr c2
  have c2b1 : ((l0.length : Int) != 0) = true := bne_iff_ne.mpr c2
  have c2b2 : ¬ (l0 = []) := fun h_ => c2 (by rw [h_]; rfl)
  obtain ⟨ji3, hji3⟩ : ∃ j_ : Int, (wrap64 ((l0.length : Int) - 1)) = j_ := ⟨_, rfl⟩
  replace H : (if 0 ≤ (ji3) then (if (ji3) < (l0.length : Int) then (if ((rd_T31 l0 (ji3)).f0).toList = ([] : List UInt8) then (transhumanceref6_Check.j0 k l0 ji3 true ((rd_T31 l0 (ji3)).f0) ((rd_T31 l0 (ji3)).f1) ((rd_T31 l0 (ji3)).f2) ((rd_T31 l0 (ji3)).f3) ((rd_T31 l0 (ji3)).f4)) else (if ((rd_T31 l0 (ji3)).f1).toList = ([] : List UInt8) then (transhumanceref6_Check.j0 k l0 ji3 (((rd_T31 l0 (ji3)).f2).toList == ([] : List UInt8)) ((rd_T31 l0 (ji3)).f0) ((rd_T31 l0 (ji3)).f1) ((rd_T31 l0 (ji3)).f2) ((rd_T31 l0 (ji3)).f3) ((rd_T31 l0 (ji3)).f4)) else (transhumanceref6_Check.j0 k l0 ji3 false ((rd_T31 l0 (ji3)).f0) ((rd_T31 l0 (ji3)).f1) ((rd_T31 l0 (ji3)).f2) ((rd_T31 l0 (ji3)).f3) ((rd_T31 l0 (ji3)).f4)))) else (none)) else (none)) = some r := by first | (rw [hji3] at H; exact H) | (simp only [hji3] at H ⊢; exact H)
  have hji3w : (IntKind.i64.wrap ((l0.length : Int) - 1)) = ji3 := (i64_w _).trans hji3
  by_cases c4 : 0 ≤ (ji3)
  ·rw [if_pos c4] at H
   have c4b0 : decide (0 ≤ (ji3)) = true := decide_eq_true c4
   clear c4
   by_cases c5 : (ji3) < (l0.length : Int)
   ·rw [if_pos c5] at H
    have c5b0 : decide ((ji3) < (l0.length : Int)) = true := decide_eq_true c5
    clear c5
    have HC6 := Aside0.mk H
    clear H
    have p116 : 0 ≤ ((ji3) : Int) := of_decide_eq_true (by first | (with_reducible assumption) | assumption)
    have q116 : (ji3) < (l0.length : Int) := of_decide_eq_true (by first | (with_reducible assumption) | assumption)
    obtain ⟨ad116, e116, hx116_0, hx116_1, hx116_2, hx116_3, hx116_4⟩ := at_T31 HR0.out (ji3) p116 q116
    cases e116
    replace p116 := eq_true p116
    replace q116 := eq_true q116
    go_enter Tryd.func32, Tryd.ntmps32
    go_upto_region 5 with (first | ((with_reducible refine gate_dst (N := 4) rfl ?_); refine box_event ?hg (N := 4) ?hd (cs := #[.string (⟨#[]⟩ : ByteArray), .string (⟨#[]⟩ : ByteArray), .string (⟨#[]⟩ : ByteArray), .string (⟨#[]⟩ : ByteArray), .string (⟨#[]⟩ : ByteArray)]) (t := 31) ?hr ?_; (case hd => rfl); (case hg => rfl); (case hr => first | (go_simp; done) | (go_simp; rfl)); intro gb117 hg w7 hbox hb; have n0_ := Aside0.mk (below_step (by repeat (first | (with_reducible first | exact HB.out | apply below_alloc | apply pw_below_drewN | apply below_drew1) | exact HB.out)) hb); have n1_ := Aside0.mk (hbox); have n2_ := Aside0.mk ((by rw [hg]; exact (below_size (by repeat (first | (with_reducible first | exact HB.out | apply below_alloc | apply pw_below_drewN | apply below_drew1) | exact HB.out))) : w.heap.size ≤ gb117)); have n3_ := Aside0.mk ((by rw [hg]; exact (below_size (by repeat (first | (with_reducible first | exact HB.out | apply below_alloc | apply pw_below_drewN | apply below_drew1) | exact HB.out))) : w.heap.size ≤ gb117)); clear HB; have HB := n0_; have BK117 := n1_; have GW117 := n2_; have GE117 := n3_; clear n0_ n1_ n2_ n3_; clear hb hbox hg; have hcz8_0 : w7.cell? ⟨gb117, 0, none⟩ = some (.string (⟨#[]⟩ : ByteArray)) := (blk_cell BK117.out 0).trans rfl; have hcz8_1 : w7.cell? ⟨gb117, 1, none⟩ = some (.string (⟨#[]⟩ : ByteArray)) := (blk_cell BK117.out 1).trans rfl; have hcz8_2 : w7.cell? ⟨gb117, 2, none⟩ = some (.string (⟨#[]⟩ : ByteArray)) := (blk_cell BK117.out 2).trans rfl; have hcz8_3 : w7.cell? ⟨gb117, 3, none⟩ = some (.string (⟨#[]⟩ : ByteArray)) := (blk_cell BK117.out 3).trans rfl; have hcz8_4 : w7.cell? ⟨gb117, 4, none⟩ = some (.string (⟨#[]⟩ : ByteArray)) := (blk_cell BK117.out 4).trans rfl; have hfz8_0 := blk_frozen BK117.out 0; have hfz8_1 := blk_frozen BK117.out 1; have hfz8_2 := blk_frozen BK117.out 2; have hfz8_3 := blk_frozen BK117.out 3; have hfz8_4 := blk_frozen BK117.out 4))
    repeat (go_quiet (first | ((with_reducible refine gate_dst (N := 4) rfl ?_); refine box_event ?hg (N := 4) ?hd (cs := #[.string (⟨#[]⟩ : ByteArray), .string (⟨#[]⟩ : ByteArray), .string (⟨#[]⟩ : ByteArray), .string (⟨#[]⟩ : ByteArray), .string (⟨#[]⟩ : ByteArray)]) (t := 31) ?hr ?_; (case hd => rfl); (case hg => rfl); (case hr => first | (go_simp; done) | (go_simp; rfl)); intro gb117 hg w7 hbox hb; have n0_ := Aside0.mk (below_step (by repeat (first | (with_reducible first | exact HB.out | apply below_alloc | apply pw_below_drewN | apply below_drew1) | exact HB.out)) hb); have n1_ := Aside0.mk (hbox); have n2_ := Aside0.mk ((by rw [hg]; exact (below_size (by repeat (first | (with_reducible first | exact HB.out | apply below_alloc | apply pw_below_drewN | apply below_drew1) | exact HB.out))) : w.heap.size ≤ gb117)); have n3_ := Aside0.mk ((by rw [hg]; exact (below_size (by repeat (first | (with_reducible first | exact HB.out | apply below_alloc | apply pw_below_drewN | apply below_drew1) | exact HB.out))) : w.heap.size ≤ gb117)); clear HB; have HB := n0_; have BK117 := n1_; have GW117 := n2_; have GE117 := n3_; clear n0_ n1_ n2_ n3_; clear hb hbox hg; have hcz8_0 : w7.cell? ⟨gb117, 0, none⟩ = some (.string (⟨#[]⟩ : ByteArray)) := (blk_cell BK117.out 0).trans rfl; have hcz8_1 : w7.cell? ⟨gb117, 1, none⟩ = some (.string (⟨#[]⟩ : ByteArray)) := (blk_cell BK117.out 1).trans rfl; have hcz8_2 : w7.cell? ⟨gb117, 2, none⟩ = some (.string (⟨#[]⟩ : ByteArray)) := (blk_cell BK117.out 2).trans rfl; have hcz8_3 : w7.cell? ⟨gb117, 3, none⟩ = some (.string (⟨#[]⟩ : ByteArray)) := (blk_cell BK117.out 3).trans rfl; have hcz8_4 : w7.cell? ⟨gb117, 4, none⟩ = some (.string (⟨#[]⟩ : ByteArray)) := (blk_cell BK117.out 4).trans rfl; have hfz8_0 := blk_frozen BK117.out 0; have hfz8_1 := blk_frozen BK117.out 1; have hfz8_2 := blk_frozen BK117.out 2; have hfz8_3 := blk_frozen BK117.out 3; have hfz8_4 := blk_frozen BK117.out 4)); go_upto_region 5 with (first | ((with_reducible refine gate_dst (N := 4) rfl ?_); refine box_event ?hg (N := 4) ?hd (cs := #[.string (⟨#[]⟩ : ByteArray), .string (⟨#[]⟩ : ByteArray), .string (⟨#[]⟩ : ByteArray), .string (⟨#[]⟩ : ByteArray), .string (⟨#[]⟩ : ByteArray)]) (t := 31) ?hr ?_; (case hd => rfl); (case hg => rfl); (case hr => first | (go_simp; done) | (go_simp; rfl)); intro gb117 hg w7 hbox hb; have n0_ := Aside0.mk (below_step (by repeat (first | (with_reducible first | exact HB.out | apply below_alloc | apply pw_below_drewN | apply below_drew1) | exact HB.out)) hb); have n1_ := Aside0.mk (hbox); have n2_ := Aside0.mk ((by rw [hg]; exact (below_size (by repeat (first | (with_reducible first | exact HB.out | apply below_alloc | apply pw_below_drewN | apply below_drew1) | exact HB.out))) : w.heap.size ≤ gb117)); have n3_ := Aside0.mk ((by rw [hg]; exact (below_size (by repeat (first | (with_reducible first | exact HB.out | apply below_alloc | apply pw_below_drewN | apply below_drew1) | exact HB.out))) : w.heap.size ≤ gb117)); clear HB; have HB := n0_; have BK117 := n1_; have GW117 := n2_; have GE117 := n3_; clear n0_ n1_ n2_ n3_; clear hb hbox hg; have hcz8_0 : w7.cell? ⟨gb117, 0, none⟩ = some (.string (⟨#[]⟩ : ByteArray)) := (blk_cell BK117.out 0).trans rfl; have hcz8_1 : w7.cell? ⟨gb117, 1, none⟩ = some (.string (⟨#[]⟩ : ByteArray)) := (blk_cell BK117.out 1).trans rfl; have hcz8_2 : w7.cell? ⟨gb117, 2, none⟩ = some (.string (⟨#[]⟩ : ByteArray)) := (blk_cell BK117.out 2).trans rfl; have hcz8_3 : w7.cell? ⟨gb117, 3, none⟩ = some (.string (⟨#[]⟩ : ByteArray)) := (blk_cell BK117.out 3).trans rfl; have hcz8_4 : w7.cell? ⟨gb117, 4, none⟩ = some (.string (⟨#[]⟩ : ByteArray)) := (blk_cell BK117.out 4).trans rfl; have hfz8_0 := blk_frozen BK117.out 0; have hfz8_1 := blk_frozen BK117.out 1; have hfz8_2 := blk_frozen BK117.out 2; have hfz8_3 := blk_frozen BK117.out 3; have hfz8_4 := blk_frozen BK117.out 4)))
    (try simp only [Act.put, List.setIfInBounds_toArray, List.set_cons_zero, List.set_cons_succ])
    go_cut [28] (fun v28 wc => ∃ (kq : Nat) (x28_5 : Bool), v28 = .bool x28_5 ∧ Aside0 (transhumanceref6_Check.j0 kq l0 ji3 x28_5 ((rd_T31 l0 (ji3)).f0) ((rd_T31 l0 (ji3)).f1) ((rd_T31 l0 (ji3)).f2) ((rd_T31 l0 (ji3)).f3) ((rd_T31 l0 (ji3)).f4) = some r) ∧ Aside0 (kq ≤ k) ∧ Aside0 (wc.heap[gb117]? = some (.cells #[.string ((rd_T31 l0 (ji3)).f0), .string ((rd_T31 l0 (ji3)).f1), .string ((rd_T31 l0 (ji3)).f2), .string ((rd_T31 l0 (ji3)).f3), .string ((rd_T31 l0 (ji3)).f4)] 31 (0, 0))) ∧ Aside0 (Below w.heap.size w wc))
    case first =>
     have H := HC6.out
     clear HC6
     by_cases c9 : ((rd_T31 l0 (ji3)).f0).toList = ([] : List UInt8)
     ·rw [if_pos c9] at H
      have c9b0 : (((rd_T31 l0 (ji3)).f0).toList == ([] : List UInt8)) = true := beq_iff_eq.mpr c9
      have c9b1 : (((rd_T31 l0 (ji3)).f0).toList != ([] : List UInt8)) = false := bne_eq_false_iff_eq.mpr c9
      clear c9
      (first | rw [c9b0] | (simp only [i64_w, i32_w]; rw [c9b0]) | skip)
      have H' := Aside0.mk H
      clear H
      have hcz10_0 : w7.cell? ⟨gb117, 0, none⟩ = some (.string (⟨#[]⟩ : ByteArray)) := (blk_cell BK117.out 0).trans rfl
      have hcz10_1 : w7.cell? ⟨gb117, 1, none⟩ = some (.string (⟨#[]⟩ : ByteArray)) := (blk_cell BK117.out 1).trans rfl
      have hcz10_2 : w7.cell? ⟨gb117, 2, none⟩ = some (.string (⟨#[]⟩ : ByteArray)) := (blk_cell BK117.out 2).trans rfl
      have hcz10_3 : w7.cell? ⟨gb117, 3, none⟩ = some (.string (⟨#[]⟩ : ByteArray)) := (blk_cell BK117.out 3).trans rfl
      have hcz10_4 : w7.cell? ⟨gb117, 4, none⟩ = some (.string (⟨#[]⟩ : ByteArray)) := (blk_cell BK117.out 4).trans rfl
      have hfz10_0 := blk_frozen BK117.out 0
      have hfz10_1 := blk_frozen BK117.out 1
      have hfz10_2 := blk_frozen BK117.out 2
      have hfz10_3 := blk_frozen BK117.out 3
      have hfz10_4 := blk_frozen BK117.out 4
      go_wp2
      repeat (go_quiet (fail); try go_wp2)
      go_meet
      case rel => exact ⟨_, (true), (by first | rfl | (simp; done) | (simp [*]; done) | (simp; exact (fun l_ : List UInt8 => by cases l_ <;> rfl : ∀ l_ : List UInt8, l_.isEmpty = !(l_ != [])) _)), H', ⟨by first | omega | exact Nat.le_refl _⟩, ⟨by (with_reducible repeat (first | refine blk_drewN ?_ _ | refine blk_drew ?_ | refine blk_alloc ?_ _)); refine blk_put (cs := #[.string ((rd_T31 l0 (ji3)).f0), .string ((rd_T31 l0 (ji3)).f1), .string ((rd_T31 l0 (ji3)).f2), .string ((rd_T31 l0 (ji3)).f3), .string (⟨#[]⟩ : ByteArray)]) ?_ 4 _ rfl; (with_reducible repeat (first | refine blk_drewN ?_ _ | refine blk_drew ?_ | refine blk_alloc ?_ _)); refine blk_put (cs := #[.string ((rd_T31 l0 (ji3)).f0), .string ((rd_T31 l0 (ji3)).f1), .string ((rd_T31 l0 (ji3)).f2), .string (⟨#[]⟩ : ByteArray), .string (⟨#[]⟩ : ByteArray)]) ?_ 3 _ rfl; (with_reducible repeat (first | refine blk_drewN ?_ _ | refine blk_drew ?_ | refine blk_alloc ?_ _)); refine blk_put (cs := #[.string ((rd_T31 l0 (ji3)).f0), .string ((rd_T31 l0 (ji3)).f1), .string (⟨#[]⟩ : ByteArray), .string (⟨#[]⟩ : ByteArray), .string (⟨#[]⟩ : ByteArray)]) ?_ 2 _ rfl; (with_reducible repeat (first | refine blk_drewN ?_ _ | refine blk_drew ?_ | refine blk_alloc ?_ _)); refine blk_put (cs := #[.string ((rd_T31 l0 (ji3)).f0), .string (⟨#[]⟩ : ByteArray), .string (⟨#[]⟩ : ByteArray), .string (⟨#[]⟩ : ByteArray), .string (⟨#[]⟩ : ByteArray)]) ?_ 1 _ rfl; (with_reducible repeat (first | refine blk_drewN ?_ _ | refine blk_drew ?_ | refine blk_alloc ?_ _)); refine blk_put (cs := #[.string (⟨#[]⟩ : ByteArray), .string (⟨#[]⟩ : ByteArray), .string (⟨#[]⟩ : ByteArray), .string (⟨#[]⟩ : ByteArray), .string (⟨#[]⟩ : ByteArray)]) ?_ 0 _ rfl; (with_reducible repeat (first | refine blk_drewN ?_ _ | refine blk_drew ?_ | refine blk_alloc ?_ _)); exact BK117.out⟩, ⟨by repeat (first | (with_reducible first | exact HB.out | apply below_alloc | apply pw_below_drewN | apply below_drew1 | refine below_set ?_ GE117.out) | exact HB.out)⟩⟩
     ·rw [if_neg c9] at H
      have c9b0 : (((rd_T31 l0 (ji3)).f0).toList == ([] : List UInt8)) = false := beq_eq_false_iff_ne.mpr c9
      have c9b1 : (((rd_T31 l0 (ji3)).f0).toList != ([] : List UInt8)) = true := bne_iff_ne.mpr c9
      (first | rw [c9b0] | (simp only [i64_w, i32_w]; rw [c9b0]) | skip)
      by_cases c11 : ((rd_T31 l0 (ji3)).f1).toList = ([] : List UInt8)
      ·rw [if_pos c11] at H
       have c11b0 : (((rd_T31 l0 (ji3)).f1).toList == ([] : List UInt8)) = true := beq_iff_eq.mpr c11
       have c11b1 : (((rd_T31 l0 (ji3)).f1).toList != ([] : List UInt8)) = false := bne_eq_false_iff_eq.mpr c11
       clear c11
       have H' := Aside0.mk H
       clear H
       have hcz12_0 : w7.cell? ⟨gb117, 0, none⟩ = some (.string (⟨#[]⟩ : ByteArray)) := (blk_cell BK117.out 0).trans rfl
       have hcz12_1 : w7.cell? ⟨gb117, 1, none⟩ = some (.string (⟨#[]⟩ : ByteArray)) := (blk_cell BK117.out 1).trans rfl
       have hcz12_2 : w7.cell? ⟨gb117, 2, none⟩ = some (.string (⟨#[]⟩ : ByteArray)) := (blk_cell BK117.out 2).trans rfl
       have hcz12_3 : w7.cell? ⟨gb117, 3, none⟩ = some (.string (⟨#[]⟩ : ByteArray)) := (blk_cell BK117.out 3).trans rfl
       have hcz12_4 : w7.cell? ⟨gb117, 4, none⟩ = some (.string (⟨#[]⟩ : ByteArray)) := (blk_cell BK117.out 4).trans rfl
       have hfz12_0 := blk_frozen BK117.out 0
       have hfz12_1 := blk_frozen BK117.out 1
       have hfz12_2 := blk_frozen BK117.out 2
       have hfz12_3 := blk_frozen BK117.out 3
       have hfz12_4 := blk_frozen BK117.out 4
       go_wp2
       repeat (go_quiet (fail); try go_wp2)
       go_meet
       case rel => exact ⟨_, ((((rd_T31 l0 (ji3)).f2).toList == ([] : List UInt8))), (by first | rfl | (simp; done) | (simp only [← hji3] <;> (first | rfl | (simp; done) | (simp [*]; done) | (simp_all; done))) | (simp [*]; done) | (simp; exact (fun l_ : List UInt8 => by cases l_ <;> rfl : ∀ l_ : List UInt8, l_.isEmpty = !(l_ != [])) _)), H', ⟨by first | omega | exact Nat.le_refl _⟩, ⟨by (with_reducible repeat (first | refine blk_drewN ?_ _ | refine blk_drew ?_ | refine blk_alloc ?_ _)); refine blk_put (cs := #[.string ((rd_T31 l0 (ji3)).f0), .string ((rd_T31 l0 (ji3)).f1), .string ((rd_T31 l0 (ji3)).f2), .string ((rd_T31 l0 (ji3)).f3), .string (⟨#[]⟩ : ByteArray)]) ?_ 4 _ rfl; (with_reducible repeat (first | refine blk_drewN ?_ _ | refine blk_drew ?_ | refine blk_alloc ?_ _)); refine blk_put (cs := #[.string ((rd_T31 l0 (ji3)).f0), .string ((rd_T31 l0 (ji3)).f1), .string ((rd_T31 l0 (ji3)).f2), .string (⟨#[]⟩ : ByteArray), .string (⟨#[]⟩ : ByteArray)]) ?_ 3 _ rfl; (with_reducible repeat (first | refine blk_drewN ?_ _ | refine blk_drew ?_ | refine blk_alloc ?_ _)); refine blk_put (cs := #[.string ((rd_T31 l0 (ji3)).f0), .string ((rd_T31 l0 (ji3)).f1), .string (⟨#[]⟩ : ByteArray), .string (⟨#[]⟩ : ByteArray), .string (⟨#[]⟩ : ByteArray)]) ?_ 2 _ rfl; (with_reducible repeat (first | refine blk_drewN ?_ _ | refine blk_drew ?_ | refine blk_alloc ?_ _)); refine blk_put (cs := #[.string ((rd_T31 l0 (ji3)).f0), .string (⟨#[]⟩ : ByteArray), .string (⟨#[]⟩ : ByteArray), .string (⟨#[]⟩ : ByteArray), .string (⟨#[]⟩ : ByteArray)]) ?_ 1 _ rfl; (with_reducible repeat (first | refine blk_drewN ?_ _ | refine blk_drew ?_ | refine blk_alloc ?_ _)); refine blk_put (cs := #[.string (⟨#[]⟩ : ByteArray), .string (⟨#[]⟩ : ByteArray), .string (⟨#[]⟩ : ByteArray), .string (⟨#[]⟩ : ByteArray), .string (⟨#[]⟩ : ByteArray)]) ?_ 0 _ rfl; (with_reducible repeat (first | refine blk_drewN ?_ _ | refine blk_drew ?_ | refine blk_alloc ?_ _)); exact BK117.out⟩, ⟨by repeat (first | (with_reducible first | exact HB.out | apply below_alloc | apply pw_below_drewN | apply below_drew1 | refine below_set ?_ GE117.out) | exact HB.out)⟩⟩
      ·rw [if_neg c11] at H
       have c11b0 : (((rd_T31 l0 (ji3)).f1).toList == ([] : List UInt8)) = false := beq_eq_false_iff_ne.mpr c11
       have c11b1 : (((rd_T31 l0 (ji3)).f1).toList != ([] : List UInt8)) = true := bne_iff_ne.mpr c11
       have H' := Aside0.mk H
       clear H
       have hcz13_0 : w7.cell? ⟨gb117, 0, none⟩ = some (.string (⟨#[]⟩ : ByteArray)) := (blk_cell BK117.out 0).trans rfl
       have hcz13_1 : w7.cell? ⟨gb117, 1, none⟩ = some (.string (⟨#[]⟩ : ByteArray)) := (blk_cell BK117.out 1).trans rfl
       have hcz13_2 : w7.cell? ⟨gb117, 2, none⟩ = some (.string (⟨#[]⟩ : ByteArray)) := (blk_cell BK117.out 2).trans rfl
       have hcz13_3 : w7.cell? ⟨gb117, 3, none⟩ = some (.string (⟨#[]⟩ : ByteArray)) := (blk_cell BK117.out 3).trans rfl
       have hcz13_4 : w7.cell? ⟨gb117, 4, none⟩ = some (.string (⟨#[]⟩ : ByteArray)) := (blk_cell BK117.out 4).trans rfl
       have hfz13_0 := blk_frozen BK117.out 0
       have hfz13_1 := blk_frozen BK117.out 1
       have hfz13_2 := blk_frozen BK117.out 2
       have hfz13_3 := blk_frozen BK117.out 3
       have hfz13_4 := blk_frozen BK117.out 4
       go_wp2
       repeat (go_quiet (fail); try go_wp2)
       go_meet
       case rel => exact ⟨_, (false), (by first | rfl | (simp; done) | (simp [*]; done) | (simp; exact (fun l_ : List UInt8 => by cases l_ <;> rfl : ∀ l_ : List UInt8, l_.isEmpty = !(l_ != [])) _)), H', ⟨by first | omega | exact Nat.le_refl _⟩, ⟨by (with_reducible repeat (first | refine blk_drewN ?_ _ | refine blk_drew ?_ | refine blk_alloc ?_ _)); refine blk_put (cs := #[.string ((rd_T31 l0 (ji3)).f0), .string ((rd_T31 l0 (ji3)).f1), .string ((rd_T31 l0 (ji3)).f2), .string ((rd_T31 l0 (ji3)).f3), .string (⟨#[]⟩ : ByteArray)]) ?_ 4 _ rfl; (with_reducible repeat (first | refine blk_drewN ?_ _ | refine blk_drew ?_ | refine blk_alloc ?_ _)); refine blk_put (cs := #[.string ((rd_T31 l0 (ji3)).f0), .string ((rd_T31 l0 (ji3)).f1), .string ((rd_T31 l0 (ji3)).f2), .string (⟨#[]⟩ : ByteArray), .string (⟨#[]⟩ : ByteArray)]) ?_ 3 _ rfl; (with_reducible repeat (first | refine blk_drewN ?_ _ | refine blk_drew ?_ | refine blk_alloc ?_ _)); refine blk_put (cs := #[.string ((rd_T31 l0 (ji3)).f0), .string ((rd_T31 l0 (ji3)).f1), .string (⟨#[]⟩ : ByteArray), .string (⟨#[]⟩ : ByteArray), .string (⟨#[]⟩ : ByteArray)]) ?_ 2 _ rfl; (with_reducible repeat (first | refine blk_drewN ?_ _ | refine blk_drew ?_ | refine blk_alloc ?_ _)); refine blk_put (cs := #[.string ((rd_T31 l0 (ji3)).f0), .string (⟨#[]⟩ : ByteArray), .string (⟨#[]⟩ : ByteArray), .string (⟨#[]⟩ : ByteArray), .string (⟨#[]⟩ : ByteArray)]) ?_ 1 _ rfl; (with_reducible repeat (first | refine blk_drewN ?_ _ | refine blk_drew ?_ | refine blk_alloc ?_ _)); refine blk_put (cs := #[.string (⟨#[]⟩ : ByteArray), .string (⟨#[]⟩ : ByteArray), .string (⟨#[]⟩ : ByteArray), .string (⟨#[]⟩ : ByteArray), .string (⟨#[]⟩ : ByteArray)]) ?_ 0 _ rfl; (with_reducible repeat (first | refine blk_drewN ?_ _ | refine blk_drew ?_ | refine blk_alloc ?_ _)); exact BK117.out⟩, ⟨by repeat (first | (with_reducible first | exact HB.out | apply below_alloc | apply pw_below_drewN | apply below_drew1 | refine below_set ?_ GE117.out) | exact HB.out)⟩⟩
    case rest =>
     clear HC6
     try clear c1
     try clear p1
     try clear q1
     try clear hx1
     try clear c2
     try clear c2b0
     try clear c2b1
     try clear c2b2
     try clear p2
     try clear c3
     try clear c4
     try clear c4b0
     try clear c5
     try clear c5b0
     try clear p6
     try clear c9
     try clear c9b0
     try clear c9b1
     try clear c11
     try clear c11b0
     try clear c11b1
     try clear p11
     try clear q11
     try clear hx11
     try clear hcz10_0
     try clear hcz10_1
     try clear hcz10_2
     try clear hcz10_3
     try clear hcz10_4
     try clear hcz12_0
     try clear hcz12_1
     try clear hcz12_2
     try clear hcz12_3
     try clear hcz12_4
     try clear hcz13_0
     try clear hcz13_1
     try clear hcz13_2
     try clear hcz13_3
     try clear hcz13_4
     try clear hcz8_0
     try clear hcz8_1
     try clear hcz8_2
     try clear hcz8_3
     try clear hcz8_4
     try clear hfz10_0
     try clear hfz10_1
     try clear hfz10_2
     try clear hfz10_3
     try clear hfz10_4
     try clear hfz12_0
     try clear hfz12_1
     try clear hfz12_2
     try clear hfz12_3
     try clear hfz12_4
     try clear hfz13_0
     try clear hfz13_1
     try clear hfz13_2
     try clear hfz13_3
     try clear hfz13_4
     try clear hfz8_0
     try clear hfz8_1
     try clear hfz8_2
     try clear hfz8_3
     try clear hfz8_4
     try clear hx116_0
     try clear hx116_1
     try clear hx116_2
     try clear hx116_3
     try clear hx116_4
     try clear p116
     try clear q116
     obtain ⟨kq, x28_5, rfl, HA, HJ5, BK117, HB⟩ := hcut
     cases kq with
     | zero => exact absurd HA.out (by simp [transhumanceref6_Check.j0])
     | succ kj5 =>
      have H := HA.out
      clear HA
      simp only [transhumanceref6_Check.j0] at H
      by_cases c14 : x28_5 = true
      ·subst c14
       have H1 : (some 1) = some r := by rw [if_pos rfl] at H; exact H
       clear H
       have H := H1
       clear H1
       obtain rfl := Option.some.inj H
       go_wp2
       repeat (go_quiet (fail); try go_wp2)
       go_ret
       exact ⟨by first | rfl | (simp [errW_none, errW_some] <;> rfl) | (simp only [← hji3]; first | rfl | (simp [errW_none, errW_some] <;> rfl)) | (simp [*, errW_none, errW_some] <;> rfl), by repeat (first | (with_reducible first | exact HB.out | apply below_alloc | apply pw_below_drewN | apply below_drew1 | refine below_set ?_ GE117.out) | exact HB.out)⟩
      ·replace c14 := Bool.eq_false_iff.mpr c14
       subst c14
       have H1 : (transhumanceref6_Check.l0 kj5 l0 ji3 0 ((rd_T31 l0 (ji3)).f0) ((rd_T31 l0 (ji3)).f1) ((rd_T31 l0 (ji3)).f2) ((rd_T31 l0 (ji3)).f3) ((rd_T31 l0 (ji3)).f4)) = some r := by rw [if_neg (show ¬ (false = true) by decide)] at H; exact H
       clear H
       have H := H1
       clear H1
       have H' := Aside0.mk H
       clear H
       go_wp2
       repeat (go_quiet (fail); try go_wp2)
       go_loopg [5] kj5 (fun kq v5 w' => ∃ (x5_2 : Int), v5 = .int .i64 x5_2 ∧ Aside0 (transhumanceref6_Check.l0 kq l0 ji3 x5_2 ((rd_T31 l0 (ji3)).f0) ((rd_T31 l0 (ji3)).f1) ((rd_T31 l0 (ji3)).f2) ((rd_T31 l0 (ji3)).f3) ((rd_T31 l0 (ji3)).f4) = some r) ∧ Aside0 (kq ≤ kj5) ∧ Aside0 (w'.heap[gb117]? = some (.cells #[.string ((rd_T31 l0 (ji3)).f0), .string ((rd_T31 l0 (ji3)).f1), .string ((rd_T31 l0 (ji3)).f2), .string ((rd_T31 l0 (ji3)).f3), .string ((rd_T31 l0 (ji3)).f4)] 31 (0, 0))) ∧ Aside0 (Below w.heap.size w w'))
       case atStart => exact ⟨(0), (by first | rfl | (simp; done) | (simp [*]; done) | (simp; exact (fun l_ : List UInt8 => by cases l_ <;> rfl : ∀ l_ : List UInt8, l_.isEmpty = !(l_ != [])) _)), H', ⟨Nat.le_refl _⟩, ⟨by (with_reducible repeat (first | refine blk_drewN ?_ _ | refine blk_drew ?_ | refine blk_alloc ?_ _)); exact BK117.out⟩, ⟨by repeat (first | (with_reducible first | exact HB.out | apply below_alloc | apply pw_below_drewN | apply below_drew1 | refine below_set ?_ GE117.out) | exact HB.out)⟩⟩
       case round =>
        clear H'
        try clear c1
        try clear p1
        try clear q1
        try clear hx1
        try clear c2
        try clear c2b0
        try clear c2b1
        try clear c2b2
        try clear p2
        try clear c3
        try clear c4
        try clear c4b0
        try clear c5
        try clear c5b0
        try clear p6
        try clear c9
        try clear c9b0
        try clear c9b1
        try clear c11
        try clear c11b0
        try clear c11b1
        try clear p11
        try clear q11
        try clear hx11
        try clear c14
        try clear hcz10_0
        try clear hcz10_1
        try clear hcz10_2
        try clear hcz10_3
        try clear hcz10_4
        try clear hcz12_0
        try clear hcz12_1
        try clear hcz12_2
        try clear hcz12_3
        try clear hcz12_4
        try clear hcz13_0
        try clear hcz13_1
        try clear hcz13_2
        try clear hcz13_3
        try clear hcz13_4
        try clear hcz8_0
        try clear hcz8_1
        try clear hcz8_2
        try clear hcz8_3
        try clear hcz8_4
        try clear hfz10_0
        try clear hfz10_1
        try clear hfz10_2
        try clear hfz10_3
        try clear hfz10_4
        try clear hfz12_0
        try clear hfz12_1
        try clear hfz12_2
        try clear hfz12_3
        try clear hfz12_4
        try clear hfz13_0
        try clear hfz13_1
        try clear hfz13_2
        try clear hfz13_3
        try clear hfz13_4
        try clear hfz8_0
        try clear hfz8_1
        try clear hfz8_2
        try clear hfz8_3
        try clear hfz8_4
        try clear hx116_0
        try clear hx116_1
        try clear hx116_2
        try clear hx116_3
        try clear hx116_4
        try clear p1
        try clear p11
        try clear p116
        try clear p2
        try clear p6
        try clear q1
        try clear q11
        try clear q116
        obtain ⟨x5_2, rfl, HA, HK2, BK117, HB⟩ := hrel
        cases gk with
        | zero => exact absurd HA.out (by simp [transhumanceref6_Check.l0])
        | succ k2 =>
         have H := HA.out
         clear HA
         simp only [transhumanceref6_Check.l0] at H
         by_cases c15 : x5_2 < ji3
         ·rw [if_pos c15] at H
          have c15b0 : decide (x5_2 < ji3) = true := decide_eq_true c15
          clear c15
          by_cases c16 : 0 ≤ x5_2
          ·rw [if_pos c16] at H
           have c16b0 : decide (0 ≤ x5_2) = true := decide_eq_true c16
           clear c16
           by_cases c17 : x5_2 < (l0.length : Int)
           ·rw [if_pos c17] at H
            have c17b0 : decide (x5_2 < (l0.length : Int)) = true := decide_eq_true c17
            clear c17
            by_cases c18 : ((rd_T31 l0 x5_2).f0).toList = ((rd_T31 l0 (ji3)).f0).toList
            ·rw [if_pos c18] at H
             have c18b0 : (((rd_T31 l0 x5_2).f0).toList == ((rd_T31 l0 (ji3)).f0).toList) = true := beq_iff_eq.mpr c18
             have c18b1 : (((rd_T31 l0 x5_2).f0).toList != ((rd_T31 l0 (ji3)).f0).toList) = false := bne_eq_false_iff_eq.mpr c18
             clear c18
             obtain rfl := Option.some.inj H
             have p118 : 0 ≤ (x5_2 : Int) := of_decide_eq_true (by first | (with_reducible assumption) | assumption)
             have q118 : x5_2 < (l0.length : Int) := of_decide_eq_true (by first | (with_reducible assumption) | assumption)
             obtain ⟨ad118, e118, hx118_0, hx118_1, hx118_2, hx118_3, hx118_4⟩ := at_T31 HR0.out x5_2 p118 q118
             obtain rfl : ad116 = ad118 := (by injection e118)
             replace hx118_0 := (HB.out.cell (World.block_lt_of_cell? w _ hx118_0)).trans hx118_0
             replace hx118_1 := (HB.out.cell (World.block_lt_of_cell? w _ hx118_1)).trans hx118_1
             replace hx118_2 := (HB.out.cell (World.block_lt_of_cell? w _ hx118_2)).trans hx118_2
             replace hx118_3 := (HB.out.cell (World.block_lt_of_cell? w _ hx118_3)).trans hx118_3
             replace hx118_4 := (HB.out.cell (World.block_lt_of_cell? w _ hx118_4)).trans hx118_4
             replace p118 := eq_true p118
             replace q118 := eq_true q118
             have hcz19_0 : wr.cell? ⟨gb117, 0, none⟩ = some (.string ((rd_T31 l0 (ji3)).f0)) := (blk_cell BK117.out 0).trans rfl
             have hcz19_1 : wr.cell? ⟨gb117, 1, none⟩ = some (.string ((rd_T31 l0 (ji3)).f1)) := (blk_cell BK117.out 1).trans rfl
             have hcz19_2 : wr.cell? ⟨gb117, 2, none⟩ = some (.string ((rd_T31 l0 (ji3)).f2)) := (blk_cell BK117.out 2).trans rfl
             have hcz19_3 : wr.cell? ⟨gb117, 3, none⟩ = some (.string ((rd_T31 l0 (ji3)).f3)) := (blk_cell BK117.out 3).trans rfl
             have hcz19_4 : wr.cell? ⟨gb117, 4, none⟩ = some (.string ((rd_T31 l0 (ji3)).f4)) := (blk_cell BK117.out 4).trans rfl
             have hfz19_0 := blk_frozen BK117.out 0
             have hfz19_1 := blk_frozen BK117.out 1
             have hfz19_2 := blk_frozen BK117.out 2
             have hfz19_3 := blk_frozen BK117.out 3
             have hfz19_4 := blk_frozen BK117.out 4
             go_wp2
             repeat (go_quiet (fail); try go_wp2)
             go_ret
             exact ⟨by first | rfl | (simp [errW_none, errW_some] <;> rfl) | (simp only [← hji3]; first | rfl | (simp [errW_none, errW_some] <;> rfl)) | (simp [*, errW_none, errW_some] <;> rfl), by repeat (first | (with_reducible first | exact HB.out | apply below_alloc | apply pw_below_drewN | apply below_drew1 | refine below_set ?_ GE117.out) | exact HB.out)⟩
            ·rw [if_neg c18] at H
             have c18b0 : (((rd_T31 l0 x5_2).f0).toList == ((rd_T31 l0 (ji3)).f0).toList) = false := beq_eq_false_iff_ne.mpr c18
             have c18b1 : (((rd_T31 l0 x5_2).f0).toList != ((rd_T31 l0 (ji3)).f0).toList) = true := bne_iff_ne.mpr c18
             have H' := Aside0.mk H
             clear H
             have p118 : 0 ≤ (x5_2 : Int) := of_decide_eq_true (by first | (with_reducible assumption) | assumption)
             have q118 : x5_2 < (l0.length : Int) := of_decide_eq_true (by first | (with_reducible assumption) | assumption)
             obtain ⟨ad118, e118, hx118_0, hx118_1, hx118_2, hx118_3, hx118_4⟩ := at_T31 HR0.out x5_2 p118 q118
             obtain rfl : ad116 = ad118 := (by injection e118)
             replace hx118_0 := (HB.out.cell (World.block_lt_of_cell? w _ hx118_0)).trans hx118_0
             replace hx118_1 := (HB.out.cell (World.block_lt_of_cell? w _ hx118_1)).trans hx118_1
             replace hx118_2 := (HB.out.cell (World.block_lt_of_cell? w _ hx118_2)).trans hx118_2
             replace hx118_3 := (HB.out.cell (World.block_lt_of_cell? w _ hx118_3)).trans hx118_3
             replace hx118_4 := (HB.out.cell (World.block_lt_of_cell? w _ hx118_4)).trans hx118_4
             replace p118 := eq_true p118
             replace q118 := eq_true q118
             have hcz20_0 : wr.cell? ⟨gb117, 0, none⟩ = some (.string ((rd_T31 l0 (ji3)).f0)) := (blk_cell BK117.out 0).trans rfl
             have hcz20_1 : wr.cell? ⟨gb117, 1, none⟩ = some (.string ((rd_T31 l0 (ji3)).f1)) := (blk_cell BK117.out 1).trans rfl
             have hcz20_2 : wr.cell? ⟨gb117, 2, none⟩ = some (.string ((rd_T31 l0 (ji3)).f2)) := (blk_cell BK117.out 2).trans rfl
             have hcz20_3 : wr.cell? ⟨gb117, 3, none⟩ = some (.string ((rd_T31 l0 (ji3)).f3)) := (blk_cell BK117.out 3).trans rfl
             have hcz20_4 : wr.cell? ⟨gb117, 4, none⟩ = some (.string ((rd_T31 l0 (ji3)).f4)) := (blk_cell BK117.out 4).trans rfl
             have hfz20_0 := blk_frozen BK117.out 0
             have hfz20_1 := blk_frozen BK117.out 1
             have hfz20_2 := blk_frozen BK117.out 2
             have hfz20_3 := blk_frozen BK117.out 3
             have hfz20_4 := blk_frozen BK117.out 4
             go_wp2
             repeat (go_quiet (fail); try go_wp2)
             go_roundg k2
             case measure => have := HJ5.out; have := HK2.out; omega
             case rel => exact ⟨(wrap64 (x5_2 + 1)), (by first | rfl | (simp; done) | (simp [*]; done) | (simp; exact (fun l_ : List UInt8 => by cases l_ <;> rfl : ∀ l_ : List UInt8, l_.isEmpty = !(l_ != [])) _)), H', ⟨by have := HJ5.out; have := HK2.out; omega⟩, ⟨by (with_reducible repeat (first | refine blk_drewN ?_ _ | refine blk_drew ?_ | refine blk_alloc ?_ _)); exact BK117.out⟩, ⟨by repeat (first | (with_reducible first | exact HB.out | apply below_alloc | apply pw_below_drewN | apply below_drew1 | refine below_set ?_ GE117.out) | exact HB.out)⟩⟩
           ·rw [if_neg c17] at H
            exact absurd H (by simp)
          ·rw [if_neg c16] at H
           exact absurd H (by simp)
         ·rw [if_neg c15] at H
          have c15b0 : decide (x5_2 < ji3) = false := decide_eq_false c15
          clear c15
          obtain rfl := Option.some.inj H
          go_wp2
          repeat (go_quiet (fail); try go_wp2)
          go_ret
          exact ⟨by first | rfl | (simp [errW_none, errW_some] <;> rfl) | (simp only [← hji3]; first | rfl | (simp [errW_none, errW_some] <;> rfl)) | (simp [*, errW_none, errW_some] <;> rfl), by repeat (first | (with_reducible first | exact HB.out | apply below_alloc | apply pw_below_drewN | apply below_drew1 | refine below_set ?_ GE117.out) | exact HB.out)⟩
   ·rw [if_neg c5] at H
    exact absurd H (by simp)
  ·rw [if_neg c4] at H
   exact absurd H (by simp)
end Go.Proofs.YtljfcdfdedkajaaDoor.Q
