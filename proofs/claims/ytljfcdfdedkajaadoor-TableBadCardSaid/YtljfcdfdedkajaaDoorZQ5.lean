import Derived.Test.YtljfcdfdedkajaaDoorZQ2g
namespace Go.Proofs.YtljfcdfdedkajaaDoor.Q
open Go.RowKit Go.Proofs.YtljfcdfdedkajaaDoorW.PrintWords Go.Proofs.YtljfcdfdedkajaaDoorW.PrintLast Go.Proofs.YtljfcdfdedkajaaDoorW.PrintMore
attribute [local go_sem] max2_int min2_int max_two min_two max_three min_three max_four min_four
set_option linter.unusedVariables false
set_option linter.unusedSimpArgs false
mutual
def transhumanceref1_Place.l0 : Nat → ByteArray → Int → Int → Int → Int → Option (Int × Int)
 | 0, _, _, _, _, _ => none
 | k + 1, x0, x1, x6, x104000, x104001 => if x6 < (x0.size : Int) then (transhumanceref1_Place.j1 k x0 x1 x6 (decide (x6 < x1)) x104000 x104001) else (transhumanceref1_Place.j1 k x0 x1 x6 false x104000 x104001)
def transhumanceref1_Place.j1 : Nat → ByteArray → Int → Int → Bool → Int → Int → Option (Int × Int)
 | 0, _, _, _, _, _, _ => none
 | k + 1, x0, x1, x6, x16, x104000, x104001 => if x16 = true then (if 0 ≤ x6 then (if x6 < (x0.size : Int) then (if (bt x0 x6) = 10 then (transhumanceref1_Place.l0 k x0 x1 (wrap64 (x6 + 1)) (wrap64 (x104000 + 1)) 1) else (transhumanceref1_Place.l0 k x0 x1 (wrap64 (x6 + 1)) x104000 (wrap64 (x104001 + 1)))) else (none)) else (none)) else (some (x104000, x104001))
end
def transhumanceref1_Place.f (k : Nat) (a0 : ByteArray) (a1 : Int) : Option (Int × Int) := transhumanceref1_Place.l0 k a0 a1 0 1 1
set_option maxHeartbeats 8000000 in
set_option maxRecDepth 100000 in
theorem transhumanceref1_Place.calls (k : Nat) (a0 : ByteArray) (a1 : Int) (r1 : Int) (r2 : Int) (w : World) (h : transhumanceref1_Place.f k a0 a1 = some (r1, r2)) :
  Calls Tryd.prog 15 #[.string a0, .int .i64 a1] w fun e w' => e = .returned (.agg #[.int .i64 r1, .int .i64 r2]) ∧ Below w.heap.size w w' := by
 have hu35 := Tryd.underlying35
 have HB := Aside0.mk (Below.refl w.heap.size w)
 have H : (transhumanceref1_Place.l0 k a0 a1 0 1 1) = some (r1, r2) := h
 clear h
 have H' := Aside0.mk H
 clear H
 go_enter Tryd.func15, Tryd.ntmps15
 go_wp2_with (first | ((with_reducible refine gate_dst (N := 4) rfl ?_); refine box_event ?hg (N := 4) ?hd (cs := #[.int .i64 0, .int .i64 0]) (t := 35) ?hr ?_; (case hd => rfl); (case hg => rfl); (case hr => first | (go_simp; done) | (go_simp; rfl)); intro gb102 hg w3 hbox hb; have n0_ := Aside0.mk (below_step (by repeat (first | (with_reducible first | exact HB.out | apply below_alloc | apply pw_below_drewN | apply below_drew1) | exact HB.out)) hb); have n1_ := Aside0.mk (hbox); have n2_ := Aside0.mk ((by rw [hg]; exact (below_size (by repeat (first | (with_reducible first | exact HB.out | apply below_alloc | apply pw_below_drewN | apply below_drew1) | exact HB.out))) : w.heap.size ≤ gb102)); have n3_ := Aside0.mk ((by rw [hg]; exact (below_size (by repeat (first | (with_reducible first | exact HB.out | apply below_alloc | apply pw_below_drewN | apply below_drew1) | exact HB.out))) : w.heap.size ≤ gb102)); clear HB; have HB := n0_; have BK102 := n1_; have GW102 := n2_; have GE102 := n3_; clear n0_ n1_ n2_ n3_; clear hb hbox hg) | ((with_reducible refine gate_dst (N := 5) rfl ?_); refine box_event ?hg (N := 5) ?hd (cs := #[.int .i64 0, .int .i64 0]) (t := 35) ?hr ?_; (case hd => rfl); (case hg => rfl); (case hr => first | (go_simp; done) | (go_simp; rfl)); intro gb103 hg w4 hbox hb; have n0_ := Aside0.mk (blk_below (g := gb102) (o := .cells #[.int .i64 0, .int .i64 0] 35 (0, 0)) (by (with_reducible repeat (first | refine blk_drewN ?_ _ | refine blk_drew ?_ | refine blk_alloc ?_ _)); exact BK102.out) hb); have n1_ := Aside0.mk (below_step (by repeat (first | (with_reducible first | exact HB.out | apply below_alloc | apply pw_below_drewN | apply below_drew1 | refine below_set ?_ GE102.out) | exact HB.out)) hb); have n2_ := Aside0.mk (hbox); have n3_ := Aside0.mk ((by rw [hg]; exact (below_size (by repeat (first | (with_reducible first | exact HB.out | apply below_alloc | apply pw_below_drewN | apply below_drew1 | refine below_set ?_ GE102.out) | exact HB.out))) : w.heap.size ≤ gb103)); have n4_ := Aside0.mk ((by rw [hg]; exact (below_size (by repeat (first | (with_reducible first | exact HB.out | apply below_alloc | apply pw_below_drewN | apply below_drew1 | refine below_set ?_ GE102.out) | exact HB.out))) : w.heap.size ≤ gb103)); have n5_ := Aside0.mk ((by rw [hg]; exact Nat.ne_of_lt (blk_lt (g := gb102) (o := .cells #[.int .i64 0, .int .i64 0] 35 (0, 0)) (by (with_reducible repeat (first | refine blk_drewN ?_ _ | refine blk_drew ?_ | refine blk_alloc ?_ _)); exact BK102.out)) : gb102 ≠ gb103)); have n6_ := Aside0.mk ((by rw [hg]; exact Nat.ne_of_gt (blk_lt (g := gb102) (o := .cells #[.int .i64 0, .int .i64 0] 35 (0, 0)) (by (with_reducible repeat (first | refine blk_drewN ?_ _ | refine blk_drew ?_ | refine blk_alloc ?_ _)); exact BK102.out)) : gb103 ≠ gb102)); clear BK102; clear HB; have BK102 := n0_; have HB := n1_; have BK103 := n2_; have GW103 := n3_; have GE103 := n4_; have NB102_103 := n5_; have NB103_102 := n6_; clear n0_ n1_ n2_ n3_ n4_ n5_ n6_; clear hb hbox hg; have hnb5 := NB103_102.out; have hnc5 := NB102_103.out; have hcz6_0 : w4.cell? ⟨gb103, 0, none⟩ = some (.int .i64 0) := (blk_cell BK103.out 0).trans rfl; have hcz6_1 : w4.cell? ⟨gb103, 1, none⟩ = some (.int .i64 0) := (blk_cell BK103.out 1).trans rfl; have hfz6_0 := blk_frozen BK103.out 0; have hfz6_1 := blk_frozen BK103.out 1))
 go_loopg [6] k (fun kq v6 w' => ∃ (x6_1 : Int) (x104000_1 : Int) (x104001_1 : Int), v6 = .int .i64 x6_1 ∧ Aside0 (transhumanceref1_Place.l0 kq a0 a1 x6_1 x104000_1 x104001_1 = some (r1, r2)) ∧ Aside0 (kq ≤ k) ∧ Aside0 (w'.heap[gb102]? = some (.cells #[.int .i64 0, .int .i64 0] 35 (0, 0))) ∧ Aside0 (w'.heap[gb103]? = some (.cells #[.int .i64 x104000_1, .int .i64 x104001_1] 35 (0, 0))) ∧ Aside0 (Below w.heap.size w w'))
 case atStart => exact ⟨(0), (1), (1), (by first | rfl | (simp; done) | (simp [*]; done) | (simp; exact (fun l_ : List UInt8 => by cases l_ <;> rfl : ∀ l_ : List UInt8, l_.isEmpty = !(l_ != [])) _)), H', ⟨Nat.le_refl _⟩, ⟨by (with_reducible repeat (first | refine blk_drewN ?_ _ | refine blk_drew ?_ | refine blk_alloc ?_ _)); refine blk_far ?_ NB102_103.out _; (with_reducible repeat (first | refine blk_drewN ?_ _ | refine blk_drew ?_ | refine blk_alloc ?_ _)); refine blk_far ?_ NB102_103.out _; (with_reducible repeat (first | refine blk_drewN ?_ _ | refine blk_drew ?_ | refine blk_alloc ?_ _)); exact BK102.out⟩, ⟨by (with_reducible repeat (first | refine blk_drewN ?_ _ | refine blk_drew ?_ | refine blk_alloc ?_ _)); refine blk_put (cs := #[.int .i64 1, .int .i64 0]) ?_ 1 _ rfl; (with_reducible repeat (first | refine blk_drewN ?_ _ | refine blk_drew ?_ | refine blk_alloc ?_ _)); refine blk_put (cs := #[.int .i64 0, .int .i64 0]) ?_ 0 _ rfl; (with_reducible repeat (first | refine blk_drewN ?_ _ | refine blk_drew ?_ | refine blk_alloc ?_ _)); exact BK103.out⟩, ⟨by repeat (first | (with_reducible first | exact HB.out | apply below_alloc | apply pw_below_drewN | apply below_drew1 | refine below_set ?_ GE102.out | refine below_set ?_ GE103.out) | exact HB.out)⟩⟩
 case round =>
  clear H'
  try clear c1
  try clear p2
  try clear c5
  try clear hcz6_0
  try clear hcz6_1
  try clear hfz6_0
  try clear hfz6_1
  obtain ⟨x6_1, x104000_1, x104001_1, rfl, HA, HK1, BK102, BK103, HB⟩ := hrel
  cases gk with
  | zero => exact absurd HA.out (by simp [transhumanceref1_Place.l0])
  | succ k1 =>
   have H := HA.out
   clear HA
   simp only [transhumanceref1_Place.l0] at H
   have HC7 := Aside0.mk H
   clear H
   go_upto_region 3 with (fail)
   go_cut [16] (fun v16 wc => ∃ (kq : Nat) (x16_6 : Bool), v16 = .bool x16_6 ∧ Aside0 (transhumanceref1_Place.j1 kq a0 a1 x6_1 x16_6 x104000_1 x104001_1 = some (r1, r2)) ∧ Aside0 (kq ≤ k1) ∧ Aside0 (wc.heap[gb102]? = some (.cells #[.int .i64 0, .int .i64 0] 35 (0, 0))) ∧ Aside0 (wc.heap[gb103]? = some (.cells #[.int .i64 x104000_1, .int .i64 x104001_1] 35 (0, 0))) ∧ Aside0 (Below w.heap.size w wc))
   case first =>
    have H := HC7.out
    clear HC7
    by_cases c8 : x6_1 < (a0.size : Int)
    ·rw [if_pos c8] at H
     have c8b0 : decide (x6_1 < (a0.size : Int)) = true := decide_eq_true c8
     clear c8
     (first | rw [c8b0] | (simp only [i64_w, i32_w]; rw [c8b0]) | skip)
     have H' := Aside0.mk H
     clear H
     go_wp2
     go_meet
     case rel => exact ⟨_, (decide (x6_1 < a1)), (by first | rfl | (simp; done) | (simp [*]; done) | (simp; exact (fun l_ : List UInt8 => by cases l_ <;> rfl : ∀ l_ : List UInt8, l_.isEmpty = !(l_ != [])) _)), H', ⟨by have := HK1.out; first | omega | exact Nat.le_refl _⟩, ⟨by (with_reducible repeat (first | refine blk_drewN ?_ _ | refine blk_drew ?_ | refine blk_alloc ?_ _)); exact BK102.out⟩, ⟨by (with_reducible repeat (first | refine blk_drewN ?_ _ | refine blk_drew ?_ | refine blk_alloc ?_ _)); exact BK103.out⟩, ⟨by repeat (first | (with_reducible first | exact HB.out | apply below_alloc | apply pw_below_drewN | apply below_drew1 | refine below_set ?_ GE102.out | refine below_set ?_ GE103.out) | exact HB.out)⟩⟩
    ·rw [if_neg c8] at H
     have c8b0 : decide (x6_1 < (a0.size : Int)) = false := decide_eq_false c8
     clear c8
     (first | rw [c8b0] | (simp only [i64_w, i32_w]; rw [c8b0]) | skip)
     have H' := Aside0.mk H
     clear H
     go_wp2
     go_meet
     case rel => exact ⟨_, (false), (by first | rfl | (simp; done) | (simp [*]; done) | (simp; exact (fun l_ : List UInt8 => by cases l_ <;> rfl : ∀ l_ : List UInt8, l_.isEmpty = !(l_ != [])) _)), H', ⟨by have := HK1.out; first | omega | exact Nat.le_refl _⟩, ⟨by (with_reducible repeat (first | refine blk_drewN ?_ _ | refine blk_drew ?_ | refine blk_alloc ?_ _)); exact BK102.out⟩, ⟨by (with_reducible repeat (first | refine blk_drewN ?_ _ | refine blk_drew ?_ | refine blk_alloc ?_ _)); exact BK103.out⟩, ⟨by repeat (first | (with_reducible first | exact HB.out | apply below_alloc | apply pw_below_drewN | apply below_drew1 | refine below_set ?_ GE102.out | refine below_set ?_ GE103.out) | exact HB.out)⟩⟩
   case rest =>
    clear HC7
    try clear c1
    try clear p2
    try clear c5
    try clear c8
    try clear c8b0
    try clear hcz6_0
    try clear hcz6_1
    try clear hfz6_0
    try clear hfz6_1
    try clear p2
    obtain ⟨kq, x16_6, rfl, HA, HJ6, BK102, BK103, HB⟩ := hcut
    cases kq with
    | zero => exact absurd HA.out (by simp [transhumanceref1_Place.j1])
    | succ kj6 =>
     have H := HA.out
     clear HA
     simp only [transhumanceref1_Place.j1] at H
     by_cases c9 : x16_6 = true
     ·subst c9
      have H1 : (if 0 ≤ x6_1 then (if x6_1 < (a0.size : Int) then (if (bt a0 x6_1) = 10 then (transhumanceref1_Place.l0 kj6 a0 a1 (wrap64 (x6_1 + 1)) (wrap64 (x104000_1 + 1)) 1) else (transhumanceref1_Place.l0 kj6 a0 a1 (wrap64 (x6_1 + 1)) x104000_1 (wrap64 (x104001_1 + 1)))) else (none)) else (none)) = some (r1, r2) := by rw [if_pos rfl] at H; exact H
      clear H
      have H := H1
      clear H1
      by_cases c10 : 0 ≤ x6_1
      ·rw [if_pos c10] at H
       have c10b0 : decide (0 ≤ x6_1) = true := decide_eq_true c10
       clear c10
       by_cases c11 : x6_1 < (a0.size : Int)
       ·rw [if_pos c11] at H
        have c11b0 : decide (x6_1 < (a0.size : Int)) = true := decide_eq_true c11
        clear c11
        by_cases c13 : (bt a0 x6_1) = 10
        ·rw [if_pos c13] at H
         have c13b0 : ((bt a0 x6_1) == 10) = true := beq_iff_eq.mpr c13
         have c13b1 : ((bt a0 x6_1) != 10) = false := bne_eq_false_iff_eq.mpr c13
         clear c13
         have H' := Aside0.mk H
         clear H
         have hnb14 := NB103_102.out
         have hnc14 := NB102_103.out
         have hcz15_0 : wc.cell? ⟨gb103, 0, none⟩ = some (.int .i64 x104000_1) := (blk_cell BK103.out 0).trans rfl
         have hcz15_1 : wc.cell? ⟨gb103, 1, none⟩ = some (.int .i64 x104001_1) := (blk_cell BK103.out 1).trans rfl
         have hfz15_0 := blk_frozen BK103.out 0
         have hfz15_1 := blk_frozen BK103.out 1
         have p12 : 0 ≤ (x6_1 : Int) := of_decide_eq_true (by first | (with_reducible assumption) | assumption)
         have q12 : x6_1 < (a0.size : Int) := of_decide_eq_true (by first | (with_reducible assumption) | assumption)
         have hx12 := bt_at a0 x6_1
         replace p12 := eq_true p12
         replace q12 := eq_true q12
         go_wp2
         go_roundg kj6
         case measure => have := HK1.out; have := HJ6.out; omega
         case rel => exact ⟨(wrap64 (x6_1 + 1)), (wrap64 (x104000_1 + 1)), (1), (by first | rfl | (simp; done) | (simp [*]; done) | (simp; exact (fun l_ : List UInt8 => by cases l_ <;> rfl : ∀ l_ : List UInt8, l_.isEmpty = !(l_ != [])) _)), H', ⟨by have := HK1.out; have := HJ6.out; omega⟩, ⟨by (with_reducible repeat (first | refine blk_drewN ?_ _ | refine blk_drew ?_ | refine blk_alloc ?_ _)); refine blk_far ?_ NB102_103.out _; (with_reducible repeat (first | refine blk_drewN ?_ _ | refine blk_drew ?_ | refine blk_alloc ?_ _)); refine blk_far ?_ NB102_103.out _; (with_reducible repeat (first | refine blk_drewN ?_ _ | refine blk_drew ?_ | refine blk_alloc ?_ _)); refine blk_far ?_ NB102_103.out _; (with_reducible repeat (first | refine blk_drewN ?_ _ | refine blk_drew ?_ | refine blk_alloc ?_ _)); exact BK102.out⟩, ⟨by (with_reducible repeat (first | refine blk_drewN ?_ _ | refine blk_drew ?_ | refine blk_alloc ?_ _)); refine blk_put (cs := #[.int .i64 (wrap64 (x104000_1 + 1)), .int .i64 (wrap64 (x104001_1 + 1))]) ?_ 1 _ rfl; (with_reducible repeat (first | refine blk_drewN ?_ _ | refine blk_drew ?_ | refine blk_alloc ?_ _)); refine blk_put (cs := #[.int .i64 x104000_1, .int .i64 (wrap64 (x104001_1 + 1))]) ?_ 0 _ rfl; (with_reducible repeat (first | refine blk_drewN ?_ _ | refine blk_drew ?_ | refine blk_alloc ?_ _)); refine blk_put (cs := #[.int .i64 x104000_1, .int .i64 x104001_1]) ?_ 1 _ rfl; (with_reducible repeat (first | refine blk_drewN ?_ _ | refine blk_drew ?_ | refine blk_alloc ?_ _)); exact BK103.out⟩, ⟨by repeat (first | (with_reducible first | exact HB.out | apply below_alloc | apply pw_below_drewN | apply below_drew1 | refine below_set ?_ GE102.out | refine below_set ?_ GE103.out) | exact HB.out)⟩⟩
        ·rw [if_neg c13] at H
         have c13b0 : ((bt a0 x6_1) == 10) = false := beq_eq_false_iff_ne.mpr c13
         have c13b1 : ((bt a0 x6_1) != 10) = true := bne_iff_ne.mpr c13
         have H' := Aside0.mk H
         clear H
         have hnb16 := NB103_102.out
         have hnc16 := NB102_103.out
         have hcz17_0 : wc.cell? ⟨gb103, 0, none⟩ = some (.int .i64 x104000_1) := (blk_cell BK103.out 0).trans rfl
         have hcz17_1 : wc.cell? ⟨gb103, 1, none⟩ = some (.int .i64 x104001_1) := (blk_cell BK103.out 1).trans rfl
         have hfz17_0 := blk_frozen BK103.out 0
         have hfz17_1 := blk_frozen BK103.out 1
         have p12 : 0 ≤ (x6_1 : Int) := of_decide_eq_true (by first | (with_reducible assumption) | assumption)
         have q12 : x6_1 < (a0.size : Int) := of_decide_eq_true (by first | (with_reducible assumption) | assumption)
         have hx12 := bt_at a0 x6_1
         replace p12 := eq_true p12
         replace q12 := eq_true q12
         go_wp2
         go_roundg kj6
         case measure => have := HK1.out; have := HJ6.out; omega
         case rel => exact ⟨(wrap64 (x6_1 + 1)), (x104000_1), (wrap64 (x104001_1 + 1)), (by first | rfl | (simp; done) | (simp [*]; done) | (simp; exact (fun l_ : List UInt8 => by cases l_ <;> rfl : ∀ l_ : List UInt8, l_.isEmpty = !(l_ != [])) _)), H', ⟨by have := HK1.out; have := HJ6.out; omega⟩, ⟨by (with_reducible repeat (first | refine blk_drewN ?_ _ | refine blk_drew ?_ | refine blk_alloc ?_ _)); refine blk_far ?_ NB102_103.out _; (with_reducible repeat (first | refine blk_drewN ?_ _ | refine blk_drew ?_ | refine blk_alloc ?_ _)); exact BK102.out⟩, ⟨by (with_reducible repeat (first | refine blk_drewN ?_ _ | refine blk_drew ?_ | refine blk_alloc ?_ _)); refine blk_put (cs := #[.int .i64 x104000_1, .int .i64 x104001_1]) ?_ 1 _ rfl; (with_reducible repeat (first | refine blk_drewN ?_ _ | refine blk_drew ?_ | refine blk_alloc ?_ _)); exact BK103.out⟩, ⟨by repeat (first | (with_reducible first | exact HB.out | apply below_alloc | apply pw_below_drewN | apply below_drew1 | refine below_set ?_ GE102.out | refine below_set ?_ GE103.out) | exact HB.out)⟩⟩
       ·rw [if_neg c11] at H
        exact absurd H (by simp)
      ·rw [if_neg c10] at H
       exact absurd H (by simp)
     ·replace c9 := Bool.eq_false_iff.mpr c9
      subst c9
      have H1 : (some (x104000_1, x104001_1)) = some (r1, r2) := by rw [if_neg (show ¬ (false = true) by decide)] at H; exact H
      clear H
      have H := H1
      clear H1
      simp only [Option.some.injEq, Prod.mk.injEq] at H
      obtain ⟨rfl, rfl⟩ := H
      have hnb18 := NB103_102.out
      have hnc18 := NB102_103.out
      have hcz19_0 : wc.cell? ⟨gb103, 0, none⟩ = some (.int .i64 x104000_1) := (blk_cell BK103.out 0).trans rfl
      have hcz19_1 : wc.cell? ⟨gb103, 1, none⟩ = some (.int .i64 x104001_1) := (blk_cell BK103.out 1).trans rfl
      have hfz19_0 := blk_frozen BK103.out 0
      have hfz19_1 := blk_frozen BK103.out 1
      have hcz20_0 : wc.cell? ⟨gb102, 0, none⟩ = some (.int .i64 0) := (blk_cell BK102.out 0).trans rfl
      have hcz20_1 : wc.cell? ⟨gb102, 1, none⟩ = some (.int .i64 0) := (blk_cell BK102.out 1).trans rfl
      have hfz20_0 := blk_frozen BK102.out 0
      have hfz20_1 := blk_frozen BK102.out 1
      go_wp2
      refine bodyPost_ret (results_cell_row rfl _ _ gb102 35 #[.int .i64 x104000_1, .int .i64 x104001_1] (0, 0) _ rfl (by (with_reducible repeat (first | refine blk_drewN ?_ _ | refine blk_drew ?_ | refine blk_alloc ?_ _)); refine blk_put (cs := #[.int .i64 x104000_1, .int .i64 0]) ?_ 1 _ rfl; (with_reducible repeat (first | refine blk_drewN ?_ _ | refine blk_drew ?_ | refine blk_alloc ?_ _)); refine blk_put (cs := #[.int .i64 0, .int .i64 0]) ?_ 0 _ rfl; (with_reducible repeat (first | refine blk_drewN ?_ _ | refine blk_drew ?_ | refine blk_alloc ?_ _)); exact BK102.out) Tryd.underlying35 rfl (by kernel_rfl)) rfl ?_
      exact ⟨by first | rfl | (simp [errW_none, errW_some] <;> rfl) | (simp [*, errW_none, errW_some] <;> rfl), by repeat (first | (with_reducible first | exact HB.out | apply below_alloc | apply pw_below_drewN | apply below_drew1 | refine below_set ?_ GE102.out | refine below_set ?_ GE103.out) | exact HB.out)⟩
def transhumanceref4_words.l0 : Nat → ByteArray → List ByteArray → Int → Int → Option (List ByteArray)
 | 0, _, _, _, _ => none
 | k + 1, x0, x3, x4, x5 => if x5 ≤ (x0.size : Int) then (if x5 = (x0.size : Int) then (if 0 ≤ x4 then (if x4 ≤ x5 then (if x3.length < 8796093022208 then (transhumanceref4_words.l0 k x0 (x3 ++ [x0.extract (x4 : Int).toNat (x5 : Int).toNat]) (wrap64 (x5 + 1)) (wrap64 (x5 + 1))) else (none)) else (none)) else (none)) else (if 0 ≤ x5 then (if x5 < (x0.size : Int) then (if (bt x0 x5) = 47 then (if 0 ≤ x4 then (if x4 ≤ x5 then (if x3.length < 8796093022208 then (transhumanceref4_words.l0 k x0 (x3 ++ [x0.extract (x4 : Int).toNat (x5 : Int).toNat]) (wrap64 (x5 + 1)) (wrap64 (x5 + 1))) else (none)) else (none)) else (none)) else (transhumanceref4_words.l0 k x0 x3 x4 (wrap64 (x5 + 1)))) else (none)) else (none))) else (some x3)
def transhumanceref4_words.f (k : Nat) (a0 : ByteArray) : Option (List ByteArray) := transhumanceref4_words.l0 k a0 ([] : List ByteArray) 0 0
set_option maxHeartbeats 8000000 in
set_option maxRecDepth 100000 in
theorem transhumanceref4_words.calls (k : Nat) (a0 : ByteArray) (r : List ByteArray) (w : World) (h : transhumanceref4_words.f k a0 = some r) :
  Calls Tryd.prog 82 #[.string a0] w fun e w' => ∃ v0_ : Value, e = .returned (v0_) ∧ Kd.R Kd.string 9 w' w.heap.size (fun _ => True) v0_ r ∧ Below w.heap.size w w' := by
 have HB := Aside0.mk (Below.refl w.heap.size w)
 have H : (transhumanceref4_words.l0 k a0 ([] : List ByteArray) 0 0) = some r := h
 clear h
 have H' := Aside0.mk H
 clear H
 go_enter Tryd.func82, Tryd.ntmps82
 go_wp2
 go_loopg [3, 4, 5] k (fun kq v3 v4 v5 w' => ∃ (x3_1 : List ByteArray) (x4_1 : Int) (x5_1 : Int), v4 = .int .i64 x4_1 ∧ v5 = .int .i64 x5_1 ∧ Aside0 (transhumanceref4_words.l0 kq a0 x3_1 x4_1 x5_1 = some r) ∧ Aside0 (kq ≤ k) ∧ Aside0 (Kd.R Kd.string 9 w' w.heap.size (fun _ => True) v3 x3_1) ∧ Aside0 (Below w.heap.size w w'))
 case atStart => exact ⟨(([] : List ByteArray)), (0), (0), (by first | rfl | (simp; done) | (simp [*]; done) | (simp; exact (fun l_ : List UInt8 => by cases l_ <;> rfl : ∀ l_ : List UInt8, l_.isEmpty = !(l_ != [])) _)), (by first | rfl | (simp; done) | (simp [*]; done) | (simp; exact (fun l_ : List UInt8 => by cases l_ <;> rfl : ∀ l_ : List UInt8, l_.isEmpty = !(l_ != [])) _)), H', ⟨Nat.le_refl _⟩, ⟨by first | exact Kd.R_nil _ _ _ _ _ | exact Kd.N_nil _ _ _ _ _ | exact Kd.V_nil _ _ _ _ _ | exact Kd.Q_nil _ _ _ _ _ | exact Kd.S_nil _ _ _ _ _⟩, ⟨by repeat (first | (with_reducible first | exact HB.out | apply below_alloc | apply pw_below_drewN | apply below_drew1) | exact HB.out)⟩⟩
 case round =>
  clear H'
  obtain ⟨x3_1, x4_1, x5_1, rfl, rfl, HA, HK1, HO_3, HB⟩ := hrel
  cases gk with
  | zero => exact absurd HA.out (by simp [transhumanceref4_words.l0])
  | succ k1 =>
   have H := HA.out
   clear HA
   simp only [transhumanceref4_words.l0] at H
   by_cases c2 : x5_1 ≤ (a0.size : Int)
   ·rw [if_pos c2] at H
    have c2b0 : decide (x5_1 ≤ (a0.size : Int)) = true := decide_eq_true c2
    clear c2
    by_cases c3 : x5_1 = (a0.size : Int)
    ·rw [if_pos c3] at H
     have c3b0 : (x5_1 == (a0.size : Int)) = true := beq_iff_eq.mpr c3
     have c3b1 : (x5_1 != (a0.size : Int)) = false := bne_eq_false_iff_eq.mpr c3
     clear c3
     by_cases c4 : 0 ≤ x4_1
     ·rw [if_pos c4] at H
      have c4b0 := eq_true c4
      have c4b1 : decide (0 ≤ x4_1) = true := decide_eq_true c4
      clear c4
      by_cases c5 : x4_1 ≤ x5_1
      ·rw [if_pos c5] at H
       have c5b0 := eq_true c5
       have c5b1 : decide (x4_1 ≤ x5_1) = true := decide_eq_true c5
       clear c5
       have c6b0 := eq_true (of_decide_eq_true (by first | (with_reducible assumption) | assumption) : x5_1 ≤ (a0.size : Int))
       by_cases c7 : x3_1.length < 8796093022208
       ·rw [if_pos c7] at H
        have LMc7 := Aside0.mk c7
        clear c7
        obtain ⟨y104, hy104⟩ : ∃ y_ : List ByteArray, y_ = (x3_1 ++ [a0.extract (x4_1 : Int).toNat (x5_1 : Int).toNat]) := ⟨_, rfl⟩
        replace H : (transhumanceref4_words.l0 k1 a0 y104 (wrap64 (x5_1 + 1)) (wrap64 (x5_1 + 1))) = some r := by first | (rw [hy104]; with_reducible exact H) | (have H2_ := (Option.bind_some _ _).symm.trans H; rw [hy104]; with_reducible exact H2_) | (have H2_ := (Option.bind_some _ _).symm.trans H; with_reducible exact H2_) | with_reducible exact H | (rw [hy104]; exact H) | exact H
        have Ny104 := Aside0.mk hy104
        clear hy104
        have H' := Aside0.mk H
        clear H
        go_wp2_with (first | ((with_reducible refine gate_builtin (b := .append) (xs := #[.tmp 22, .tmp 27]) rfl ?_); at_builtin; refine Kd.R_append Kd.string (w0 := w) w.heap.size rfl (.tmp 22) (.tmp 27) 27 9 (.string ⟨#[]⟩) 16 rfl Tryd.underlying27 info9 rfl (by decide) (by omega) u3 x3_1 (a0.extract (x4_1 : Int).toNat (x5_1 : Int).toNat) [.string (a0.extract (x4_1 : Int).toNat (x5_1 : Int).toNat)] (fun _ => True) (fun _ => False) rfl rfl ?aP (fun _ hk => hk.elim) ?aF ?aO ?aB ?aS ?aL ?_; (case aP => exact rfl); (case aB => exact (by repeat (first | (with_reducible first | exact HB.out | apply below_alloc | apply pw_below_drewN | apply below_drew1) | exact HB.out))); (case aF => exact (fun _ _ => trivial)); (case aO => exact (by (with_reducible repeat (first | apply Kd.R_alloc | apply Kd.R_drewN | apply Kd.R_drew)); exact HO_3.out)); (case aS => exact (below_size (by repeat (first | (with_reducible first | exact HB.out | apply below_alloc | apply pw_below_drewN | apply below_drew1) | exact HB.out)))); (case aL => have := LMc7.out; omega); intro v105 w8 ho hb hg hat; rw [← Ny104.out] at ho; have n0_ := Aside0.mk (hb); have n1_ := Aside0.mk (ho); clear HB; clear HO_3; have HB := n0_; have HO106 := n1_; clear n0_ n1_; clear ho hb hg hat))
        go_roundg k1
        case measure => have := HK1.out; omega
        case rel => exact ⟨(y104), (wrap64 (x5_1 + 1)), (wrap64 (x5_1 + 1)), (by first | rfl | (simp; done) | (simp [*]; done) | (simp; exact (fun l_ : List UInt8 => by cases l_ <;> rfl : ∀ l_ : List UInt8, l_.isEmpty = !(l_ != [])) _)), (by first | rfl | (simp; done) | (simp [*]; done) | (simp; exact (fun l_ : List UInt8 => by cases l_ <;> rfl : ∀ l_ : List UInt8, l_.isEmpty = !(l_ != [])) _)), H', ⟨by have := HK1.out; omega⟩, ⟨by (with_reducible repeat (first | apply Kd.R_alloc | apply Kd.R_drewN | apply Kd.R_drew)); exact HO106.out⟩, ⟨by repeat (first | (with_reducible first | exact HB.out | apply below_alloc | apply pw_below_drewN | apply below_drew1) | exact HB.out)⟩⟩
       ·rw [if_neg c7] at H
        exact absurd H (by simp)
      ·rw [if_neg c5] at H
       exact absurd H (by simp)
     ·rw [if_neg c4] at H
      exact absurd H (by simp)
    ·rw [if_neg c3] at H
     have c3b0 : (x5_1 == (a0.size : Int)) = false := beq_eq_false_iff_ne.mpr c3
     have c3b1 : (x5_1 != (a0.size : Int)) = true := bne_iff_ne.mpr c3
     by_cases c9 : 0 ≤ x5_1
     ·rw [if_pos c9] at H
      have c9b0 : decide (0 ≤ x5_1) = true := decide_eq_true c9
      clear c9
      by_cases c10 : x5_1 < (a0.size : Int)
      ·rw [if_pos c10] at H
       have c10b0 : decide (x5_1 < (a0.size : Int)) = true := decide_eq_true c10
       clear c10
       by_cases c12 : (bt a0 x5_1) = 47
       ·rw [if_pos c12] at H
        have c12b0 : ((bt a0 x5_1) == 47) = true := beq_iff_eq.mpr c12
        have c12b1 : ((bt a0 x5_1) != 47) = false := bne_eq_false_iff_eq.mpr c12
        clear c12
        by_cases c13 : 0 ≤ x4_1
        ·rw [if_pos c13] at H
         have c13b0 := eq_true c13
         have c13b1 : decide (0 ≤ x4_1) = true := decide_eq_true c13
         clear c13
         by_cases c14 : x4_1 ≤ x5_1
         ·rw [if_pos c14] at H
          have c14b0 := eq_true c14
          have c14b1 : decide (x4_1 ≤ x5_1) = true := decide_eq_true c14
          clear c14
          have c15b0 := eq_true (of_decide_eq_true (by first | (with_reducible assumption) | assumption) : x5_1 ≤ (a0.size : Int))
          by_cases c16 : x3_1.length < 8796093022208
          ·rw [if_pos c16] at H
           have LMc16 := Aside0.mk c16
           clear c16
           obtain ⟨y107, hy107⟩ : ∃ y_ : List ByteArray, y_ = (x3_1 ++ [a0.extract (x4_1 : Int).toNat (x5_1 : Int).toNat]) := ⟨_, rfl⟩
           replace H : (transhumanceref4_words.l0 k1 a0 y107 (wrap64 (x5_1 + 1)) (wrap64 (x5_1 + 1))) = some r := by first | (rw [hy107]; with_reducible exact H) | (have H2_ := (Option.bind_some _ _).symm.trans H; rw [hy107]; with_reducible exact H2_) | (have H2_ := (Option.bind_some _ _).symm.trans H; with_reducible exact H2_) | with_reducible exact H | (rw [hy107]; exact H) | exact H
           have Ny107 := Aside0.mk hy107
           clear hy107
           have H' := Aside0.mk H
           clear H
           have p11 : 0 ≤ (x5_1 : Int) := of_decide_eq_true (by first | (with_reducible assumption) | assumption)
           have q11 : x5_1 < (a0.size : Int) := of_decide_eq_true (by first | (with_reducible assumption) | assumption)
           have hx11 := bt_at a0 x5_1
           replace p11 := eq_true p11
           replace q11 := eq_true q11
           go_wp2_with (first | ((with_reducible refine gate_builtin (b := .append) (xs := #[.tmp 22, .tmp 27]) rfl ?_); at_builtin; refine Kd.R_append Kd.string (w0 := w) w.heap.size rfl (.tmp 22) (.tmp 27) 27 9 (.string ⟨#[]⟩) 16 rfl Tryd.underlying27 info9 rfl (by decide) (by omega) u3 x3_1 (a0.extract (x4_1 : Int).toNat (x5_1 : Int).toNat) [.string (a0.extract (x4_1 : Int).toNat (x5_1 : Int).toNat)] (fun _ => True) (fun _ => False) rfl rfl ?aP (fun _ hk => hk.elim) ?aF ?aO ?aB ?aS ?aL ?_; (case aP => exact rfl); (case aB => exact (by repeat (first | (with_reducible first | exact HB.out | apply below_alloc | apply pw_below_drewN | apply below_drew1) | exact HB.out))); (case aF => exact (fun _ _ => trivial)); (case aO => exact (by (with_reducible repeat (first | apply Kd.R_alloc | apply Kd.R_drewN | apply Kd.R_drew)); exact HO_3.out)); (case aS => exact (below_size (by repeat (first | (with_reducible first | exact HB.out | apply below_alloc | apply pw_below_drewN | apply below_drew1) | exact HB.out)))); (case aL => have := LMc16.out; omega); intro v108 w17 ho hb hg hat; rw [← Ny107.out] at ho; have n0_ := Aside0.mk (hb); have n1_ := Aside0.mk (ho); clear HB; clear HO_3; have HB := n0_; have HO109 := n1_; clear n0_ n1_; clear ho hb hg hat))
           go_roundg k1
           case measure => have := HK1.out; omega
           case rel => exact ⟨(y107), (wrap64 (x5_1 + 1)), (wrap64 (x5_1 + 1)), (by first | rfl | (simp; done) | (simp [*]; done) | (simp; exact (fun l_ : List UInt8 => by cases l_ <;> rfl : ∀ l_ : List UInt8, l_.isEmpty = !(l_ != [])) _)), (by first | rfl | (simp; done) | (simp [*]; done) | (simp; exact (fun l_ : List UInt8 => by cases l_ <;> rfl : ∀ l_ : List UInt8, l_.isEmpty = !(l_ != [])) _)), H', ⟨by have := HK1.out; omega⟩, ⟨by (with_reducible repeat (first | apply Kd.R_alloc | apply Kd.R_drewN | apply Kd.R_drew)); exact HO109.out⟩, ⟨by repeat (first | (with_reducible first | exact HB.out | apply below_alloc | apply pw_below_drewN | apply below_drew1) | exact HB.out)⟩⟩
          ·rw [if_neg c16] at H
           exact absurd H (by simp)
         ·rw [if_neg c14] at H
          exact absurd H (by simp)
        ·rw [if_neg c13] at H
         exact absurd H (by simp)
       ·rw [if_neg c12] at H
        have c12b0 : ((bt a0 x5_1) == 47) = false := beq_eq_false_iff_ne.mpr c12
        have c12b1 : ((bt a0 x5_1) != 47) = true := bne_iff_ne.mpr c12
        have H' := Aside0.mk H
        clear H
        have p11 : 0 ≤ (x5_1 : Int) := of_decide_eq_true (by first | (with_reducible assumption) | assumption)
        have q11 : x5_1 < (a0.size : Int) := of_decide_eq_true (by first | (with_reducible assumption) | assumption)
        have hx11 := bt_at a0 x5_1
        replace p11 := eq_true p11
        replace q11 := eq_true q11
        go_wp2
        go_roundg k1
        case measure => have := HK1.out; omega
        case rel => exact ⟨(x3_1), (x4_1), (wrap64 (x5_1 + 1)), (by first | rfl | (simp; done) | (simp [*]; done) | (simp; exact (fun l_ : List UInt8 => by cases l_ <;> rfl : ∀ l_ : List UInt8, l_.isEmpty = !(l_ != [])) _)), (by first | rfl | (simp; done) | (simp [*]; done) | (simp; exact (fun l_ : List UInt8 => by cases l_ <;> rfl : ∀ l_ : List UInt8, l_.isEmpty = !(l_ != [])) _)), H', ⟨by have := HK1.out; omega⟩, ⟨by (with_reducible repeat (first | apply Kd.R_alloc | apply Kd.R_drewN | apply Kd.R_drew)); exact HO_3.out⟩, ⟨by repeat (first | (with_reducible first | exact HB.out | apply below_alloc | apply pw_below_drewN | apply below_drew1) | exact HB.out)⟩⟩
      ·rw [if_neg c10] at H
       exact absurd H (by simp)
     ·rw [if_neg c9] at H
      exact absurd H (by simp)
   ·rw [if_neg c2] at H
    have c2b0 : decide (x5_1 ≤ (a0.size : Int)) = false := decide_eq_false c2
    clear c2
    obtain rfl := Option.some.inj H
    go_wp2
    go_ret
    exact ⟨_, by first | rfl | (simp [errW_none, errW_some] <;> rfl) | (simp [*, errW_none, errW_some] <;> rfl), by (with_reducible repeat (first | apply Kd.R_alloc | apply Kd.R_drewN | apply Kd.R_drew)); exact HO_3.out, by repeat (first | (with_reducible first | exact HB.out | apply below_alloc | apply pw_below_drewN | apply below_drew1) | exact HB.out)⟩
end Go.Proofs.YtljfcdfdedkajaaDoor.Q
