import Derived.Test.YtghencpiejbecaaGreatDoorZQ0
namespace Go.Proofs.YtghencpiejbecaaGreatDoor.Q
open Go.RowKit Go.Proofs.YtghencpiejbecaaGreatDoorW.PrintWords Go.Proofs.YtghencpiejbecaaGreatDoorW.PrintLast Go.Proofs.YtghencpiejbecaaGreatDoorW.PrintMore
attribute [local go_sem] max2_int min2_int max_two min_two max_three min_three max_four min_four
set_option linter.unusedVariables false
set_option linter.unusedSimpArgs false
mutual
def transhumanceref1_Place.l0 : Nat → ByteArray → Int → Int → Int → Int → Option (Int × Int)
  | 0, _, _, _, _, _ => none
  | k + 1, x0, x1, x6, x208000, x208001 => if x6 < (x0.size : Int) then (transhumanceref1_Place.j1 k x0 x1 x6 (decide (x6 < x1)) x208000 x208001) else (transhumanceref1_Place.j1 k x0 x1 x6 false x208000 x208001)
def transhumanceref1_Place.j1 : Nat → ByteArray → Int → Int → Bool → Int → Int → Option (Int × Int)
  | 0, _, _, _, _, _, _ => none
  | k + 1, x0, x1, x6, x16, x208000, x208001 => if x16 = true then (if 0 ≤ x6 then (if x6 < (x0.size : Int) then (if (bt x0 x6) = 10 then (transhumanceref1_Place.l0 k x0 x1 (wrap64 (x6 + 1)) (wrap64 (x208000 + 1)) 1) else (transhumanceref1_Place.l0 k x0 x1 (wrap64 (x6 + 1)) x208000 (wrap64 (x208001 + 1)))) else (none)) else (none)) else (some (x208000, x208001))
end
def transhumanceref1_Place.f (k : Nat) (a0 : ByteArray) (a1 : Int) : Option (Int × Int) := transhumanceref1_Place.l0 k a0 a1 0 1 1
set_option maxHeartbeats 8000000 in
set_option maxRecDepth 100000 in
theorem transhumanceref1_Place.calls (k : Nat) (a0 : ByteArray) (a1 : Int) (r1 : Int) (r2 : Int) (w : World) (h : transhumanceref1_Place.f k a0 a1 = some (r1, r2)) :
    Calls Tryz.prog 21 #[.string a0, .int .i64 a1] w fun e w' => e = .returned (.agg #[.int .i64 r1, .int .i64 r2]) ∧ Below w.heap.size w w' := by
  have hu29 := Tryz.underlying29
  have HB := Aside0.mk (Below.refl w.heap.size w)
  have H : (transhumanceref1_Place.l0 k a0 a1 0 1 1) = some (r1, r2) := h
  clear h
  have H' := Aside0.mk H
  clear H
  go_enter Tryz.func21, Tryz.ntmps21
  go_wp2_with (first | ((with_reducible refine gate_dst (N := 4) rfl ?_); refine box_event ?hg (N := 4) ?hd (cs := #[.int .i64 0, .int .i64 0]) (t := 29) ?hr ?_; (case hd => rfl); (case hg => rfl); (case hr => first | (go_simp; done) | (go_simp; rfl)); intro gb206 hg w3 hbox hb; have n0_ := Aside0.mk (below_step (by repeat (first | (with_reducible first | exact HB.out | apply below_alloc | apply pw_below_drewN | apply below_drew1) | exact HB.out)) hb); have n1_ := Aside0.mk (hbox); have n2_ := Aside0.mk ((by rw [hg]; exact (below_size (by repeat (first | (with_reducible first | exact HB.out | apply below_alloc | apply pw_below_drewN | apply below_drew1) | exact HB.out))) : w.heap.size ≤ gb206)); have n3_ := Aside0.mk ((by rw [hg]; exact (below_size (by repeat (first | (with_reducible first | exact HB.out | apply below_alloc | apply pw_below_drewN | apply below_drew1) | exact HB.out))) : w.heap.size ≤ gb206)); clear HB; have HB := n0_; have BK206 := n1_; have GW206 := n2_; have GE206 := n3_; clear n0_ n1_ n2_ n3_; clear hb hbox hg) | ((with_reducible refine gate_dst (N := 5) rfl ?_); refine box_event ?hg (N := 5) ?hd (cs := #[.int .i64 0, .int .i64 0]) (t := 29) ?hr ?_; (case hd => rfl); (case hg => rfl); (case hr => first | (go_simp; done) | (go_simp; rfl)); intro gb207 hg w4 hbox hb; have n0_ := Aside0.mk (blk_below (g := gb206) (o := .cells #[.int .i64 0, .int .i64 0] 29 (0, 0)) (by (with_reducible repeat (first | refine blk_drewN ?_ _ | refine blk_drew ?_ | refine blk_alloc ?_ _)); exact BK206.out) hb); have n1_ := Aside0.mk (below_step (by repeat (first | (with_reducible first | exact HB.out | apply below_alloc | apply pw_below_drewN | apply below_drew1 | refine below_set ?_ GE206.out) | exact HB.out)) hb); have n2_ := Aside0.mk (hbox); have n3_ := Aside0.mk ((by rw [hg]; exact (below_size (by repeat (first | (with_reducible first | exact HB.out | apply below_alloc | apply pw_below_drewN | apply below_drew1 | refine below_set ?_ GE206.out) | exact HB.out))) : w.heap.size ≤ gb207)); have n4_ := Aside0.mk ((by rw [hg]; exact (below_size (by repeat (first | (with_reducible first | exact HB.out | apply below_alloc | apply pw_below_drewN | apply below_drew1 | refine below_set ?_ GE206.out) | exact HB.out))) : w.heap.size ≤ gb207)); have n5_ := Aside0.mk ((by rw [hg]; exact Nat.ne_of_lt (blk_lt (g := gb206) (o := .cells #[.int .i64 0, .int .i64 0] 29 (0, 0)) (by (with_reducible repeat (first | refine blk_drewN ?_ _ | refine blk_drew ?_ | refine blk_alloc ?_ _)); exact BK206.out)) : gb206 ≠ gb207)); have n6_ := Aside0.mk ((by rw [hg]; exact Nat.ne_of_gt (blk_lt (g := gb206) (o := .cells #[.int .i64 0, .int .i64 0] 29 (0, 0)) (by (with_reducible repeat (first | refine blk_drewN ?_ _ | refine blk_drew ?_ | refine blk_alloc ?_ _)); exact BK206.out)) : gb207 ≠ gb206)); clear BK206; clear HB; have BK206 := n0_; have HB := n1_; have BK207 := n2_; have GW207 := n3_; have GE207 := n4_; have NB206_207 := n5_; have NB207_206 := n6_; clear n0_ n1_ n2_ n3_ n4_ n5_ n6_; clear hb hbox hg; have hnb5 := NB207_206.out; have hnc5 := NB206_207.out; have hcz6_0 : w4.cell? ⟨gb207, 0, none⟩ = some (.int .i64 0) := (blk_cell BK207.out 0).trans rfl; have hcz6_1 : w4.cell? ⟨gb207, 1, none⟩ = some (.int .i64 0) := (blk_cell BK207.out 1).trans rfl; have hfz6_0 := blk_frozen BK207.out 0; have hfz6_1 := blk_frozen BK207.out 1))
  go_loopg [6] k (fun kq v6 w' => ∃ (x6_1 : Int) (x208000_1 : Int) (x208001_1 : Int), v6 = .int .i64 x6_1 ∧ Aside0 (transhumanceref1_Place.l0 kq a0 a1 x6_1 x208000_1 x208001_1 = some (r1, r2)) ∧ Aside0 (kq ≤ k) ∧ Aside0 (w'.heap[gb206]? = some (.cells #[.int .i64 0, .int .i64 0] 29 (0, 0))) ∧ Aside0 (w'.heap[gb207]? = some (.cells #[.int .i64 x208000_1, .int .i64 x208001_1] 29 (0, 0))) ∧ Aside0 (Below w.heap.size w w'))
  case atStart => exact ⟨(0), (1), (1), (by first | rfl | (simp; done) | (simp [*]; done) | (simp; exact (fun l_ : List UInt8 => by cases l_ <;> rfl : ∀ l_ : List UInt8, l_.isEmpty = !(l_ != [])) _)), H', ⟨Nat.le_refl _⟩, ⟨by (with_reducible repeat (first | refine blk_drewN ?_ _ | refine blk_drew ?_ | refine blk_alloc ?_ _)); refine blk_far ?_ NB206_207.out _; (with_reducible repeat (first | refine blk_drewN ?_ _ | refine blk_drew ?_ | refine blk_alloc ?_ _)); refine blk_far ?_ NB206_207.out _; (with_reducible repeat (first | refine blk_drewN ?_ _ | refine blk_drew ?_ | refine blk_alloc ?_ _)); exact BK206.out⟩, ⟨by (with_reducible repeat (first | refine blk_drewN ?_ _ | refine blk_drew ?_ | refine blk_alloc ?_ _)); refine blk_put (cs := #[.int .i64 1, .int .i64 0]) ?_ 1 _ rfl; (with_reducible repeat (first | refine blk_drewN ?_ _ | refine blk_drew ?_ | refine blk_alloc ?_ _)); refine blk_put (cs := #[.int .i64 0, .int .i64 0]) ?_ 0 _ rfl; (with_reducible repeat (first | refine blk_drewN ?_ _ | refine blk_drew ?_ | refine blk_alloc ?_ _)); exact BK207.out⟩, ⟨by repeat (first | (with_reducible first | exact HB.out | apply below_alloc | apply pw_below_drewN | apply below_drew1 | refine below_set ?_ GE206.out | refine below_set ?_ GE207.out) | exact HB.out)⟩⟩
  case round =>
    clear H'
    try clear c2
    try clear p2
    try clear c5
    try clear hcz6_0
    try clear hcz6_1
    try clear hfz6_0
    try clear hfz6_1
    obtain ⟨x6_1, x208000_1, x208001_1, rfl, HA, HK1, BK206, BK207, HB⟩ := hrel
    cases gk with
    | zero => exact absurd HA.out (by simp [transhumanceref1_Place.l0])
    | succ k1 =>
      have H := HA.out
      clear HA
      simp only [transhumanceref1_Place.l0] at H
      have HC7 := Aside0.mk H
      clear H
      go_upto_region 3 with (fail)
      go_cut [16] (fun v16 wc => ∃ (kq : Nat) (x16_6 : Bool), v16 = .bool x16_6 ∧ Aside0 (transhumanceref1_Place.j1 kq a0 a1 x6_1 x16_6 x208000_1 x208001_1 = some (r1, r2)) ∧ Aside0 (kq ≤ k1) ∧ Aside0 (wc.heap[gb206]? = some (.cells #[.int .i64 0, .int .i64 0] 29 (0, 0))) ∧ Aside0 (wc.heap[gb207]? = some (.cells #[.int .i64 x208000_1, .int .i64 x208001_1] 29 (0, 0))) ∧ Aside0 (Below w.heap.size w wc))
      case first =>
        have H := HC7.out
        clear HC7
        by_cases c8 : x6_1 < (a0.size : Int)
        · rw [if_pos c8] at H
          have c8b0 : decide (x6_1 < (a0.size : Int)) = true := decide_eq_true c8
          clear c8
          (first | rw [c8b0] | (simp only [i64_w, i32_w]; rw [c8b0]) | skip)
          have H' := Aside0.mk H
          clear H
          go_wp2
          go_meet
          case rel => exact ⟨_, (decide (x6_1 < a1)), (by first | rfl | (simp; done) | (simp [*]; done) | (simp; exact (fun l_ : List UInt8 => by cases l_ <;> rfl : ∀ l_ : List UInt8, l_.isEmpty = !(l_ != [])) _)), H', ⟨by have := HK1.out; first | omega | exact Nat.le_refl _⟩, ⟨by (with_reducible repeat (first | refine blk_drewN ?_ _ | refine blk_drew ?_ | refine blk_alloc ?_ _)); exact BK206.out⟩, ⟨by (with_reducible repeat (first | refine blk_drewN ?_ _ | refine blk_drew ?_ | refine blk_alloc ?_ _)); exact BK207.out⟩, ⟨by repeat (first | (with_reducible first | exact HB.out | apply below_alloc | apply pw_below_drewN | apply below_drew1 | refine below_set ?_ GE206.out | refine below_set ?_ GE207.out) | exact HB.out)⟩⟩
        · rw [if_neg c8] at H
          have c8b0 : decide (x6_1 < (a0.size : Int)) = false := decide_eq_false c8
          clear c8
          (first | rw [c8b0] | (simp only [i64_w, i32_w]; rw [c8b0]) | skip)
          have H' := Aside0.mk H
          clear H
          go_wp2
          go_meet
          case rel => exact ⟨_, (false), (by first | rfl | (simp; done) | (simp [*]; done) | (simp; exact (fun l_ : List UInt8 => by cases l_ <;> rfl : ∀ l_ : List UInt8, l_.isEmpty = !(l_ != [])) _)), H', ⟨by have := HK1.out; first | omega | exact Nat.le_refl _⟩, ⟨by (with_reducible repeat (first | refine blk_drewN ?_ _ | refine blk_drew ?_ | refine blk_alloc ?_ _)); exact BK206.out⟩, ⟨by (with_reducible repeat (first | refine blk_drewN ?_ _ | refine blk_drew ?_ | refine blk_alloc ?_ _)); exact BK207.out⟩, ⟨by repeat (first | (with_reducible first | exact HB.out | apply below_alloc | apply pw_below_drewN | apply below_drew1 | refine below_set ?_ GE206.out | refine below_set ?_ GE207.out) | exact HB.out)⟩⟩
      case rest =>
        clear HC7
        try clear c2
        try clear p2
        try clear c5
        try clear c8
        try clear c8b0
        try clear hcz6_0
        try clear hcz6_1
        try clear hfz6_0
        try clear hfz6_1
        try clear p2
        obtain ⟨kq, x16_6, rfl, HA, HJ6, BK206, BK207, HB⟩ := hcut
        cases kq with
        | zero => exact absurd HA.out (by simp [transhumanceref1_Place.j1])
        | succ kj6 =>
          have H := HA.out
          clear HA
          simp only [transhumanceref1_Place.j1] at H
          by_cases c9 : x16_6 = true
          · subst c9
            have H1 : (if 0 ≤ x6_1 then (if x6_1 < (a0.size : Int) then (if (bt a0 x6_1) = 10 then (transhumanceref1_Place.l0 kj6 a0 a1 (wrap64 (x6_1 + 1)) (wrap64 (x208000_1 + 1)) 1) else (transhumanceref1_Place.l0 kj6 a0 a1 (wrap64 (x6_1 + 1)) x208000_1 (wrap64 (x208001_1 + 1)))) else (none)) else (none)) = some (r1, r2) := by rw [if_pos rfl] at H; exact H
            clear H
            have H := H1
            clear H1
            by_cases c10 : 0 ≤ x6_1
            · rw [if_pos c10] at H
              have c10b0 : decide (0 ≤ x6_1) = true := decide_eq_true c10
              clear c10
              by_cases c11 : x6_1 < (a0.size : Int)
              · rw [if_pos c11] at H
                have c11b0 : decide (x6_1 < (a0.size : Int)) = true := decide_eq_true c11
                clear c11
                by_cases c13 : (bt a0 x6_1) = 10
                · rw [if_pos c13] at H
                  have c13b0 : ((bt a0 x6_1) == 10) = true := beq_iff_eq.mpr c13
                  have c13b1 : ((bt a0 x6_1) != 10) = false := bne_eq_false_iff_eq.mpr c13
                  clear c13
                  have H' := Aside0.mk H
                  clear H
                  have hnb14 := NB207_206.out
                  have hnc14 := NB206_207.out
                  have hcz15_0 : wc.cell? ⟨gb207, 0, none⟩ = some (.int .i64 x208000_1) := (blk_cell BK207.out 0).trans rfl
                  have hcz15_1 : wc.cell? ⟨gb207, 1, none⟩ = some (.int .i64 x208001_1) := (blk_cell BK207.out 1).trans rfl
                  have hfz15_0 := blk_frozen BK207.out 0
                  have hfz15_1 := blk_frozen BK207.out 1
                  have p12 : 0 ≤ (x6_1 : Int) := of_decide_eq_true (by first | (with_reducible assumption) | assumption)
                  have q12 : x6_1 < (a0.size : Int) := of_decide_eq_true (by first | (with_reducible assumption) | assumption)
                  have hx12 := bt_at a0 x6_1
                  replace p12 := eq_true p12
                  replace q12 := eq_true q12
                  go_wp2
                  go_roundg kj6
                  case measure => have := HK1.out; have := HJ6.out; omega
                  case rel => exact ⟨(wrap64 (x6_1 + 1)), (wrap64 (x208000_1 + 1)), (1), (by first | rfl | (simp; done) | (simp [*]; done) | (simp; exact (fun l_ : List UInt8 => by cases l_ <;> rfl : ∀ l_ : List UInt8, l_.isEmpty = !(l_ != [])) _)), H', ⟨by have := HK1.out; have := HJ6.out; omega⟩, ⟨by (with_reducible repeat (first | refine blk_drewN ?_ _ | refine blk_drew ?_ | refine blk_alloc ?_ _)); refine blk_far ?_ NB206_207.out _; (with_reducible repeat (first | refine blk_drewN ?_ _ | refine blk_drew ?_ | refine blk_alloc ?_ _)); refine blk_far ?_ NB206_207.out _; (with_reducible repeat (first | refine blk_drewN ?_ _ | refine blk_drew ?_ | refine blk_alloc ?_ _)); refine blk_far ?_ NB206_207.out _; (with_reducible repeat (first | refine blk_drewN ?_ _ | refine blk_drew ?_ | refine blk_alloc ?_ _)); exact BK206.out⟩, ⟨by (with_reducible repeat (first | refine blk_drewN ?_ _ | refine blk_drew ?_ | refine blk_alloc ?_ _)); refine blk_put (cs := #[.int .i64 (wrap64 (x208000_1 + 1)), .int .i64 (wrap64 (x208001_1 + 1))]) ?_ 1 _ rfl; (with_reducible repeat (first | refine blk_drewN ?_ _ | refine blk_drew ?_ | refine blk_alloc ?_ _)); refine blk_put (cs := #[.int .i64 x208000_1, .int .i64 (wrap64 (x208001_1 + 1))]) ?_ 0 _ rfl; (with_reducible repeat (first | refine blk_drewN ?_ _ | refine blk_drew ?_ | refine blk_alloc ?_ _)); refine blk_put (cs := #[.int .i64 x208000_1, .int .i64 x208001_1]) ?_ 1 _ rfl; (with_reducible repeat (first | refine blk_drewN ?_ _ | refine blk_drew ?_ | refine blk_alloc ?_ _)); exact BK207.out⟩, ⟨by repeat (first | (with_reducible first | exact HB.out | apply below_alloc | apply pw_below_drewN | apply below_drew1 | refine below_set ?_ GE206.out | refine below_set ?_ GE207.out) | exact HB.out)⟩⟩
                · rw [if_neg c13] at H
                  have c13b0 : ((bt a0 x6_1) == 10) = false := beq_eq_false_iff_ne.mpr c13
                  have c13b1 : ((bt a0 x6_1) != 10) = true := bne_iff_ne.mpr c13
                  have H' := Aside0.mk H
                  clear H
                  have hnb16 := NB207_206.out
                  have hnc16 := NB206_207.out
                  have hcz17_0 : wc.cell? ⟨gb207, 0, none⟩ = some (.int .i64 x208000_1) := (blk_cell BK207.out 0).trans rfl
                  have hcz17_1 : wc.cell? ⟨gb207, 1, none⟩ = some (.int .i64 x208001_1) := (blk_cell BK207.out 1).trans rfl
                  have hfz17_0 := blk_frozen BK207.out 0
                  have hfz17_1 := blk_frozen BK207.out 1
                  have p12 : 0 ≤ (x6_1 : Int) := of_decide_eq_true (by first | (with_reducible assumption) | assumption)
                  have q12 : x6_1 < (a0.size : Int) := of_decide_eq_true (by first | (with_reducible assumption) | assumption)
                  have hx12 := bt_at a0 x6_1
                  replace p12 := eq_true p12
                  replace q12 := eq_true q12
                  go_wp2
                  go_roundg kj6
                  case measure => have := HK1.out; have := HJ6.out; omega
                  case rel => exact ⟨(wrap64 (x6_1 + 1)), (x208000_1), (wrap64 (x208001_1 + 1)), (by first | rfl | (simp; done) | (simp [*]; done) | (simp; exact (fun l_ : List UInt8 => by cases l_ <;> rfl : ∀ l_ : List UInt8, l_.isEmpty = !(l_ != [])) _)), H', ⟨by have := HK1.out; have := HJ6.out; omega⟩, ⟨by (with_reducible repeat (first | refine blk_drewN ?_ _ | refine blk_drew ?_ | refine blk_alloc ?_ _)); refine blk_far ?_ NB206_207.out _; (with_reducible repeat (first | refine blk_drewN ?_ _ | refine blk_drew ?_ | refine blk_alloc ?_ _)); exact BK206.out⟩, ⟨by (with_reducible repeat (first | refine blk_drewN ?_ _ | refine blk_drew ?_ | refine blk_alloc ?_ _)); refine blk_put (cs := #[.int .i64 x208000_1, .int .i64 x208001_1]) ?_ 1 _ rfl; (with_reducible repeat (first | refine blk_drewN ?_ _ | refine blk_drew ?_ | refine blk_alloc ?_ _)); exact BK207.out⟩, ⟨by repeat (first | (with_reducible first | exact HB.out | apply below_alloc | apply pw_below_drewN | apply below_drew1 | refine below_set ?_ GE206.out | refine below_set ?_ GE207.out) | exact HB.out)⟩⟩
              · rw [if_neg c11] at H
                exact absurd H (by simp)
            · rw [if_neg c10] at H
              exact absurd H (by simp)
          · replace c9 := Bool.eq_false_iff.mpr c9
            subst c9
            have H1 : (some (x208000_1, x208001_1)) = some (r1, r2) := by rw [if_neg (show ¬ (false = true) by decide)] at H; exact H
            clear H
            have H := H1
            clear H1
            simp only [Option.some.injEq, Prod.mk.injEq] at H
            obtain ⟨rfl, rfl⟩ := H
            have hnb18 := NB207_206.out
            have hnc18 := NB206_207.out
            have hcz19_0 : wc.cell? ⟨gb207, 0, none⟩ = some (.int .i64 x208000_1) := (blk_cell BK207.out 0).trans rfl
            have hcz19_1 : wc.cell? ⟨gb207, 1, none⟩ = some (.int .i64 x208001_1) := (blk_cell BK207.out 1).trans rfl
            have hfz19_0 := blk_frozen BK207.out 0
            have hfz19_1 := blk_frozen BK207.out 1
            have hcz20_0 : wc.cell? ⟨gb206, 0, none⟩ = some (.int .i64 0) := (blk_cell BK206.out 0).trans rfl
            have hcz20_1 : wc.cell? ⟨gb206, 1, none⟩ = some (.int .i64 0) := (blk_cell BK206.out 1).trans rfl
            have hfz20_0 := blk_frozen BK206.out 0
            have hfz20_1 := blk_frozen BK206.out 1
            go_wp2
            refine bodyPost_ret (results_cell_row rfl _ _ gb206 29 #[.int .i64 x208000_1, .int .i64 x208001_1] (0, 0) _ rfl (by (with_reducible repeat (first | refine blk_drewN ?_ _ | refine blk_drew ?_ | refine blk_alloc ?_ _)); refine blk_put (cs := #[.int .i64 x208000_1, .int .i64 0]) ?_ 1 _ rfl; (with_reducible repeat (first | refine blk_drewN ?_ _ | refine blk_drew ?_ | refine blk_alloc ?_ _)); refine blk_put (cs := #[.int .i64 0, .int .i64 0]) ?_ 0 _ rfl; (with_reducible repeat (first | refine blk_drewN ?_ _ | refine blk_drew ?_ | refine blk_alloc ?_ _)); exact BK206.out) Tryz.underlying29 rfl (by kernel_rfl)) rfl ?_
            exact ⟨by first | rfl | (simp [errW_none, errW_some] <;> rfl) | (simp [*, errW_none, errW_some] <;> rfl), by repeat (first | (with_reducible first | exact HB.out | apply below_alloc | apply pw_below_drewN | apply below_drew1 | refine below_set ?_ GE206.out | refine below_set ?_ GE207.out) | exact HB.out)⟩
end Go.Proofs.YtghencpiejbecaaGreatDoor.Q
