import Derived.Test.YtljfcdfdedkajaaDoorZQ2g
import Derived.Test.YtljfcdfdedkajaaDoorZQ16
namespace Go.Proofs.YtljfcdfdedkajaaDoor.Q
open Go.RowKit Go.Proofs.YtljfcdfdedkajaaDoorW.PrintWords Go.Proofs.YtljfcdfdedkajaaDoorW.PrintLast Go.Proofs.YtljfcdfdedkajaaDoorW.PrintMore
attribute [local go_sem] max2_int min2_int max_two min_two max_three min_three max_four min_four
set_option linter.unusedVariables false
set_option linter.unusedSimpArgs false
mutual
def transhumanceref6_Write.l0 : Nat → List (S31) → ByteArray → Int → Option (ByteArray)
 | 0, _, _, _ => none
 | k + 1, x0, x3, x4 => if x4 < (x0.length : Int) then (if 0 ≤ x4 then ((transhumanceref6_Fields.f ((rd_T31 x0 x4).f0) ((rd_T31 x0 x4).f1) ((rd_T31 x0 x4).f2) ((rd_T31 x0 x4).f3) ((rd_T31 x0 x4).f4)).bind fun bt216 => (if x3.size + 8 ≤ 9223372036854775807 then (if (x3 ++ (⟨#[91, 91, 108, 111, 99, 107, 93, 93]⟩ : ByteArray)).size + 1 ≤ 9223372036854775807 then (transhumanceref6_Write.l1 k x0 ((x3 ++ (⟨#[91, 91, 108, 111, 99, 107, 93, 93]⟩ : ByteArray)) ++ (⟨#[10]⟩ : ByteArray)) x4 bt216.1 bt216.2 0) else (none)) else (none))) else (none)) else (some x3)
def transhumanceref6_Write.l1 : Nat → List (S31) → ByteArray → Int → List ByteArray → List ByteArray → Int → Option (ByteArray)
 | 0, _, _, _, _, _, _ => none
 | k + 1, x0, x3, x4, x5, x6, x7 => if x7 < 5 then (if 0 ≤ x7 then (if x7 < (x5.length : Int) then (if (rdOf ByteArray.empty x5 x7).toList = ([] : List UInt8) then (transhumanceref6_Write.l1 k x0 x3 x4 x5 x6 (wrap64 (x7 + 1))) else (if x7 < (x6.length : Int) then (if x3.size + (rdOf ByteArray.empty x6 x7).size ≤ 9223372036854775807 then (if (x3 ++ (rdOf ByteArray.empty x6 x7)).size + 3 ≤ 9223372036854775807 then ((transhumanceref1_Quote.f k (rdOf ByteArray.empty x5 x7)).bind fun t225 => (if ((x3 ++ (rdOf ByteArray.empty x6 x7)) ++ (⟨#[32, 61, 32]⟩ : ByteArray)).size + t225.size ≤ 9223372036854775807 then (if (((x3 ++ (rdOf ByteArray.empty x6 x7)) ++ (⟨#[32, 61, 32]⟩ : ByteArray)) ++ t225).size + 1 ≤ 9223372036854775807 then (transhumanceref6_Write.l1 k x0 ((((x3 ++ (rdOf ByteArray.empty x6 x7)) ++ (⟨#[32, 61, 32]⟩ : ByteArray)) ++ t225) ++ (⟨#[10]⟩ : ByteArray)) x4 x5 x6 (wrap64 (x7 + 1))) else (none)) else (none))) else (none)) else (none)) else (none))) else (none)) else (none)) else (transhumanceref6_Write.l0 k x0 x3 (wrap64 (x4 + 1)))
end
def transhumanceref6_Write.f (k : Nat) (l0 : List (S31)) : Option (ByteArray) := transhumanceref6_Write.l0 k l0 (⟨#[]⟩ : ByteArray) 0
set_option maxHeartbeats 8000000 in
set_option maxRecDepth 100000 in
theorem transhumanceref6_Write.calls (k : Nat) (A0 : Option Addr) (c0 : Nat) (l0 : List (S31)) (r : ByteArray) (w : World) (hr0 : Kd.C k31 w A0 l0.length l0) (hc0 : l0.length ≤ c0) (h : transhumanceref6_Write.f k l0 = some r) :
  Calls Tryd.prog 13 #[.slice A0 l0.length c0] w fun e w' => e = .returned (.string r) ∧ Below w.heap.size w w' := by
 have hu31 := Tryd.underlying31
 have HR0 := Aside0.mk hr0
 have HC0 := Aside0.mk hc0
 clear hr0 hc0
 have HB := Aside0.mk (Below.refl w.heap.size w)
 have H : (transhumanceref6_Write.l0 k l0 (⟨#[]⟩ : ByteArray) 0) = some r := h
 clear h
 have H' := Aside0.mk H
 clear H
 go_enter Tryd.func13, Tryd.ntmps13
 go_wp2
 repeat (go_quiet (fail); try go_wp2)
 go_loopg [3, 4] k (fun kq v3 v4 w' => ∃ (x3_1 : ByteArray) (x4_1 : Int), v3 = .string x3_1 ∧ v4 = .int .i64 x4_1 ∧ Aside0 (transhumanceref6_Write.l0 kq l0 x3_1 x4_1 = some r) ∧ Aside0 (kq ≤ k) ∧ Aside0 (Below w.heap.size w w'))
 case atStart => exact ⟨((⟨#[]⟩ : ByteArray)), (0), (by first | rfl | (simp; done) | (simp [*]; done) | (simp; exact (fun l_ : List UInt8 => by cases l_ <;> rfl : ∀ l_ : List UInt8, l_.isEmpty = !(l_ != [])) _)), (by first | rfl | (simp; done) | (simp [*]; done) | (simp; exact (fun l_ : List UInt8 => by cases l_ <;> rfl : ∀ l_ : List UInt8, l_.isEmpty = !(l_ != [])) _)), H', ⟨Nat.le_refl _⟩, ⟨by repeat (first | (with_reducible first | exact HB.out | apply below_alloc | apply pw_below_drewN | apply below_drew1) | exact HB.out)⟩⟩
 case round =>
  clear H'
  try clear c1
  obtain ⟨x3_1, x4_1, rfl, rfl, HA, HK1, HB⟩ := hrel
  cases gk with
  | zero => exact absurd HA.out (by simp [transhumanceref6_Write.l0])
  | succ k1 =>
   have H := HA.out
   clear HA
   simp only [transhumanceref6_Write.l0] at H
   by_cases c2 : x4_1 < (l0.length : Int)
   ·rw [if_pos c2] at H
    have c2b0 : decide (x4_1 < (l0.length : Int)) = true := decide_eq_true c2
    clear c2
    by_cases c3 : 0 ≤ x4_1
    ·rw [if_pos c3] at H
     have c3b0 : decide (0 ≤ x4_1) = true := decide_eq_true c3
     clear c3
     replace H := Option.bind_eq_some_iff.mp H
     obtain ⟨⟨t216, t219⟩, A40, H⟩ := H
     replace H : (if x3_1.size + 8 ≤ 9223372036854775807 then (if (x3_1 ++ (⟨#[91, 91, 108, 111, 99, 107, 93, 93]⟩ : ByteArray)).size + 1 ≤ 9223372036854775807 then (transhumanceref6_Write.l1 k1 l0 ((x3_1 ++ (⟨#[91, 91, 108, 111, 99, 107, 93, 93]⟩ : ByteArray)) ++ (⟨#[10]⟩ : ByteArray)) x4_1 t216 t219 0) else (none)) else (none)) = some r := H
     have A4 := Aside0.mk A40
     clear A40
     by_cases c5 : x3_1.size + 8 ≤ 9223372036854775807
     ·rw [if_pos c5] at H
      have c5b0 := eq_true c5
      have c5b1 : decide (x3_1.size + 8 ≤ 9223372036854775807) = true := decide_eq_true c5
      try have c5b2 : (9223372036854775807 < x3_1.size + 8) = False := eq_false (Nat.not_lt.2 c5)
      by_cases c6 : (x3_1 ++ (⟨#[91, 91, 108, 111, 99, 107, 93, 93]⟩ : ByteArray)).size + 1 ≤ 9223372036854775807
      ·rw [if_pos c6] at H
       have c6b0 := eq_true c6
       have c6b1 : decide ((x3_1 ++ (⟨#[91, 91, 108, 111, 99, 107, 93, 93]⟩ : ByteArray)).size + 1 ≤ 9223372036854775807) = true := decide_eq_true c6
       try have c6b4 : (9223372036854775807 < x3_1.size + 8 + 1) = False := eq_false (by have h_ := c6; (try simp only [ByteArray.size_append] at h_); first | omega | (simp [go_sem] at h_; omega))
       try have c6b2 : (9223372036854775807 < (x3_1 ++ (⟨#[91, 91, 108, 111, 99, 107, 93, 93]⟩ : ByteArray)).size + 1) = False := eq_false (Nat.not_lt.2 c6)
       have H' := Aside0.mk H
       clear H
       have p215 : 0 ≤ (x4_1 : Int) := of_decide_eq_true (by first | (with_reducible assumption) | assumption)
       have q215 : x4_1 < (l0.length : Int) := of_decide_eq_true (by first | (with_reducible assumption) | assumption)
       obtain ⟨ad215, e215, hx215_0, hx215_1, hx215_2, hx215_3, hx215_4⟩ := at_T31 HR0.out x4_1 p215 q215
       cases e215
       replace hx215_0 := (HB.out.cell (World.block_lt_of_cell? w _ hx215_0)).trans hx215_0
       replace hx215_1 := (HB.out.cell (World.block_lt_of_cell? w _ hx215_1)).trans hx215_1
       replace hx215_2 := (HB.out.cell (World.block_lt_of_cell? w _ hx215_2)).trans hx215_2
       replace hx215_3 := (HB.out.cell (World.block_lt_of_cell? w _ hx215_3)).trans hx215_3
       replace hx215_4 := (HB.out.cell (World.block_lt_of_cell? w _ hx215_4)).trans hx215_4
       replace p215 := eq_true p215
       replace q215 := eq_true q215
       go_wp2_with (first | (go_at_call 8; (with_reducible refine (transhumanceref6_Fields.calls ((rd_T31 l0 x4_1).f0) ((rd_T31 l0 x4_1).f1) ((rd_T31 l0 x4_1).f2) ((rd_T31 l0 x4_1).f3) ((rd_T31 l0 x4_1).f4) t216 t219 _ A4.out).mono ?_); rintro e w7 ⟨v217, v220, rfl, ho0, ho1, hb⟩; have n0_ := Aside0.mk (Kd.R_lower ho0 (below_size (by repeat (first | (with_reducible first | exact HB.out | apply below_alloc | apply pw_below_drewN | apply below_drew1) | exact HB.out)))); have n1_ := Aside0.mk (Kd.R_lower ho1 (below_size (by repeat (first | (with_reducible first | exact HB.out | apply below_alloc | apply pw_below_drewN | apply below_drew1) | exact HB.out)))); have n2_ := Aside0.mk (below_step (by repeat (first | (with_reducible first | exact HB.out | apply below_alloc | apply pw_below_drewN | apply below_drew1) | exact HB.out)) hb); clear HB; have HO218 := n0_; have HO221 := n1_; have HB := n2_; clear n0_ n1_ n2_; (try clear hb); (try clear hb2); (try clear hk); (try clear hi); (try clear ho0); (try clear ho1)))
       repeat (go_quiet (first | (go_at_call 8; (with_reducible refine (transhumanceref6_Fields.calls ((rd_T31 l0 x4_1).f0) ((rd_T31 l0 x4_1).f1) ((rd_T31 l0 x4_1).f2) ((rd_T31 l0 x4_1).f3) ((rd_T31 l0 x4_1).f4) t216 t219 _ A4.out).mono ?_); rintro e w7 ⟨v217, v220, rfl, ho0, ho1, hb⟩; have n0_ := Aside0.mk (Kd.R_lower ho0 (below_size (by repeat (first | (with_reducible first | exact HB.out | apply below_alloc | apply pw_below_drewN | apply below_drew1) | exact HB.out)))); have n1_ := Aside0.mk (Kd.R_lower ho1 (below_size (by repeat (first | (with_reducible first | exact HB.out | apply below_alloc | apply pw_below_drewN | apply below_drew1) | exact HB.out)))); have n2_ := Aside0.mk (below_step (by repeat (first | (with_reducible first | exact HB.out | apply below_alloc | apply pw_below_drewN | apply below_drew1) | exact HB.out)) hb); clear HB; have HO218 := n0_; have HO221 := n1_; have HB := n2_; clear n0_ n1_ n2_; (try clear hb); (try clear hb2); (try clear hk); (try clear hi); (try clear ho0); (try clear ho1))); try go_wp2_with (first | (go_at_call 8; (with_reducible refine (transhumanceref6_Fields.calls ((rd_T31 l0 x4_1).f0) ((rd_T31 l0 x4_1).f1) ((rd_T31 l0 x4_1).f2) ((rd_T31 l0 x4_1).f3) ((rd_T31 l0 x4_1).f4) t216 t219 _ A4.out).mono ?_); rintro e w7 ⟨v217, v220, rfl, ho0, ho1, hb⟩; have n0_ := Aside0.mk (Kd.R_lower ho0 (below_size (by repeat (first | (with_reducible first | exact HB.out | apply below_alloc | apply pw_below_drewN | apply below_drew1) | exact HB.out)))); have n1_ := Aside0.mk (Kd.R_lower ho1 (below_size (by repeat (first | (with_reducible first | exact HB.out | apply below_alloc | apply pw_below_drewN | apply below_drew1) | exact HB.out)))); have n2_ := Aside0.mk (below_step (by repeat (first | (with_reducible first | exact HB.out | apply below_alloc | apply pw_below_drewN | apply below_drew1) | exact HB.out)) hb); clear HB; have HO218 := n0_; have HO221 := n1_; have HB := n2_; clear n0_ n1_ n2_; (try clear hb); (try clear hb2); (try clear hk); (try clear hi); (try clear ho0); (try clear ho1))))
       go_loopg [3, 7] k1 (fun kq v3 v7 w' => ∃ (x3_2 : ByteArray) (x7_2 : Int), v3 = .string x3_2 ∧ v7 = .int .i64 x7_2 ∧ Aside0 (transhumanceref6_Write.l1 kq l0 x3_2 x4_1 t216 t219 x7_2 = some r) ∧ Aside0 (kq ≤ k1) ∧ Aside0 (Kd.R Kd.string 9 w' w.heap.size (fun k_ => some k_ ≠ (v220 : Value).ownBlock) v217 t216) ∧ Aside0 (Kd.R Kd.string 9 w' w.heap.size (fun k_ => some k_ ≠ (v217 : Value).ownBlock) v220 t219) ∧ Aside0 (Below w.heap.size w w'))
       case atStart => exact ⟨((x3_1 ++ (⟨#[91, 91, 108, 111, 99, 107, 93, 93]⟩ : ByteArray)) ++ (⟨#[10]⟩ : ByteArray)), (0), (by first | rfl | (simp; done) | (simp [*]; done) | (simp; exact (fun l_ : List UInt8 => by cases l_ <;> rfl : ∀ l_ : List UInt8, l_.isEmpty = !(l_ != [])) _)), (by first | rfl | (simp; done) | (simp [*]; done) | (simp; exact (fun l_ : List UInt8 => by cases l_ <;> rfl : ∀ l_ : List UInt8, l_.isEmpty = !(l_ != [])) _)), H', ⟨Nat.le_refl _⟩, ⟨by (with_reducible repeat (first | apply Kd.R_alloc | apply Kd.R_drewN | apply Kd.R_drew)); exact HO218.out⟩, ⟨by (with_reducible repeat (first | apply Kd.R_alloc | apply Kd.R_drewN | apply Kd.R_drew)); exact HO221.out⟩, ⟨by repeat (first | (with_reducible first | exact HB.out | apply below_alloc | apply pw_below_drewN | apply below_drew1) | exact HB.out)⟩⟩
       case round =>
        clear H'
        try clear c1
        try clear c2
        try clear c2b0
        try clear p2
        try clear q2
        try clear hx2
        try clear c3
        try clear c3b0
        try clear c5
        try clear c5b0
        try clear c5b1
        try clear c5b2
        try clear c6
        try clear c6b0
        try clear c6b1
        try clear c6b2
        try clear hx215_0
        try clear hx215_1
        try clear hx215_2
        try clear hx215_3
        try clear hx215_4
        try clear p215
        try clear q215
        obtain ⟨x3_2, x7_2, rfl, rfl, HA, HK2, HO_5, HO_6, HB⟩ := hrel
        cases gk with
        | zero => exact absurd HA.out (by simp [transhumanceref6_Write.l1])
        | succ k2 =>
         have H := HA.out
         clear HA
         simp only [transhumanceref6_Write.l1] at H
         by_cases c8 : x7_2 < 5
         ·rw [if_pos c8] at H
          have c8b0 : decide (x7_2 < 5) = true := decide_eq_true c8
          clear c8
          by_cases c9 : 0 ≤ x7_2
          ·rw [if_pos c9] at H
           have c9b0 : decide (0 ≤ x7_2) = true := decide_eq_true c9
           clear c9
           by_cases c10 : x7_2 < (t216.length : Int)
           ·rw [if_pos c10] at H
            have c10b0 : decide (x7_2 < (t216.length : Int)) = true := decide_eq_true c10
            clear c10
            by_cases c11 : (rdOf ByteArray.empty t216 x7_2).toList = ([] : List UInt8)
            ·rw [if_pos c11] at H
             have c11b0 : ((rdOf ByteArray.empty t216 x7_2).toList == ([] : List UInt8)) = true := beq_iff_eq.mpr c11
             have c11b1 : ((rdOf ByteArray.empty t216 x7_2).toList != ([] : List UInt8)) = false := bne_eq_false_iff_eq.mpr c11
             clear c11
             have H' := Aside0.mk H
             clear H
             obtain ⟨Ao12, co12, eo12⟩ := Kd.R_slice HO_5.out
             subst eo12
             have p222 : 0 ≤ (x7_2 : Int) := of_decide_eq_true (by first | (with_reducible assumption) | assumption)
             have q222 : x7_2 < (t216.length : Int) := of_decide_eq_true (by first | (with_reducible assumption) | assumption)
             obtain ⟨ad222, e222, hx222_0⟩ := Kd.at_string (Kd.R_reads' HO_5.out).2.2 x7_2 p222 q222
             cases e222
             replace p222 := eq_true p222
             replace q222 := eq_true q222
             go_wp2
             repeat (go_quiet (fail); try go_wp2)
             go_roundg k2
             case measure => have := HK1.out; have := HK2.out; omega
             case rel => exact ⟨(x3_2), (wrap64 (x7_2 + 1)), (by first | rfl | (simp; done) | (simp [*]; done) | (simp; exact (fun l_ : List UInt8 => by cases l_ <;> rfl : ∀ l_ : List UInt8, l_.isEmpty = !(l_ != [])) _)), (by first | rfl | (simp; done) | (simp [*]; done) | (simp; exact (fun l_ : List UInt8 => by cases l_ <;> rfl : ∀ l_ : List UInt8, l_.isEmpty = !(l_ != [])) _)), H', ⟨by have := HK1.out; have := HK2.out; omega⟩, ⟨by (with_reducible repeat (first | apply Kd.R_alloc | apply Kd.R_drewN | apply Kd.R_drew)); exact HO_5.out⟩, ⟨by (with_reducible repeat (first | apply Kd.R_alloc | apply Kd.R_drewN | apply Kd.R_drew)); exact HO_6.out⟩, ⟨by repeat (first | (with_reducible first | exact HB.out | apply below_alloc | apply pw_below_drewN | apply below_drew1) | exact HB.out)⟩⟩
            ·rw [if_neg c11] at H
             have c11b0 : ((rdOf ByteArray.empty t216 x7_2).toList == ([] : List UInt8)) = false := beq_eq_false_iff_ne.mpr c11
             have c11b1 : ((rdOf ByteArray.empty t216 x7_2).toList != ([] : List UInt8)) = true := bne_iff_ne.mpr c11
             by_cases c13 : x7_2 < (t219.length : Int)
             ·rw [if_pos c13] at H
              have c13b0 : decide (x7_2 < (t219.length : Int)) = true := decide_eq_true c13
              clear c13
              by_cases c14 : x3_2.size + (rdOf ByteArray.empty t219 x7_2).size ≤ 9223372036854775807
              ·rw [if_pos c14] at H
               have c14b0 := eq_true c14
               have c14b1 : decide (x3_2.size + (rdOf ByteArray.empty t219 x7_2).size ≤ 9223372036854775807) = true := decide_eq_true c14
               try have c14b2 : (9223372036854775807 < x3_2.size + (rdOf ByteArray.empty t219 x7_2).size) = False := eq_false (Nat.not_lt.2 c14)
               by_cases c15 : (x3_2 ++ (rdOf ByteArray.empty t219 x7_2)).size + 3 ≤ 9223372036854775807
               ·rw [if_pos c15] at H
                have c15b0 := eq_true c15
                have c15b1 : decide ((x3_2 ++ (rdOf ByteArray.empty t219 x7_2)).size + 3 ≤ 9223372036854775807) = true := decide_eq_true c15
                try have c15b4 : (9223372036854775807 < x3_2.size + (rdOf ByteArray.empty t219 x7_2).size + 3) = False := eq_false (by have h_ := c15; (try simp only [ByteArray.size_append] at h_); first | omega | (simp [go_sem] at h_; omega))
                try have c15b2 : (9223372036854775807 < (x3_2 ++ (rdOf ByteArray.empty t219 x7_2)).size + 3) = False := eq_false (Nat.not_lt.2 c15)
                replace H := Option.bind_eq_some_iff.mp H
                obtain ⟨t225, A160, H⟩ := H
                replace H : (if ((x3_2 ++ (rdOf ByteArray.empty t219 x7_2)) ++ (⟨#[32, 61, 32]⟩ : ByteArray)).size + t225.size ≤ 9223372036854775807 then (if (((x3_2 ++ (rdOf ByteArray.empty t219 x7_2)) ++ (⟨#[32, 61, 32]⟩ : ByteArray)) ++ t225).size + 1 ≤ 9223372036854775807 then (transhumanceref6_Write.l1 k2 l0 ((((x3_2 ++ (rdOf ByteArray.empty t219 x7_2)) ++ (⟨#[32, 61, 32]⟩ : ByteArray)) ++ t225) ++ (⟨#[10]⟩ : ByteArray)) x4_1 t216 t219 (wrap64 (x7_2 + 1))) else (none)) else (none)) = some r := H
                have A16 := Aside0.mk A160
                clear A160
                by_cases c17 : ((x3_2 ++ (rdOf ByteArray.empty t219 x7_2)) ++ (⟨#[32, 61, 32]⟩ : ByteArray)).size + t225.size ≤ 9223372036854775807
                ·rw [if_pos c17] at H
                 have c17b0 := eq_true c17
                 have c17b1 : decide (((x3_2 ++ (rdOf ByteArray.empty t219 x7_2)) ++ (⟨#[32, 61, 32]⟩ : ByteArray)).size + t225.size ≤ 9223372036854775807) = true := decide_eq_true c17
                 try have c17b4 : (9223372036854775807 < x3_2.size + (rdOf ByteArray.empty t219 x7_2).size + 3 + t225.size) = False := eq_false (by have h_ := c17; (try simp only [ByteArray.size_append] at h_); first | omega | (simp [go_sem] at h_; omega))
                 try have c17b2 : (9223372036854775807 < ((x3_2 ++ (rdOf ByteArray.empty t219 x7_2)) ++ (⟨#[32, 61, 32]⟩ : ByteArray)).size + t225.size) = False := eq_false (Nat.not_lt.2 c17)
                 by_cases c18 : (((x3_2 ++ (rdOf ByteArray.empty t219 x7_2)) ++ (⟨#[32, 61, 32]⟩ : ByteArray)) ++ t225).size + 1 ≤ 9223372036854775807
                 ·rw [if_pos c18] at H
                  have c18b0 := eq_true c18
                  have c18b1 : decide ((((x3_2 ++ (rdOf ByteArray.empty t219 x7_2)) ++ (⟨#[32, 61, 32]⟩ : ByteArray)) ++ t225).size + 1 ≤ 9223372036854775807) = true := decide_eq_true c18
                  try have c18b4 : (9223372036854775807 < x3_2.size + (rdOf ByteArray.empty t219 x7_2).size + 3 + t225.size + 1) = False := eq_false (by have h_ := c18; (try simp only [ByteArray.size_append] at h_); first | omega | (simp [go_sem] at h_; omega))
                  try have c18b2 : (9223372036854775807 < (((x3_2 ++ (rdOf ByteArray.empty t219 x7_2)) ++ (⟨#[32, 61, 32]⟩ : ByteArray)) ++ t225).size + 1) = False := eq_false (Nat.not_lt.2 c18)
                  have H' := Aside0.mk H
                  clear H
                  obtain ⟨Ao19, co19, eo19⟩ := Kd.R_slice HO_5.out
                  subst eo19
                  have p222 : 0 ≤ (x7_2 : Int) := of_decide_eq_true (by first | (with_reducible assumption) | assumption)
                  have q222 : x7_2 < (t216.length : Int) := of_decide_eq_true (by first | (with_reducible assumption) | assumption)
                  obtain ⟨ad222, e222, hx222_0⟩ := Kd.at_string (Kd.R_reads' HO_5.out).2.2 x7_2 p222 q222
                  cases e222
                  replace p222 := eq_true p222
                  replace q222 := eq_true q222
                  obtain ⟨Ao20, co20, eo20⟩ := Kd.R_slice HO_6.out
                  subst eo20
                  have p223 : 0 ≤ (x7_2 : Int) := of_decide_eq_true (by first | (with_reducible assumption) | assumption)
                  have q223 : x7_2 < (t219.length : Int) := of_decide_eq_true (by first | (with_reducible assumption) | assumption)
                  obtain ⟨ad223, e223, hx223_0⟩ := Kd.at_string (Kd.R_reads' HO_6.out).2.2 x7_2 p223 q223
                  cases e223
                  replace p223 := eq_true p223
                  replace q223 := eq_true q223
                  have p224 : 0 ≤ (x7_2 : Int) := of_decide_eq_true (by first | (with_reducible assumption) | assumption)
                  have q224 : x7_2 < (t216.length : Int) := of_decide_eq_true (by first | (with_reducible assumption) | assumption)
                  obtain ⟨ad224, e224, hx224_0⟩ := Kd.at_string (Kd.R_reads' HO_5.out).2.2 x7_2 p224 q224
                  obtain rfl : ad222 = ad224 := (by injection e224)
                  replace p224 := eq_true p224
                  replace q224 := eq_true q224
                  go_wp2_with (first | (go_at_call 10; (with_reducible refine (transhumanceref1_Quote.calls k2 (rdOf ByteArray.empty t216 x7_2) t225 _ A16.out).mono ?_); rintro e w' ⟨rfl, ⟨nd, rfl⟩⟩; (try first | exact ⟨rfl, _, World.drewN_drewN _ _ _⟩ | exact ⟨rfl, _, Eq.trans (World.drewN_drewN _ _ _) (congrArg (World.drewN _) (Nat.add_assoc _ _ _))⟩)))
                  repeat (go_quiet (first | (go_at_call 10; (with_reducible refine (transhumanceref1_Quote.calls k2 (rdOf ByteArray.empty t216 x7_2) t225 _ A16.out).mono ?_); rintro e w' ⟨rfl, ⟨nd, rfl⟩⟩; (try first | exact ⟨rfl, _, World.drewN_drewN _ _ _⟩ | exact ⟨rfl, _, Eq.trans (World.drewN_drewN _ _ _) (congrArg (World.drewN _) (Nat.add_assoc _ _ _))⟩))); try go_wp2_with (first | (go_at_call 10; (with_reducible refine (transhumanceref1_Quote.calls k2 (rdOf ByteArray.empty t216 x7_2) t225 _ A16.out).mono ?_); rintro e w' ⟨rfl, ⟨nd, rfl⟩⟩; (try first | exact ⟨rfl, _, World.drewN_drewN _ _ _⟩ | exact ⟨rfl, _, Eq.trans (World.drewN_drewN _ _ _) (congrArg (World.drewN _) (Nat.add_assoc _ _ _))⟩))))
                  go_roundg k2
                  case measure => have := HK1.out; have := HK2.out; omega
                  case rel => exact ⟨((((x3_2 ++ (rdOf ByteArray.empty t219 x7_2)) ++ (⟨#[32, 61, 32]⟩ : ByteArray)) ++ t225) ++ (⟨#[10]⟩ : ByteArray)), (wrap64 (x7_2 + 1)), (by first | rfl | (simp; done) | (simp [*]; done) | (simp; exact (fun l_ : List UInt8 => by cases l_ <;> rfl : ∀ l_ : List UInt8, l_.isEmpty = !(l_ != [])) _)), (by first | rfl | (simp; done) | (simp [*]; done) | (simp; exact (fun l_ : List UInt8 => by cases l_ <;> rfl : ∀ l_ : List UInt8, l_.isEmpty = !(l_ != [])) _)), H', ⟨by have := HK1.out; have := HK2.out; omega⟩, ⟨by (with_reducible repeat (first | apply Kd.R_alloc | apply Kd.R_drewN | apply Kd.R_drew)); exact HO_5.out⟩, ⟨by (with_reducible repeat (first | apply Kd.R_alloc | apply Kd.R_drewN | apply Kd.R_drew)); exact HO_6.out⟩, ⟨by repeat (first | (with_reducible first | exact HB.out | apply below_alloc | apply pw_below_drewN | apply below_drew1) | exact HB.out)⟩⟩
                 ·rw [if_neg c18] at H
                  exact absurd H (by simp)
                ·rw [if_neg c17] at H
                 exact absurd H (by simp)
               ·rw [if_neg c15] at H
                exact absurd H (by simp)
              ·rw [if_neg c14] at H
               exact absurd H (by simp)
             ·rw [if_neg c13] at H
              exact absurd H (by simp)
           ·rw [if_neg c10] at H
            exact absurd H (by simp)
          ·rw [if_neg c9] at H
           exact absurd H (by simp)
         ·rw [if_neg c8] at H
          have c8b0 : decide (x7_2 < 5) = false := decide_eq_false c8
          clear c8
          have H' := Aside0.mk H
          clear H
          go_wp2
          repeat (go_quiet (fail); try go_wp2)
          go_roundg k2
          case measure => have := HK1.out; have := HK2.out; omega
          case rel => exact ⟨(x3_2), (wrap64 (x4_1 + 1)), (by first | rfl | (simp; done) | (simp [*]; done) | (simp; exact (fun l_ : List UInt8 => by cases l_ <;> rfl : ∀ l_ : List UInt8, l_.isEmpty = !(l_ != [])) _)), (by first | rfl | (simp; done) | (simp [*]; done) | (simp; exact (fun l_ : List UInt8 => by cases l_ <;> rfl : ∀ l_ : List UInt8, l_.isEmpty = !(l_ != [])) _)), H', ⟨by have := HK1.out; have := HK2.out; omega⟩, ⟨by repeat (first | (with_reducible first | exact HB.out | apply below_alloc | apply pw_below_drewN | apply below_drew1) | exact HB.out)⟩⟩
      ·rw [if_neg c6] at H
       exact absurd H (by simp)
     ·rw [if_neg c5] at H
      exact absurd H (by simp)
    ·rw [if_neg c3] at H
     exact absurd H (by simp)
   ·rw [if_neg c2] at H
    have c2b0 : decide (x4_1 < (l0.length : Int)) = false := decide_eq_false c2
    clear c2
    obtain rfl := Option.some.inj H
    go_wp2
    repeat (go_quiet (fail); try go_wp2)
    go_ret
    exact ⟨by first | rfl | (simp [errW_none, errW_some] <;> rfl) | (simp [*, errW_none, errW_some] <;> rfl), by repeat (first | (with_reducible first | exact HB.out | apply below_alloc | apply pw_below_drewN | apply below_drew1) | exact HB.out)⟩
end Go.Proofs.YtljfcdfdedkajaaDoor.Q
