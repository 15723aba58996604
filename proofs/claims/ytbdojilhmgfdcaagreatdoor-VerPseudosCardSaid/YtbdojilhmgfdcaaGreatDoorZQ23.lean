import Derived.Test.YtbdojilhmgfdcaaGreatDoorZQ0
import Derived.Test.YtbdojilhmgfdcaaGreatDoorZQ1
import Derived.Test.YtbdojilhmgfdcaaGreatDoorZQ3
import Derived.Test.YtbdojilhmgfdcaaGreatDoorZQ12
import Derived.Test.YtbdojilhmgfdcaaGreatDoorZQ13
import Derived.Test.YtbdojilhmgfdcaaGreatDoorZVig
import Derived.Test.YtbdojilhmgfdcaaGreatDoorZVk
import Derived.Test.YtbdojilhmgfdcaaGreatDoorZVu
namespace Go.Proofs.YtbdojilhmgfdcaaGreatDoor.Q
open Go.RowKit Go.Proofs.YtbdojilhmgfdcaaGreatDoorW.PrintWords Go.Proofs.YtbdojilhmgfdcaaGreatDoorW.PrintLast Go.Proofs.YtbdojilhmgfdcaaGreatDoorW.PrintMore
attribute [local go_sem] max2_int min2_int max_two min_two max_three min_three max_four min_four
set_option linter.unusedVariables false
set_option linter.unusedSimpArgs false
attribute [local go_sem high] eqA25
mutual
def transhumancelaw2_VerPseudos.j0 : Nat → Bool → Int → ByteArray → Int → Int → Int → Int → ByteArray → Option (Bool)
  | 0, _, _, _, _, _, _, _, _ => none
  | k + 1, x0, x3, x4, x5, x257000, x257001, x257002, x257003 => (transhumancelaw2_within.f x3 100000000000000).bind fun t257 => ((transhumancelaw2_within.f x3 8).bind fun t258 => (if 0 ≤ (wrap64 (12 + t258)) then (if (wrap64 (12 + t258)) ≤ 20 then ((ver_Pseudo.f x0 x257000 x257001 x257002 x257003 t257 ((⟨#[48, 49, 50, 51, 52, 53, 54, 55, 56, 57, 97, 98, 99, 100, 101, 102, 48, 49, 50, 51]⟩ : ByteArray).extract 0 ((wrap64 (12 + t258)) : Int).toNat)).bind fun bt259 => ((transhumanceref2_Pseudo.f x0 x257000 x257001 x257002 x257003 t257 ((⟨#[48, 49, 50, 51, 52, 53, 54, 55, 56, 57, 97, 98, 99, 100, 101, 102, 48, 49, 50, 51]⟩ : ByteArray).extract 0 ((wrap64 (12 + t258)) : Int).toNat)).bind fun bt265 => ((ver_Pseudo.f x0 x257000 x257001 x257002 x257003 x5 x4).bind fun bt271 => ((transhumanceref2_Pseudo.f x0 x257000 x257001 x257002 x257003 x5 x4).bind fun bt277 => (if (!(bt259.1 == bt265.1) || (!(bt259.2.1 == bt265.2.1) || (!(bt259.2.2.1 == bt265.2.2.1) || (!(bt259.2.2.2.1.toList == bt265.2.2.2.1.toList))))) = true then (transhumancelaw2_VerPseudos.j1 k x0 t257 ((⟨#[48, 49, 50, 51, 52, 53, 54, 55, 56, 57, 97, 98, 99, 100, 101, 102, 48, 49, 50, 51]⟩ : ByteArray).extract 0 ((wrap64 (12 + t258)) : Int).toNat) bt259.2.2.2.2 true x257000 x257001 x257002 x257003 bt259.1 bt259.2.1 bt259.2.2.1 bt259.2.2.2.1) else (if (bt259.2.2.2.2 != bt265.2.2.2.2) = true then (transhumancelaw2_VerPseudos.j1 k x0 t257 ((⟨#[48, 49, 50, 51, 52, 53, 54, 55, 56, 57, 97, 98, 99, 100, 101, 102, 48, 49, 50, 51]⟩ : ByteArray).extract 0 ((wrap64 (12 + t258)) : Int).toNat) bt259.2.2.2.2 true x257000 x257001 x257002 x257003 bt259.1 bt259.2.1 bt259.2.2.1 bt259.2.2.2.1) else (if (!(bt271.1 == bt277.1) || (!(bt271.2.1 == bt277.2.1) || (!(bt271.2.2.1 == bt277.2.2.1) || (!(bt271.2.2.2.1.toList == bt277.2.2.2.1.toList))))) = true then (transhumancelaw2_VerPseudos.j1 k x0 t257 ((⟨#[48, 49, 50, 51, 52, 53, 54, 55, 56, 57, 97, 98, 99, 100, 101, 102, 48, 49, 50, 51]⟩ : ByteArray).extract 0 ((wrap64 (12 + t258)) : Int).toNat) bt259.2.2.2.2 true x257000 x257001 x257002 x257003 bt259.1 bt259.2.1 bt259.2.2.1 bt259.2.2.2.1) else (transhumancelaw2_VerPseudos.j1 k x0 t257 ((⟨#[48, 49, 50, 51, 52, 53, 54, 55, 56, 57, 97, 98, 99, 100, 101, 102, 48, 49, 50, 51]⟩ : ByteArray).extract 0 ((wrap64 (12 + t258)) : Int).toNat) bt259.2.2.2.2 (bt271.2.2.2.2 != bt277.2.2.2.2) x257000 x257001 x257002 x257003 bt259.1 bt259.2.1 bt259.2.2.1 bt259.2.2.2.1)))))))) else (none)) else (none)))
def transhumancelaw2_VerPseudos.j1 : Nat → Bool → Int → ByteArray → Bool → Bool → Int → Int → Int → ByteArray → Int → Int → Int → ByteArray → Option (Bool)
  | 0, _, _, _, _, _, _, _, _, _, _, _, _, _ => none
  | k + 1, x0, x14, x15, x17, x94, x257000, x257001, x257002, x257003, x265000, x265001, x265002, x265003 => if x94 = true then (some false) else (if x17 = true then ((ver_Behind.f x265000 x265001 x265002 x265003).bind fun bt283 => (if x0 = true then (transhumancelaw2_VerPseudos.j2 k x0 x14 x15 bt283.1 bt283.2.1 bt283.2.2 (x257003.toList != ([] : List UInt8)) x257000 x257001 x257002 x257003 x265000 x265001 x265002 x265003 x257000 x257001 (wrap64 (x257002 + 1)) (⟨#[]⟩ : ByteArray)) else (transhumancelaw2_VerPseudos.j2 k x0 x14 x15 bt283.1 bt283.2.1 bt283.2.2 false x257000 x257001 x257002 x257003 x265000 x265001 x265002 x265003 x257000 x257001 (wrap64 (x257002 + 1)) (⟨#[]⟩ : ByteArray)))) else (some (x265000 == 0 && (x265001 == 0 && (x265002 == 0 && (x265003.toList == ([] : List UInt8)))))))
def transhumancelaw2_VerPseudos.j2 : Nat → Bool → Int → ByteArray → Int → ByteArray → Bool → Bool → Int → Int → Int → ByteArray → Int → Int → Int → ByteArray → Int → Int → Int → ByteArray → Option (Bool)
  | 0, _, _, _, _, _, _, _, _, _, _, _, _, _, _, _, _, _, _, _ => none
  | k + 1, x0, x14, x15, x24, x25, x26, x119, x257000, x257001, x257002, x257003, x265000, x265001, x265002, x265003, x287000, x287001, x287002, x287003 => if x119 = true then (if x26 = true then (if x24 = x14 then (if 0 ≤ 12 then (if 12 ≤ (x15.size : Int) then (if x25.toList = (x15.extract 0 12).toList then (if x0 = true then ((ver_Cmp.f k x265000 x265001 x265002 x265003 x257000 x257001 x257002 x257003).bind fun t287 => (if t287 > 0 then ((ver_Cmp.f k x265000 x265001 x265002 x265003 x287000 x287001 x257002 x287003).bind fun t288 => (some (decide (t288 < 0)))) else (some false))) else ((ver_Cmp.f k x265000 x265001 x265002 x265003 x287000 x287001 x257002 x287003).bind fun t289 => (some (decide (t289 < 0))))) else (some false)) else (none)) else (none)) else (some false)) else (some false)) else (if x26 = true then (if x24 = x14 then (if 0 ≤ 12 then (if 12 ≤ (x15.size : Int) then (if x25.toList = (x15.extract 0 12).toList then (if x0 = true then ((ver_Cmp.f k x265000 x265001 x265002 x265003 x257000 x257001 x257002 x257003).bind fun t290 => (if t290 > 0 then ((ver_Cmp.f k x265000 x265001 x265002 x265003 x287000 x287001 x287002 x287003).bind fun t291 => (some (decide (t291 < 0)))) else (some false))) else ((ver_Cmp.f k x265000 x265001 x265002 x265003 x287000 x287001 x287002 x287003).bind fun t292 => (some (decide (t292 < 0))))) else (some false)) else (none)) else (none)) else (some false)) else (some false))
end
def transhumancelaw2_VerPseudos.f (k : Nat) (a0 : Bool) (a1 : Int) (a2 : Int) (a3 : Int) (a4 : ByteArray) (a5 : Int) : Option (Bool) := (transhumancelaw2_known.f).bind fun t251 => (if t251 = true then (if (a4.size : Int) > 60 then (some true) else ((transhumancelaw2_Make.f k a1 a2).bind fun bt252 => (if a0 = true then (transhumancelaw2_VerPseudos.j0 k a0 a3 a4 a5 bt252.1 bt252.2.1 bt252.2.2.1 bt252.2.2.2) else (transhumancelaw2_VerPseudos.j0 k a0 a3 a4 a5 0 0 0 (⟨#[]⟩ : ByteArray))))) else (some false))
set_option maxHeartbeats 8000000 in
set_option maxRecDepth 100000 in
theorem transhumancelaw2_VerPseudos.calls (k : Nat) (a0 : Bool) (a1 : Int) (a2 : Int) (a3 : Int) (a4 : ByteArray) (a5 : Int) (r : Bool) (w : World) (hG : GL w) (h : transhumancelaw2_VerPseudos.f k a0 a1 a2 a3 a4 a5 = some r) :
    Calls Tryz.prog 7 #[.bool a0, .int .i64 a1, .int .i64 a2, .int .i64 a3, .string a4, .int .i64 a5] w fun e w' => e = .returned (.bool r) ∧ Below w.heap.size w w' := by
  have hu25 := Tryz.underlying25
  have HB := Aside0.mk (Below.refl w.heap.size w)
  have H : ((transhumancelaw2_known.f).bind fun t251 => (if t251 = true then (if (a4.size : Int) > 60 then (some true) else ((transhumancelaw2_Make.f k a1 a2).bind fun bt252 => (if a0 = true then (transhumancelaw2_VerPseudos.j0 k a0 a3 a4 a5 bt252.1 bt252.2.1 bt252.2.2.1 bt252.2.2.2) else (transhumancelaw2_VerPseudos.j0 k a0 a3 a4 a5 0 0 0 (⟨#[]⟩ : ByteArray))))) else (some false))) = some r := h
  clear h
  replace H := Option.bind_eq_some_iff.mp H
  obtain ⟨t251, A70, H⟩ := H
  replace H : (if t251 = true then (if (a4.size : Int) > 60 then (some true) else ((transhumancelaw2_Make.f k a1 a2).bind fun bt252 => (if a0 = true then (transhumancelaw2_VerPseudos.j0 k a0 a3 a4 a5 bt252.1 bt252.2.1 bt252.2.2.1 bt252.2.2.2) else (transhumancelaw2_VerPseudos.j0 k a0 a3 a4 a5 0 0 0 (⟨#[]⟩ : ByteArray))))) else (some false)) = some r := H
  have A7 := Aside0.mk A70
  clear A70
  by_cases c8 : t251 = true
  · subst c8
    have H1 : (if (a4.size : Int) > 60 then (some true) else ((transhumancelaw2_Make.f k a1 a2).bind fun bt252 => (if a0 = true then (transhumancelaw2_VerPseudos.j0 k a0 a3 a4 a5 bt252.1 bt252.2.1 bt252.2.2.1 bt252.2.2.2) else (transhumancelaw2_VerPseudos.j0 k a0 a3 a4 a5 0 0 0 (⟨#[]⟩ : ByteArray))))) = some r := by rw [if_pos rfl] at H; exact H
    clear H
    have H := H1
    clear H1
    by_cases c9 : (a4.size : Int) > 60
    · rw [if_pos c9] at H
      have c9b0 : decide (60 < (a4.size : Int)) = true := decide_eq_true c9
      have c9b1 : decide (60 < a4.size) = true := decide_eq_true (by omega)
      clear c9
      obtain rfl := Option.some.inj H
      go_enter Tryz.func7, Tryz.ntmps7
      go_wp2_with (first | ((with_reducible refine gate_callee (f := 10) rfl ?_); refine goesL_ (some 28) rfl rfl Tryz.func10 (by kernel_rfl) rfl #[] rfl (by (try simp only [List.map_toArray, List.map_cons, List.map_nil]); first | done | rfl | (simp only [List.length_drop, List.length_take]; rfl)) ?_; (with_reducible refine (transhumancelaw2_known.calls  true _ ?side1 A7.out).mono ?_); (case side1 => exact GL.below0 hG (by repeat (first | (with_reducible first | exact HB.out | apply below_alloc | apply pw_below_drewN | apply below_drew1) | exact HB.out))); rintro e w10 ⟨rfl, hb⟩; refine ⟨_, rfl, ?_⟩; have n0_ := Aside0.mk (below_step (by repeat (first | (with_reducible first | exact HB.out | apply below_alloc | apply pw_below_drewN | apply below_drew1) | exact HB.out)) hb); clear HB; have HB := n0_; clear n0_; (try clear hb); (try clear hb2); (try clear hk); (try clear hi)))
      go_ret
      exact ⟨by first | rfl | (simp [errW_none, errW_some] <;> rfl) | (simp [*, errW_none, errW_some] <;> rfl), by repeat (first | (with_reducible first | exact HB.out | apply below_alloc | apply pw_below_drewN | apply below_drew1) | exact HB.out)⟩
    · rw [if_neg c9] at H
      have c9b0 : decide (60 < (a4.size : Int)) = false := decide_eq_false c9
      have c9b1 : decide (60 < a4.size) = false := decide_eq_false (by omega)
      clear c9
      replace H := Option.bind_eq_some_iff.mp H
      obtain ⟨⟨t252, t253, t254, t255⟩, A110, H⟩ := H
      replace H : (if a0 = true then (transhumancelaw2_VerPseudos.j0 k a0 a3 a4 a5 t252 t253 t254 t255) else (transhumancelaw2_VerPseudos.j0 k a0 a3 a4 a5 0 0 0 (⟨#[]⟩ : ByteArray))) = some r := H
      have A11 := Aside0.mk A110
      clear A110
      have HC12 := Aside0.mk H
      clear H
      go_enter Tryz.func7, Tryz.ntmps7
      go_upto_if 37 with (first | ((with_reducible refine gate_callee (f := 10) rfl ?_); refine goesL_ (some 28) rfl rfl Tryz.func10 (by kernel_rfl) rfl #[] rfl (by (try simp only [List.map_toArray, List.map_cons, List.map_nil]); first | done | rfl | (simp only [List.length_drop, List.length_take]; rfl)) ?_; (with_reducible refine (transhumancelaw2_known.calls  true _ ?side1 A7.out).mono ?_); (case side1 => exact GL.below0 hG (by repeat (first | (with_reducible first | exact HB.out | apply below_alloc | apply pw_below_drewN | apply below_drew1) | exact HB.out))); rintro e w13 ⟨rfl, hb⟩; refine ⟨_, rfl, ?_⟩; have n0_ := Aside0.mk (below_step (by repeat (first | (with_reducible first | exact HB.out | apply below_alloc | apply pw_below_drewN | apply below_drew1) | exact HB.out)) hb); clear HB; have HB := n0_; clear n0_; (try clear hb); (try clear hb2); (try clear hk); (try clear hi)) | ((with_reducible refine gate_callee (f := 12) rfl ?_); refine goesL_ (some 35) rfl rfl Tryz.func12 (by kernel_rfl) rfl #[.int .i64 a1, .int .i64 a2] rfl (by (try simp only [List.map_toArray, List.map_cons, List.map_nil]); first | done | rfl | (simp only [List.length_drop, List.length_take]; rfl)) ?_; (with_reducible refine (transhumancelaw2_Make.calls k a1 a2 t252 t253 t254 t255 _ A11.out).mono ?_); rintro e w14 ⟨rfl, hb⟩; refine ⟨_, rfl, ?_⟩; have n0_ := Aside0.mk (below_step (by repeat (first | (with_reducible first | exact HB.out | apply below_alloc | apply pw_below_drewN | apply below_drew1) | exact HB.out)) hb); clear HB; have HB := n0_; clear n0_; (try clear hb); (try clear hb2); (try clear hk); (try clear hi)) | ((with_reducible refine gate_dst (N := 13) rfl ?_); refine box_event ?hg (N := 13) ?hd (cs := #[.int .i64 0, .int .i64 0, .int .i64 0, .string (⟨#[]⟩ : ByteArray)]) (t := 25) ?hr ?_; (case hd => rfl); (case hg => rfl); (case hr => first | (go_simp; done) | (go_simp; rfl)); intro gb256 hg w15 hbox hb; have n0_ := Aside0.mk (below_step (by repeat (first | (with_reducible first | exact HB.out | apply below_alloc | apply pw_below_drewN | apply below_drew1) | exact HB.out)) hb); have n1_ := Aside0.mk (hbox); have n2_ := Aside0.mk ((by rw [hg]; exact (below_size (by repeat (first | (with_reducible first | exact HB.out | apply below_alloc | apply pw_below_drewN | apply below_drew1) | exact HB.out))) : w.heap.size ≤ gb256)); have n3_ := Aside0.mk ((by rw [hg]; exact (below_size (by repeat (first | (with_reducible first | exact HB.out | apply below_alloc | apply pw_below_drewN | apply below_drew1) | exact HB.out))) : w.heap.size ≤ gb256)); clear HB; have HB := n0_; have BK256 := n1_; have GW256 := n2_; have GE256 := n3_; clear n0_ n1_ n2_ n3_; clear hb hbox hg; have hcz16_0 : w15.cell? ⟨gb256, 0, none⟩ = some (.int .i64 0) := (blk_cell BK256.out 0).trans rfl; have hcz16_1 : w15.cell? ⟨gb256, 1, none⟩ = some (.int .i64 0) := (blk_cell BK256.out 1).trans rfl; have hcz16_2 : w15.cell? ⟨gb256, 2, none⟩ = some (.int .i64 0) := (blk_cell BK256.out 2).trans rfl; have hcz16_3 : w15.cell? ⟨gb256, 3, none⟩ = some (.string (⟨#[]⟩ : ByteArray)) := (blk_cell BK256.out 3).trans rfl; have hfz16_0 := blk_frozen BK256.out 0; have hfz16_1 := blk_frozen BK256.out 1; have hfz16_2 := blk_frozen BK256.out 2; have hfz16_3 := blk_frozen BK256.out 3))
      (try simp only [Act.put, List.setIfInBounds_toArray, List.set_cons_zero, List.set_cons_succ])
      go_cut [] (fun wc => ∃ (kq : Nat) (x257000_11 : Int) (x257001_11 : Int) (x257002_11 : Int) (x257003_11 : ByteArray), Aside0 (transhumancelaw2_VerPseudos.j0 kq a0 a3 a4 a5 x257000_11 x257001_11 x257002_11 x257003_11 = some r) ∧ Aside0 (kq ≤ k) ∧ Aside0 (wc.heap[gb256]? = some (.cells #[.int .i64 x257000_11, .int .i64 x257001_11, .int .i64 x257002_11, .string x257003_11] 25 (0, 0))) ∧ Aside0 (Below w.heap.size w wc))
      case first =>
        have H := HC12.out
        clear HC12
        by_cases c17 : a0 = true
        · subst c17
          have H1 : (transhumancelaw2_VerPseudos.j0 k true a3 a4 a5 t252 t253 t254 t255) = some r := by rw [if_pos rfl] at H; exact H
          clear H
          have H := H1
          clear H1
          have H' := Aside0.mk H
          clear H
          go_wp2
          go_meet
          case rel => exact ⟨_, (t252), (t253), (t254), (t255), H', ⟨by first | omega | exact Nat.le_refl _⟩, ⟨by (with_reducible repeat (first | refine blk_drewN ?_ _ | refine blk_drew ?_ | refine blk_alloc ?_ _)); refine blk_put (cs := #[.int .i64 t252, .int .i64 t253, .int .i64 t254, .string (⟨#[]⟩ : ByteArray)]) ?_ 3 _ rfl; (with_reducible repeat (first | refine blk_drewN ?_ _ | refine blk_drew ?_ | refine blk_alloc ?_ _)); refine blk_put (cs := #[.int .i64 t252, .int .i64 t253, .int .i64 0, .string (⟨#[]⟩ : ByteArray)]) ?_ 2 _ rfl; (with_reducible repeat (first | refine blk_drewN ?_ _ | refine blk_drew ?_ | refine blk_alloc ?_ _)); refine blk_put (cs := #[.int .i64 t252, .int .i64 0, .int .i64 0, .string (⟨#[]⟩ : ByteArray)]) ?_ 1 _ rfl; (with_reducible repeat (first | refine blk_drewN ?_ _ | refine blk_drew ?_ | refine blk_alloc ?_ _)); refine blk_put (cs := #[.int .i64 0, .int .i64 0, .int .i64 0, .string (⟨#[]⟩ : ByteArray)]) ?_ 0 _ rfl; (with_reducible repeat (first | refine blk_drewN ?_ _ | refine blk_drew ?_ | refine blk_alloc ?_ _)); exact BK256.out⟩, ⟨by repeat (first | (with_reducible first | exact HB.out | apply below_alloc | apply pw_below_drewN | apply below_drew1 | refine below_set ?_ GE256.out) | exact HB.out)⟩⟩
        · replace c17 := Bool.eq_false_iff.mpr c17
          subst c17
          have H1 : (transhumancelaw2_VerPseudos.j0 k false a3 a4 a5 0 0 0 (⟨#[]⟩ : ByteArray)) = some r := by rw [if_neg (show ¬ (false = true) by decide)] at H; exact H
          clear H
          have H := H1
          clear H1
          have H' := Aside0.mk H
          clear H
          have hcz18_0 : w15.cell? ⟨gb256, 0, none⟩ = some (.int .i64 0) := (blk_cell BK256.out 0).trans rfl
          have hcz18_1 : w15.cell? ⟨gb256, 1, none⟩ = some (.int .i64 0) := (blk_cell BK256.out 1).trans rfl
          have hcz18_2 : w15.cell? ⟨gb256, 2, none⟩ = some (.int .i64 0) := (blk_cell BK256.out 2).trans rfl
          have hcz18_3 : w15.cell? ⟨gb256, 3, none⟩ = some (.string (⟨#[]⟩ : ByteArray)) := (blk_cell BK256.out 3).trans rfl
          have hfz18_0 := blk_frozen BK256.out 0
          have hfz18_1 := blk_frozen BK256.out 1
          have hfz18_2 := blk_frozen BK256.out 2
          have hfz18_3 := blk_frozen BK256.out 3
          go_wp2
          go_meet
          case rel => exact ⟨_, (0), (0), (0), ((⟨#[]⟩ : ByteArray)), H', ⟨by first | omega | exact Nat.le_refl _⟩, ⟨by (with_reducible repeat (first | refine blk_drewN ?_ _ | refine blk_drew ?_ | refine blk_alloc ?_ _)); refine blk_put (cs := #[.int .i64 0, .int .i64 0, .int .i64 0, .string t255]) ?_ 3 _ rfl; (with_reducible repeat (first | refine blk_drewN ?_ _ | refine blk_drew ?_ | refine blk_alloc ?_ _)); refine blk_put (cs := #[.int .i64 0, .int .i64 0, .int .i64 t254, .string t255]) ?_ 2 _ rfl; (with_reducible repeat (first | refine blk_drewN ?_ _ | refine blk_drew ?_ | refine blk_alloc ?_ _)); refine blk_put (cs := #[.int .i64 0, .int .i64 t253, .int .i64 t254, .string t255]) ?_ 1 _ rfl; (with_reducible repeat (first | refine blk_drewN ?_ _ | refine blk_drew ?_ | refine blk_alloc ?_ _)); refine blk_put (cs := #[.int .i64 t252, .int .i64 t253, .int .i64 t254, .string t255]) ?_ 0 _ rfl; (with_reducible repeat (first | refine blk_drewN ?_ _ | refine blk_drew ?_ | refine blk_alloc ?_ _)); refine blk_put (cs := #[.int .i64 t252, .int .i64 t253, .int .i64 t254, .string (⟨#[]⟩ : ByteArray)]) ?_ 3 _ rfl; (with_reducible repeat (first | refine blk_drewN ?_ _ | refine blk_drew ?_ | refine blk_alloc ?_ _)); refine blk_put (cs := #[.int .i64 t252, .int .i64 t253, .int .i64 0, .string (⟨#[]⟩ : ByteArray)]) ?_ 2 _ rfl; (with_reducible repeat (first | refine blk_drewN ?_ _ | refine blk_drew ?_ | refine blk_alloc ?_ _)); refine blk_put (cs := #[.int .i64 t252, .int .i64 0, .int .i64 0, .string (⟨#[]⟩ : ByteArray)]) ?_ 1 _ rfl; (with_reducible repeat (first | refine blk_drewN ?_ _ | refine blk_drew ?_ | refine blk_alloc ?_ _)); refine blk_put (cs := #[.int .i64 0, .int .i64 0, .int .i64 0, .string (⟨#[]⟩ : ByteArray)]) ?_ 0 _ rfl; (with_reducible repeat (first | refine blk_drewN ?_ _ | refine blk_drew ?_ | refine blk_alloc ?_ _)); exact BK256.out⟩, ⟨by repeat (first | (with_reducible first | exact HB.out | apply below_alloc | apply pw_below_drewN | apply below_drew1 | refine below_set ?_ GE256.out) | exact HB.out)⟩⟩
      case rest =>
        clear HC12
        try clear c1
        try clear p2
        try clear c7
        try clear c8
        try clear c9
        try clear c9b0
        try clear c9b1
        try clear c10
        try clear c12
        try clear c17
        try clear hcz16_0
        try clear hcz16_1
        try clear hcz16_2
        try clear hcz16_3
        try clear hcz18_0
        try clear hcz18_1
        try clear hcz18_2
        try clear hcz18_3
        try clear hfz16_0
        try clear hfz16_1
        try clear hfz16_2
        try clear hfz16_3
        try clear hfz18_0
        try clear hfz18_1
        try clear hfz18_2
        try clear hfz18_3
        obtain ⟨kq, x257000_11, x257001_11, x257002_11, x257003_11, HA, HJ11, BK256, HB⟩ := hcut
        cases kq with
        | zero => exact absurd HA.out (by simp [transhumancelaw2_VerPseudos.j0])
        | succ kj11 =>
          have H := HA.out
          clear HA
          simp only [transhumancelaw2_VerPseudos.j0] at H
          replace H := Option.bind_eq_some_iff.mp H
          obtain ⟨t257, A190, H⟩ := H
          replace H : ((transhumancelaw2_within.f a3 8).bind fun t258 => (if 0 ≤ (wrap64 (12 + t258)) then (if (wrap64 (12 + t258)) ≤ 20 then ((ver_Pseudo.f a0 x257000_11 x257001_11 x257002_11 x257003_11 t257 ((⟨#[48, 49, 50, 51, 52, 53, 54, 55, 56, 57, 97, 98, 99, 100, 101, 102, 48, 49, 50, 51]⟩ : ByteArray).extract 0 ((wrap64 (12 + t258)) : Int).toNat)).bind fun bt259 => ((transhumanceref2_Pseudo.f a0 x257000_11 x257001_11 x257002_11 x257003_11 t257 ((⟨#[48, 49, 50, 51, 52, 53, 54, 55, 56, 57, 97, 98, 99, 100, 101, 102, 48, 49, 50, 51]⟩ : ByteArray).extract 0 ((wrap64 (12 + t258)) : Int).toNat)).bind fun bt265 => ((ver_Pseudo.f a0 x257000_11 x257001_11 x257002_11 x257003_11 a5 a4).bind fun bt271 => ((transhumanceref2_Pseudo.f a0 x257000_11 x257001_11 x257002_11 x257003_11 a5 a4).bind fun bt277 => (if (!(bt259.1 == bt265.1) || (!(bt259.2.1 == bt265.2.1) || (!(bt259.2.2.1 == bt265.2.2.1) || (!(bt259.2.2.2.1.toList == bt265.2.2.2.1.toList))))) = true then (transhumancelaw2_VerPseudos.j1 kj11 a0 t257 ((⟨#[48, 49, 50, 51, 52, 53, 54, 55, 56, 57, 97, 98, 99, 100, 101, 102, 48, 49, 50, 51]⟩ : ByteArray).extract 0 ((wrap64 (12 + t258)) : Int).toNat) bt259.2.2.2.2 true x257000_11 x257001_11 x257002_11 x257003_11 bt259.1 bt259.2.1 bt259.2.2.1 bt259.2.2.2.1) else (if (bt259.2.2.2.2 != bt265.2.2.2.2) = true then (transhumancelaw2_VerPseudos.j1 kj11 a0 t257 ((⟨#[48, 49, 50, 51, 52, 53, 54, 55, 56, 57, 97, 98, 99, 100, 101, 102, 48, 49, 50, 51]⟩ : ByteArray).extract 0 ((wrap64 (12 + t258)) : Int).toNat) bt259.2.2.2.2 true x257000_11 x257001_11 x257002_11 x257003_11 bt259.1 bt259.2.1 bt259.2.2.1 bt259.2.2.2.1) else (if (!(bt271.1 == bt277.1) || (!(bt271.2.1 == bt277.2.1) || (!(bt271.2.2.1 == bt277.2.2.1) || (!(bt271.2.2.2.1.toList == bt277.2.2.2.1.toList))))) = true then (transhumancelaw2_VerPseudos.j1 kj11 a0 t257 ((⟨#[48, 49, 50, 51, 52, 53, 54, 55, 56, 57, 97, 98, 99, 100, 101, 102, 48, 49, 50, 51]⟩ : ByteArray).extract 0 ((wrap64 (12 + t258)) : Int).toNat) bt259.2.2.2.2 true x257000_11 x257001_11 x257002_11 x257003_11 bt259.1 bt259.2.1 bt259.2.2.1 bt259.2.2.2.1) else (transhumancelaw2_VerPseudos.j1 kj11 a0 t257 ((⟨#[48, 49, 50, 51, 52, 53, 54, 55, 56, 57, 97, 98, 99, 100, 101, 102, 48, 49, 50, 51]⟩ : ByteArray).extract 0 ((wrap64 (12 + t258)) : Int).toNat) bt259.2.2.2.2 (bt271.2.2.2.2 != bt277.2.2.2.2) x257000_11 x257001_11 x257002_11 x257003_11 bt259.1 bt259.2.1 bt259.2.2.1 bt259.2.2.2.1)))))))) else (none)) else (none))) = some r := H
          have A19 := Aside0.mk A190
          clear A190
          replace H := Option.bind_eq_some_iff.mp H
          obtain ⟨t258, A200, H⟩ := H
          replace H : (if 0 ≤ (wrap64 (12 + t258)) then (if (wrap64 (12 + t258)) ≤ 20 then ((ver_Pseudo.f a0 x257000_11 x257001_11 x257002_11 x257003_11 t257 ((⟨#[48, 49, 50, 51, 52, 53, 54, 55, 56, 57, 97, 98, 99, 100, 101, 102, 48, 49, 50, 51]⟩ : ByteArray).extract 0 ((wrap64 (12 + t258)) : Int).toNat)).bind fun bt259 => ((transhumanceref2_Pseudo.f a0 x257000_11 x257001_11 x257002_11 x257003_11 t257 ((⟨#[48, 49, 50, 51, 52, 53, 54, 55, 56, 57, 97, 98, 99, 100, 101, 102, 48, 49, 50, 51]⟩ : ByteArray).extract 0 ((wrap64 (12 + t258)) : Int).toNat)).bind fun bt265 => ((ver_Pseudo.f a0 x257000_11 x257001_11 x257002_11 x257003_11 a5 a4).bind fun bt271 => ((transhumanceref2_Pseudo.f a0 x257000_11 x257001_11 x257002_11 x257003_11 a5 a4).bind fun bt277 => (if (!(bt259.1 == bt265.1) || (!(bt259.2.1 == bt265.2.1) || (!(bt259.2.2.1 == bt265.2.2.1) || (!(bt259.2.2.2.1.toList == bt265.2.2.2.1.toList))))) = true then (transhumancelaw2_VerPseudos.j1 kj11 a0 t257 ((⟨#[48, 49, 50, 51, 52, 53, 54, 55, 56, 57, 97, 98, 99, 100, 101, 102, 48, 49, 50, 51]⟩ : ByteArray).extract 0 ((wrap64 (12 + t258)) : Int).toNat) bt259.2.2.2.2 true x257000_11 x257001_11 x257002_11 x257003_11 bt259.1 bt259.2.1 bt259.2.2.1 bt259.2.2.2.1) else (if (bt259.2.2.2.2 != bt265.2.2.2.2) = true then (transhumancelaw2_VerPseudos.j1 kj11 a0 t257 ((⟨#[48, 49, 50, 51, 52, 53, 54, 55, 56, 57, 97, 98, 99, 100, 101, 102, 48, 49, 50, 51]⟩ : ByteArray).extract 0 ((wrap64 (12 + t258)) : Int).toNat) bt259.2.2.2.2 true x257000_11 x257001_11 x257002_11 x257003_11 bt259.1 bt259.2.1 bt259.2.2.1 bt259.2.2.2.1) else (if (!(bt271.1 == bt277.1) || (!(bt271.2.1 == bt277.2.1) || (!(bt271.2.2.1 == bt277.2.2.1) || (!(bt271.2.2.2.1.toList == bt277.2.2.2.1.toList))))) = true then (transhumancelaw2_VerPseudos.j1 kj11 a0 t257 ((⟨#[48, 49, 50, 51, 52, 53, 54, 55, 56, 57, 97, 98, 99, 100, 101, 102, 48, 49, 50, 51]⟩ : ByteArray).extract 0 ((wrap64 (12 + t258)) : Int).toNat) bt259.2.2.2.2 true x257000_11 x257001_11 x257002_11 x257003_11 bt259.1 bt259.2.1 bt259.2.2.1 bt259.2.2.2.1) else (transhumancelaw2_VerPseudos.j1 kj11 a0 t257 ((⟨#[48, 49, 50, 51, 52, 53, 54, 55, 56, 57, 97, 98, 99, 100, 101, 102, 48, 49, 50, 51]⟩ : ByteArray).extract 0 ((wrap64 (12 + t258)) : Int).toNat) bt259.2.2.2.2 (bt271.2.2.2.2 != bt277.2.2.2.2) x257000_11 x257001_11 x257002_11 x257003_11 bt259.1 bt259.2.1 bt259.2.2.1 bt259.2.2.2.1)))))))) else (none)) else (none)) = some r := H
          have A20 := Aside0.mk A200
          clear A200
          obtain ⟨ji21, hji21⟩ : ∃ j_ : Int, (wrap64 (12 + t258)) = j_ := ⟨_, rfl⟩
          replace H : (if 0 ≤ (ji21) then (if (ji21) ≤ 20 then ((ver_Pseudo.f a0 x257000_11 x257001_11 x257002_11 x257003_11 t257 ((⟨#[48, 49, 50, 51, 52, 53, 54, 55, 56, 57, 97, 98, 99, 100, 101, 102, 48, 49, 50, 51]⟩ : ByteArray).extract 0 ((ji21) : Int).toNat)).bind fun bt259 => ((transhumanceref2_Pseudo.f a0 x257000_11 x257001_11 x257002_11 x257003_11 t257 ((⟨#[48, 49, 50, 51, 52, 53, 54, 55, 56, 57, 97, 98, 99, 100, 101, 102, 48, 49, 50, 51]⟩ : ByteArray).extract 0 ((ji21) : Int).toNat)).bind fun bt265 => ((ver_Pseudo.f a0 x257000_11 x257001_11 x257002_11 x257003_11 a5 a4).bind fun bt271 => ((transhumanceref2_Pseudo.f a0 x257000_11 x257001_11 x257002_11 x257003_11 a5 a4).bind fun bt277 => (if (!(bt259.1 == bt265.1) || (!(bt259.2.1 == bt265.2.1) || (!(bt259.2.2.1 == bt265.2.2.1) || (!(bt259.2.2.2.1.toList == bt265.2.2.2.1.toList))))) = true then (transhumancelaw2_VerPseudos.j1 kj11 a0 t257 ((⟨#[48, 49, 50, 51, 52, 53, 54, 55, 56, 57, 97, 98, 99, 100, 101, 102, 48, 49, 50, 51]⟩ : ByteArray).extract 0 ((ji21) : Int).toNat) bt259.2.2.2.2 true x257000_11 x257001_11 x257002_11 x257003_11 bt259.1 bt259.2.1 bt259.2.2.1 bt259.2.2.2.1) else (if (bt259.2.2.2.2 != bt265.2.2.2.2) = true then (transhumancelaw2_VerPseudos.j1 kj11 a0 t257 ((⟨#[48, 49, 50, 51, 52, 53, 54, 55, 56, 57, 97, 98, 99, 100, 101, 102, 48, 49, 50, 51]⟩ : ByteArray).extract 0 ((ji21) : Int).toNat) bt259.2.2.2.2 true x257000_11 x257001_11 x257002_11 x257003_11 bt259.1 bt259.2.1 bt259.2.2.1 bt259.2.2.2.1) else (if (!(bt271.1 == bt277.1) || (!(bt271.2.1 == bt277.2.1) || (!(bt271.2.2.1 == bt277.2.2.1) || (!(bt271.2.2.2.1.toList == bt277.2.2.2.1.toList))))) = true then (transhumancelaw2_VerPseudos.j1 kj11 a0 t257 ((⟨#[48, 49, 50, 51, 52, 53, 54, 55, 56, 57, 97, 98, 99, 100, 101, 102, 48, 49, 50, 51]⟩ : ByteArray).extract 0 ((ji21) : Int).toNat) bt259.2.2.2.2 true x257000_11 x257001_11 x257002_11 x257003_11 bt259.1 bt259.2.1 bt259.2.2.1 bt259.2.2.2.1) else (transhumancelaw2_VerPseudos.j1 kj11 a0 t257 ((⟨#[48, 49, 50, 51, 52, 53, 54, 55, 56, 57, 97, 98, 99, 100, 101, 102, 48, 49, 50, 51]⟩ : ByteArray).extract 0 ((ji21) : Int).toNat) bt259.2.2.2.2 (bt271.2.2.2.2 != bt277.2.2.2.2) x257000_11 x257001_11 x257002_11 x257003_11 bt259.1 bt259.2.1 bt259.2.2.1 bt259.2.2.2.1)))))))) else (none)) else (none)) = some r := by first | (rw [hji21] at H; exact H) | (simp only [hji21] at H ⊢; exact H)
          (try rw [hji21] at A19)
          (try rw [hji21] at A20)
          have hji21w : (IntKind.i64.wrap (12 + t258)) = ji21 := (i64_w _).trans hji21
          by_cases c22 : 0 ≤ (ji21)
          · rw [if_pos c22] at H
            have c22b0 := eq_true c22
            have c22b1 : decide (0 ≤ (ji21)) = true := decide_eq_true c22
            clear c22
            by_cases c23 : (ji21) ≤ 20
            · rw [if_pos c23] at H
              have c23b0 := eq_true c23
              have c23b1 : decide ((ji21) ≤ 20) = true := decide_eq_true c23
              clear c23
              replace H := Option.bind_eq_some_iff.mp H
              obtain ⟨⟨t259, t260, t261, t262, t263⟩, A240, H⟩ := H
              replace H : ((transhumanceref2_Pseudo.f a0 x257000_11 x257001_11 x257002_11 x257003_11 t257 ((⟨#[48, 49, 50, 51, 52, 53, 54, 55, 56, 57, 97, 98, 99, 100, 101, 102, 48, 49, 50, 51]⟩ : ByteArray).extract 0 ((ji21) : Int).toNat)).bind fun bt265 => ((ver_Pseudo.f a0 x257000_11 x257001_11 x257002_11 x257003_11 a5 a4).bind fun bt271 => ((transhumanceref2_Pseudo.f a0 x257000_11 x257001_11 x257002_11 x257003_11 a5 a4).bind fun bt277 => (if (!(t259 == bt265.1) || (!(t260 == bt265.2.1) || (!(t261 == bt265.2.2.1) || (!(t262.toList == bt265.2.2.2.1.toList))))) = true then (transhumancelaw2_VerPseudos.j1 kj11 a0 t257 ((⟨#[48, 49, 50, 51, 52, 53, 54, 55, 56, 57, 97, 98, 99, 100, 101, 102, 48, 49, 50, 51]⟩ : ByteArray).extract 0 ((ji21) : Int).toNat) t263 true x257000_11 x257001_11 x257002_11 x257003_11 t259 t260 t261 t262) else (if (t263 != bt265.2.2.2.2) = true then (transhumancelaw2_VerPseudos.j1 kj11 a0 t257 ((⟨#[48, 49, 50, 51, 52, 53, 54, 55, 56, 57, 97, 98, 99, 100, 101, 102, 48, 49, 50, 51]⟩ : ByteArray).extract 0 ((ji21) : Int).toNat) t263 true x257000_11 x257001_11 x257002_11 x257003_11 t259 t260 t261 t262) else (if (!(bt271.1 == bt277.1) || (!(bt271.2.1 == bt277.2.1) || (!(bt271.2.2.1 == bt277.2.2.1) || (!(bt271.2.2.2.1.toList == bt277.2.2.2.1.toList))))) = true then (transhumancelaw2_VerPseudos.j1 kj11 a0 t257 ((⟨#[48, 49, 50, 51, 52, 53, 54, 55, 56, 57, 97, 98, 99, 100, 101, 102, 48, 49, 50, 51]⟩ : ByteArray).extract 0 ((ji21) : Int).toNat) t263 true x257000_11 x257001_11 x257002_11 x257003_11 t259 t260 t261 t262) else (transhumancelaw2_VerPseudos.j1 kj11 a0 t257 ((⟨#[48, 49, 50, 51, 52, 53, 54, 55, 56, 57, 97, 98, 99, 100, 101, 102, 48, 49, 50, 51]⟩ : ByteArray).extract 0 ((ji21) : Int).toNat) t263 (bt271.2.2.2.2 != bt277.2.2.2.2) x257000_11 x257001_11 x257002_11 x257003_11 t259 t260 t261 t262))))))) = some r := H
              have A24 := Aside0.mk A240
              clear A240
              replace H := Option.bind_eq_some_iff.mp H
              obtain ⟨⟨t265, t266, t267, t268, t269⟩, A250, H⟩ := H
              replace H : ((ver_Pseudo.f a0 x257000_11 x257001_11 x257002_11 x257003_11 a5 a4).bind fun bt271 => ((transhumanceref2_Pseudo.f a0 x257000_11 x257001_11 x257002_11 x257003_11 a5 a4).bind fun bt277 => (if (!(t259 == t265) || (!(t260 == t266) || (!(t261 == t267) || (!(t262.toList == t268.toList))))) = true then (transhumancelaw2_VerPseudos.j1 kj11 a0 t257 ((⟨#[48, 49, 50, 51, 52, 53, 54, 55, 56, 57, 97, 98, 99, 100, 101, 102, 48, 49, 50, 51]⟩ : ByteArray).extract 0 ((ji21) : Int).toNat) t263 true x257000_11 x257001_11 x257002_11 x257003_11 t259 t260 t261 t262) else (if (t263 != t269) = true then (transhumancelaw2_VerPseudos.j1 kj11 a0 t257 ((⟨#[48, 49, 50, 51, 52, 53, 54, 55, 56, 57, 97, 98, 99, 100, 101, 102, 48, 49, 50, 51]⟩ : ByteArray).extract 0 ((ji21) : Int).toNat) t263 true x257000_11 x257001_11 x257002_11 x257003_11 t259 t260 t261 t262) else (if (!(bt271.1 == bt277.1) || (!(bt271.2.1 == bt277.2.1) || (!(bt271.2.2.1 == bt277.2.2.1) || (!(bt271.2.2.2.1.toList == bt277.2.2.2.1.toList))))) = true then (transhumancelaw2_VerPseudos.j1 kj11 a0 t257 ((⟨#[48, 49, 50, 51, 52, 53, 54, 55, 56, 57, 97, 98, 99, 100, 101, 102, 48, 49, 50, 51]⟩ : ByteArray).extract 0 ((ji21) : Int).toNat) t263 true x257000_11 x257001_11 x257002_11 x257003_11 t259 t260 t261 t262) else (transhumancelaw2_VerPseudos.j1 kj11 a0 t257 ((⟨#[48, 49, 50, 51, 52, 53, 54, 55, 56, 57, 97, 98, 99, 100, 101, 102, 48, 49, 50, 51]⟩ : ByteArray).extract 0 ((ji21) : Int).toNat) t263 (bt271.2.2.2.2 != bt277.2.2.2.2) x257000_11 x257001_11 x257002_11 x257003_11 t259 t260 t261 t262)))))) = some r := H
              have A25 := Aside0.mk A250
              clear A250
              replace H := Option.bind_eq_some_iff.mp H
              obtain ⟨⟨t271, t272, t273, t274, t275⟩, A260, H⟩ := H
              replace H : ((transhumanceref2_Pseudo.f a0 x257000_11 x257001_11 x257002_11 x257003_11 a5 a4).bind fun bt277 => (if (!(t259 == t265) || (!(t260 == t266) || (!(t261 == t267) || (!(t262.toList == t268.toList))))) = true then (transhumancelaw2_VerPseudos.j1 kj11 a0 t257 ((⟨#[48, 49, 50, 51, 52, 53, 54, 55, 56, 57, 97, 98, 99, 100, 101, 102, 48, 49, 50, 51]⟩ : ByteArray).extract 0 ((ji21) : Int).toNat) t263 true x257000_11 x257001_11 x257002_11 x257003_11 t259 t260 t261 t262) else (if (t263 != t269) = true then (transhumancelaw2_VerPseudos.j1 kj11 a0 t257 ((⟨#[48, 49, 50, 51, 52, 53, 54, 55, 56, 57, 97, 98, 99, 100, 101, 102, 48, 49, 50, 51]⟩ : ByteArray).extract 0 ((ji21) : Int).toNat) t263 true x257000_11 x257001_11 x257002_11 x257003_11 t259 t260 t261 t262) else (if (!(t271 == bt277.1) || (!(t272 == bt277.2.1) || (!(t273 == bt277.2.2.1) || (!(t274.toList == bt277.2.2.2.1.toList))))) = true then (transhumancelaw2_VerPseudos.j1 kj11 a0 t257 ((⟨#[48, 49, 50, 51, 52, 53, 54, 55, 56, 57, 97, 98, 99, 100, 101, 102, 48, 49, 50, 51]⟩ : ByteArray).extract 0 ((ji21) : Int).toNat) t263 true x257000_11 x257001_11 x257002_11 x257003_11 t259 t260 t261 t262) else (transhumancelaw2_VerPseudos.j1 kj11 a0 t257 ((⟨#[48, 49, 50, 51, 52, 53, 54, 55, 56, 57, 97, 98, 99, 100, 101, 102, 48, 49, 50, 51]⟩ : ByteArray).extract 0 ((ji21) : Int).toNat) t263 (t275 != bt277.2.2.2.2) x257000_11 x257001_11 x257002_11 x257003_11 t259 t260 t261 t262))))) = some r := H
              have A26 := Aside0.mk A260
              clear A260
              replace H := Option.bind_eq_some_iff.mp H
              obtain ⟨⟨t277, t278, t279, t280, t281⟩, A270, H⟩ := H
              replace H : (if (!(t259 == t265) || (!(t260 == t266) || (!(t261 == t267) || (!(t262.toList == t268.toList))))) = true then (transhumancelaw2_VerPseudos.j1 kj11 a0 t257 ((⟨#[48, 49, 50, 51, 52, 53, 54, 55, 56, 57, 97, 98, 99, 100, 101, 102, 48, 49, 50, 51]⟩ : ByteArray).extract 0 ((ji21) : Int).toNat) t263 true x257000_11 x257001_11 x257002_11 x257003_11 t259 t260 t261 t262) else (if (t263 != t269) = true then (transhumancelaw2_VerPseudos.j1 kj11 a0 t257 ((⟨#[48, 49, 50, 51, 52, 53, 54, 55, 56, 57, 97, 98, 99, 100, 101, 102, 48, 49, 50, 51]⟩ : ByteArray).extract 0 ((ji21) : Int).toNat) t263 true x257000_11 x257001_11 x257002_11 x257003_11 t259 t260 t261 t262) else (if (!(t271 == t277) || (!(t272 == t278) || (!(t273 == t279) || (!(t274.toList == t280.toList))))) = true then (transhumancelaw2_VerPseudos.j1 kj11 a0 t257 ((⟨#[48, 49, 50, 51, 52, 53, 54, 55, 56, 57, 97, 98, 99, 100, 101, 102, 48, 49, 50, 51]⟩ : ByteArray).extract 0 ((ji21) : Int).toNat) t263 true x257000_11 x257001_11 x257002_11 x257003_11 t259 t260 t261 t262) else (transhumancelaw2_VerPseudos.j1 kj11 a0 t257 ((⟨#[48, 49, 50, 51, 52, 53, 54, 55, 56, 57, 97, 98, 99, 100, 101, 102, 48, 49, 50, 51]⟩ : ByteArray).extract 0 ((ji21) : Int).toNat) t263 (t275 != t281) x257000_11 x257001_11 x257002_11 x257003_11 t259 t260 t261 t262)))) = some r := H
              have A27 := Aside0.mk A270
              clear A270
              have HC28 := Aside0.mk H
              clear H
              go_upto_region 14 with (first | ((with_reducible refine gate_callee (f := 13) rfl ?_); refine goesL_ (some 40) rfl rfl Tryz.func13 (by kernel_rfl) rfl #[.int .i64 a3, .int .i64 100000000000000] rfl (by (try simp only [List.map_toArray, List.map_cons, List.map_nil]); first | done | rfl | (simp only [List.length_drop, List.length_take]; rfl)) ?_; (with_reducible refine (transhumancelaw2_within.calls a3 100000000000000 t257 _ A19.out).mono ?_); rintro e w' ⟨rfl, ⟨nd, rfl⟩⟩; refine ⟨_, rfl, ?_⟩; (try (rw [drewN_self wc]; generalize hq_ : World.drewN wc _ = wc; have n0_ : Aside0 (wc.heap[gb256]? = some (.cells #[.int .i64 x257000_11, .int .i64 x257001_11, .int .i64 x257002_11, .string x257003_11] 25 (0, 0))) := ⟨by rw [← hq_]; exact (by (with_reducible repeat (first | refine blk_drewN ?_ _ | refine blk_drew ?_ | refine blk_alloc ?_ _)); exact BK256.out)⟩; have n1_ : Aside0 (Below w.heap.size w wc) := ⟨by rw [← hq_]; exact (by repeat (first | (with_reducible first | exact HB.out | apply below_alloc | apply pw_below_drewN | apply below_drew1 | refine below_set ?_ GE256.out) | exact HB.out))⟩; clear BK256 HB hq_; have BK256 := n0_; have HB := n1_; clear n0_ n1_))) | ((with_reducible refine gate_callee (f := 13) rfl ?_); refine goesL_ (some 42) rfl rfl Tryz.func13 (by kernel_rfl) rfl #[.int .i64 a3, .int .i64 8] rfl (by (try simp only [List.map_toArray, List.map_cons, List.map_nil]); first | done | rfl | (simp only [List.length_drop, List.length_take]; rfl)) ?_; (with_reducible refine (transhumancelaw2_within.calls a3 8 t258 _ A20.out).mono ?_); rintro e w' ⟨rfl, ⟨nd, rfl⟩⟩; refine ⟨_, rfl, ?_⟩; (try (rw [drewN_self wc]; generalize hq_ : World.drewN wc _ = wc; have n0_ : Aside0 (wc.heap[gb256]? = some (.cells #[.int .i64 x257000_11, .int .i64 x257001_11, .int .i64 x257002_11, .string x257003_11] 25 (0, 0))) := ⟨by rw [← hq_]; exact (by (with_reducible repeat (first | refine blk_drewN ?_ _ | refine blk_drew ?_ | refine blk_alloc ?_ _)); exact BK256.out)⟩; have n1_ : Aside0 (Below w.heap.size w wc) := ⟨by rw [← hq_]; exact (by repeat (first | (with_reducible first | exact HB.out | apply below_alloc | apply pw_below_drewN | apply below_drew1 | refine below_set ?_ GE256.out) | exact HB.out))⟩; clear BK256 HB hq_; have BK256 := n0_; have HB := n1_; clear n0_ n1_)); have hcz29_0 : wc.cell? ⟨gb256, 0, none⟩ = some (.int .i64 x257000_11) := (blk_cell BK256.out 0).trans rfl; have hcz29_1 : wc.cell? ⟨gb256, 1, none⟩ = some (.int .i64 x257001_11) := (blk_cell BK256.out 1).trans rfl; have hcz29_2 : wc.cell? ⟨gb256, 2, none⟩ = some (.int .i64 x257002_11) := (blk_cell BK256.out 2).trans rfl; have hcz29_3 : wc.cell? ⟨gb256, 3, none⟩ = some (.string x257003_11) := (blk_cell BK256.out 3).trans rfl; have hfz29_0 := blk_frozen BK256.out 0; have hfz29_1 := blk_frozen BK256.out 1; have hfz29_2 := blk_frozen BK256.out 2; have hfz29_3 := blk_frozen BK256.out 3) | ((with_reducible refine gate_callee (f := 23) rfl ?_); refine goesL_ (some 50) rfl rfl Tryz.func23 (by kernel_rfl) rfl #[.bool a0, .agg #[.int .i64 x257000_11, .int .i64 x257001_11, .int .i64 x257002_11, .string x257003_11], .int .i64 t257, .string ((⟨#[48, 49, 50, 51, 52, 53, 54, 55, 56, 57, 97, 98, 99, 100, 101, 102, 48, 49, 50, 51]⟩ : ByteArray).extract 0 ((ji21) : Int).toNat)] rfl (by (try simp only [List.map_toArray, List.map_cons, List.map_nil]); first | done | (simp only [hji21]; rfl) | rfl | (simp only [List.length_drop, List.length_take]; rfl)) ?_; (with_reducible refine (ver_Pseudo.calls a0 x257000_11 x257001_11 x257002_11 x257003_11 t257 ((⟨#[48, 49, 50, 51, 52, 53, 54, 55, 56, 57, 97, 98, 99, 100, 101, 102, 48, 49, 50, 51]⟩ : ByteArray).extract 0 ((ji21) : Int).toNat) t259 t260 t261 t262 t263 _ ?side1 A24.out).mono ?_); (case side1 => exact GL.below0 hG (by repeat (first | (with_reducible first | exact HB.out | apply below_alloc | apply pw_below_drewN | apply below_drew1 | refine below_set ?_ GE256.out) | exact HB.out))); rintro e w30 ⟨rfl, hb⟩; refine ⟨_, rfl, ?_⟩; have n0_ := Aside0.mk (blk_below (g := gb256) (o := .cells #[.int .i64 x257000_11, .int .i64 x257001_11, .int .i64 x257002_11, .string x257003_11] 25 (0, 0)) (by (with_reducible repeat (first | refine blk_drewN ?_ _ | refine blk_drew ?_ | refine blk_alloc ?_ _)); exact BK256.out) hb); have n1_ := Aside0.mk (below_step (by repeat (first | (with_reducible first | exact HB.out | apply below_alloc | apply pw_below_drewN | apply below_drew1 | refine below_set ?_ GE256.out) | exact HB.out)) hb); clear BK256; clear HB; have BK256 := n0_; have HB := n1_; clear n0_ n1_; (try clear hb); (try clear hb2); (try clear hk); (try clear hi)) | ((with_reducible refine gate_dst (N := 16) rfl ?_); refine box_event ?hg (N := 16) ?hd (cs := #[.int .i64 0, .int .i64 0, .int .i64 0, .string (⟨#[]⟩ : ByteArray)]) (t := 25) ?hr ?_; (case hd => rfl); (case hg => rfl); (case hr => first | (go_simp; done) | (go_simp; rfl)); intro gb264 hg w31 hbox hb; have n0_ := Aside0.mk (blk_below (g := gb256) (o := .cells #[.int .i64 x257000_11, .int .i64 x257001_11, .int .i64 x257002_11, .string x257003_11] 25 (0, 0)) (by (with_reducible repeat (first | refine blk_drewN ?_ _ | refine blk_drew ?_ | refine blk_alloc ?_ _)); exact BK256.out) hb); have n1_ := Aside0.mk (below_step (by repeat (first | (with_reducible first | exact HB.out | apply below_alloc | apply pw_below_drewN | apply below_drew1 | refine below_set ?_ GE256.out) | exact HB.out)) hb); have n2_ := Aside0.mk (hbox); have n3_ := Aside0.mk ((by rw [hg]; exact (below_size (by repeat (first | (with_reducible first | exact HB.out | apply below_alloc | apply pw_below_drewN | apply below_drew1 | refine below_set ?_ GE256.out) | exact HB.out))) : w.heap.size ≤ gb264)); have n4_ := Aside0.mk ((by rw [hg]; exact (below_size (by repeat (first | (with_reducible first | exact HB.out | apply below_alloc | apply pw_below_drewN | apply below_drew1 | refine below_set ?_ GE256.out) | exact HB.out))) : w.heap.size ≤ gb264)); have n5_ := Aside0.mk ((by rw [hg]; exact Nat.ne_of_lt (blk_lt (g := gb256) (o := .cells #[.int .i64 x257000_11, .int .i64 x257001_11, .int .i64 x257002_11, .string x257003_11] 25 (0, 0)) (by (with_reducible repeat (first | refine blk_drewN ?_ _ | refine blk_drew ?_ | refine blk_alloc ?_ _)); exact BK256.out)) : gb256 ≠ gb264)); have n6_ := Aside0.mk ((by rw [hg]; exact Nat.ne_of_gt (blk_lt (g := gb256) (o := .cells #[.int .i64 x257000_11, .int .i64 x257001_11, .int .i64 x257002_11, .string x257003_11] 25 (0, 0)) (by (with_reducible repeat (first | refine blk_drewN ?_ _ | refine blk_drew ?_ | refine blk_alloc ?_ _)); exact BK256.out)) : gb264 ≠ gb256)); clear BK256; clear HB; have BK256 := n0_; have HB := n1_; have BK264 := n2_; have GW264 := n3_; have GE264 := n4_; have NB256_264 := n5_; have NB264_256 := n6_; clear n0_ n1_ n2_ n3_ n4_ n5_ n6_; clear hb hbox hg; have hnb32 := NB264_256.out; have hnc32 := NB256_264.out; have hcz33_0 : w31.cell? ⟨gb264, 0, none⟩ = some (.int .i64 0) := (blk_cell BK264.out 0).trans rfl; have hcz33_1 : w31.cell? ⟨gb264, 1, none⟩ = some (.int .i64 0) := (blk_cell BK264.out 1).trans rfl; have hcz33_2 : w31.cell? ⟨gb264, 2, none⟩ = some (.int .i64 0) := (blk_cell BK264.out 2).trans rfl; have hcz33_3 : w31.cell? ⟨gb264, 3, none⟩ = some (.string (⟨#[]⟩ : ByteArray)) := (blk_cell BK264.out 3).trans rfl; have hfz33_0 := blk_frozen BK264.out 0; have hfz33_1 := blk_frozen BK264.out 1; have hfz33_2 := blk_frozen BK264.out 2; have hfz33_3 := blk_frozen BK264.out 3; have hcz34_0 : w31.cell? ⟨gb256, 0, none⟩ = some (.int .i64 x257000_11) := (blk_cell BK256.out 0).trans rfl; have hcz34_1 : w31.cell? ⟨gb256, 1, none⟩ = some (.int .i64 x257001_11) := (blk_cell BK256.out 1).trans rfl; have hcz34_2 : w31.cell? ⟨gb256, 2, none⟩ = some (.int .i64 x257002_11) := (blk_cell BK256.out 2).trans rfl; have hcz34_3 : w31.cell? ⟨gb256, 3, none⟩ = some (.string x257003_11) := (blk_cell BK256.out 3).trans rfl; have hfz34_0 := blk_frozen BK256.out 0; have hfz34_1 := blk_frozen BK256.out 1; have hfz34_2 := blk_frozen BK256.out 2; have hfz34_3 := blk_frozen BK256.out 3) | ((with_reducible refine gate_callee (f := 24) rfl ?_); refine goesL_ (some 58) rfl rfl Tryz.func24 (by kernel_rfl) rfl #[.bool a0, .agg #[.int .i64 x257000_11, .int .i64 x257001_11, .int .i64 x257002_11, .string x257003_11], .int .i64 t257, .string ((⟨#[48, 49, 50, 51, 52, 53, 54, 55, 56, 57, 97, 98, 99, 100, 101, 102, 48, 49, 50, 51]⟩ : ByteArray).extract 0 ((ji21) : Int).toNat)] rfl (by (try simp only [List.map_toArray, List.map_cons, List.map_nil]); first | done | (simp only [hji21]; rfl) | rfl | (simp only [List.length_drop, List.length_take]; rfl)) ?_; (with_reducible refine (transhumanceref2_Pseudo.calls a0 x257000_11 x257001_11 x257002_11 x257003_11 t257 ((⟨#[48, 49, 50, 51, 52, 53, 54, 55, 56, 57, 97, 98, 99, 100, 101, 102, 48, 49, 50, 51]⟩ : ByteArray).extract 0 ((ji21) : Int).toNat) t265 t266 t267 t268 t269 _ A25.out).mono ?_); rintro e w35 ⟨rfl, hb⟩; refine ⟨_, rfl, ?_⟩; have n0_ := Aside0.mk (blk_below (g := gb256) (o := .cells #[.int .i64 x257000_11, .int .i64 x257001_11, .int .i64 x257002_11, .string x257003_11] 25 (0, 0)) (by (with_reducible repeat (first | refine blk_drewN ?_ _ | refine blk_drew ?_ | refine blk_alloc ?_ _)); refine blk_far ?_ NB256_264.out _; (with_reducible repeat (first | refine blk_drewN ?_ _ | refine blk_drew ?_ | refine blk_alloc ?_ _)); refine blk_far ?_ NB256_264.out _; (with_reducible repeat (first | refine blk_drewN ?_ _ | refine blk_drew ?_ | refine blk_alloc ?_ _)); refine blk_far ?_ NB256_264.out _; (with_reducible repeat (first | refine blk_drewN ?_ _ | refine blk_drew ?_ | refine blk_alloc ?_ _)); refine blk_far ?_ NB256_264.out _; (with_reducible repeat (first | refine blk_drewN ?_ _ | refine blk_drew ?_ | refine blk_alloc ?_ _)); exact BK256.out) hb); have n1_ := Aside0.mk (blk_below (g := gb264) (o := .cells #[.int .i64 t259, .int .i64 t260, .int .i64 t261, .string t262] 25 (0, 0)) (by (with_reducible repeat (first | refine blk_drewN ?_ _ | refine blk_drew ?_ | refine blk_alloc ?_ _)); refine blk_put (cs := #[.int .i64 t259, .int .i64 t260, .int .i64 t261, .string (⟨#[]⟩ : ByteArray)]) ?_ 3 _ rfl; (with_reducible repeat (first | refine blk_drewN ?_ _ | refine blk_drew ?_ | refine blk_alloc ?_ _)); refine blk_put (cs := #[.int .i64 t259, .int .i64 t260, .int .i64 0, .string (⟨#[]⟩ : ByteArray)]) ?_ 2 _ rfl; (with_reducible repeat (first | refine blk_drewN ?_ _ | refine blk_drew ?_ | refine blk_alloc ?_ _)); refine blk_put (cs := #[.int .i64 t259, .int .i64 0, .int .i64 0, .string (⟨#[]⟩ : ByteArray)]) ?_ 1 _ rfl; (with_reducible repeat (first | refine blk_drewN ?_ _ | refine blk_drew ?_ | refine blk_alloc ?_ _)); refine blk_put (cs := #[.int .i64 0, .int .i64 0, .int .i64 0, .string (⟨#[]⟩ : ByteArray)]) ?_ 0 _ rfl; (with_reducible repeat (first | refine blk_drewN ?_ _ | refine blk_drew ?_ | refine blk_alloc ?_ _)); exact BK264.out) hb); have n2_ := Aside0.mk (below_step (by repeat (first | (with_reducible first | exact HB.out | apply below_alloc | apply pw_below_drewN | apply below_drew1 | refine below_set ?_ GE256.out | refine below_set ?_ GE264.out) | exact HB.out)) hb); clear BK256; clear BK264; clear HB; have BK256 := n0_; have BK264 := n1_; have HB := n2_; clear n0_ n1_ n2_; (try clear hb); (try clear hb2); (try clear hk); (try clear hi)) | ((with_reducible refine gate_dst (N := 18) rfl ?_); refine box_event ?hg (N := 18) ?hd (cs := #[.int .i64 0, .int .i64 0, .int .i64 0, .string (⟨#[]⟩ : ByteArray)]) (t := 25) ?hr ?_; (case hd => rfl); (case hg => rfl); (case hr => first | (go_simp; done) | (go_simp; rfl)); intro gb270 hg w36 hbox hb; have n0_ := Aside0.mk (blk_below (g := gb256) (o := .cells #[.int .i64 x257000_11, .int .i64 x257001_11, .int .i64 x257002_11, .string x257003_11] 25 (0, 0)) (by (with_reducible repeat (first | refine blk_drewN ?_ _ | refine blk_drew ?_ | refine blk_alloc ?_ _)); exact BK256.out) hb); have n1_ := Aside0.mk (blk_below (g := gb264) (o := .cells #[.int .i64 t259, .int .i64 t260, .int .i64 t261, .string t262] 25 (0, 0)) (by (with_reducible repeat (first | refine blk_drewN ?_ _ | refine blk_drew ?_ | refine blk_alloc ?_ _)); exact BK264.out) hb); have n2_ := Aside0.mk (below_step (by repeat (first | (with_reducible first | exact HB.out | apply below_alloc | apply pw_below_drewN | apply below_drew1 | refine below_set ?_ GE256.out | refine below_set ?_ GE264.out) | exact HB.out)) hb); have n3_ := Aside0.mk (hbox); have n4_ := Aside0.mk ((by rw [hg]; exact (below_size (by repeat (first | (with_reducible first | exact HB.out | apply below_alloc | apply pw_below_drewN | apply below_drew1 | refine below_set ?_ GE256.out | refine below_set ?_ GE264.out) | exact HB.out))) : w.heap.size ≤ gb270)); have n5_ := Aside0.mk ((by rw [hg]; exact (below_size (by repeat (first | (with_reducible first | exact HB.out | apply below_alloc | apply pw_below_drewN | apply below_drew1 | refine below_set ?_ GE256.out | refine below_set ?_ GE264.out) | exact HB.out))) : w.heap.size ≤ gb270)); have n6_ := Aside0.mk ((by rw [hg]; exact Nat.ne_of_lt (blk_lt (g := gb256) (o := .cells #[.int .i64 x257000_11, .int .i64 x257001_11, .int .i64 x257002_11, .string x257003_11] 25 (0, 0)) (by (with_reducible repeat (first | refine blk_drewN ?_ _ | refine blk_drew ?_ | refine blk_alloc ?_ _)); exact BK256.out)) : gb256 ≠ gb270)); have n7_ := Aside0.mk ((by rw [hg]; exact Nat.ne_of_gt (blk_lt (g := gb256) (o := .cells #[.int .i64 x257000_11, .int .i64 x257001_11, .int .i64 x257002_11, .string x257003_11] 25 (0, 0)) (by (with_reducible repeat (first | refine blk_drewN ?_ _ | refine blk_drew ?_ | refine blk_alloc ?_ _)); exact BK256.out)) : gb270 ≠ gb256)); have n8_ := Aside0.mk ((by rw [hg]; exact Nat.ne_of_lt (blk_lt (g := gb264) (o := .cells #[.int .i64 t259, .int .i64 t260, .int .i64 t261, .string t262] 25 (0, 0)) (by (with_reducible repeat (first | refine blk_drewN ?_ _ | refine blk_drew ?_ | refine blk_alloc ?_ _)); exact BK264.out)) : gb264 ≠ gb270)); have n9_ := Aside0.mk ((by rw [hg]; exact Nat.ne_of_gt (blk_lt (g := gb264) (o := .cells #[.int .i64 t259, .int .i64 t260, .int .i64 t261, .string t262] 25 (0, 0)) (by (with_reducible repeat (first | refine blk_drewN ?_ _ | refine blk_drew ?_ | refine blk_alloc ?_ _)); exact BK264.out)) : gb270 ≠ gb264)); clear BK256; clear BK264; clear HB; have BK256 := n0_; have BK264 := n1_; have HB := n2_; have BK270 := n3_; have GW270 := n4_; have GE270 := n5_; have NB256_270 := n6_; have NB270_256 := n7_; have NB264_270 := n8_; have NB270_264 := n9_; clear n0_ n1_ n2_ n3_ n4_ n5_ n6_ n7_ n8_ n9_; clear hb hbox hg; have hnb37 := NB270_256.out; have hnc37 := NB256_270.out; have hnb38 := NB270_264.out; have hnc38 := NB264_270.out; have hcz39_0 : w36.cell? ⟨gb270, 0, none⟩ = some (.int .i64 0) := (blk_cell BK270.out 0).trans rfl; have hcz39_1 : w36.cell? ⟨gb270, 1, none⟩ = some (.int .i64 0) := (blk_cell BK270.out 1).trans rfl; have hcz39_2 : w36.cell? ⟨gb270, 2, none⟩ = some (.int .i64 0) := (blk_cell BK270.out 2).trans rfl; have hcz39_3 : w36.cell? ⟨gb270, 3, none⟩ = some (.string (⟨#[]⟩ : ByteArray)) := (blk_cell BK270.out 3).trans rfl; have hfz39_0 := blk_frozen BK270.out 0; have hfz39_1 := blk_frozen BK270.out 1; have hfz39_2 := blk_frozen BK270.out 2; have hfz39_3 := blk_frozen BK270.out 3; have hcz40_0 : w36.cell? ⟨gb256, 0, none⟩ = some (.int .i64 x257000_11) := (blk_cell BK256.out 0).trans rfl; have hcz40_1 : w36.cell? ⟨gb256, 1, none⟩ = some (.int .i64 x257001_11) := (blk_cell BK256.out 1).trans rfl; have hcz40_2 : w36.cell? ⟨gb256, 2, none⟩ = some (.int .i64 x257002_11) := (blk_cell BK256.out 2).trans rfl; have hcz40_3 : w36.cell? ⟨gb256, 3, none⟩ = some (.string x257003_11) := (blk_cell BK256.out 3).trans rfl; have hfz40_0 := blk_frozen BK256.out 0; have hfz40_1 := blk_frozen BK256.out 1; have hfz40_2 := blk_frozen BK256.out 2; have hfz40_3 := blk_frozen BK256.out 3) | ((with_reducible refine gate_callee (f := 23) rfl ?_); refine goesL_ (some 66) rfl rfl Tryz.func23 (by kernel_rfl) rfl #[.bool a0, .agg #[.int .i64 x257000_11, .int .i64 x257001_11, .int .i64 x257002_11, .string x257003_11], .int .i64 a5, .string a4] rfl (by (try simp only [List.map_toArray, List.map_cons, List.map_nil]); first | done | rfl | (simp only [List.length_drop, List.length_take]; rfl)) ?_; (with_reducible refine (ver_Pseudo.calls a0 x257000_11 x257001_11 x257002_11 x257003_11 a5 a4 t271 t272 t273 t274 t275 _ ?side1 A26.out).mono ?_); (case side1 => exact GL.below0 hG (by repeat (first | (with_reducible first | exact HB.out | apply below_alloc | apply pw_below_drewN | apply below_drew1 | refine below_set ?_ GE256.out | refine below_set ?_ GE264.out | refine below_set ?_ GE270.out) | exact HB.out))); rintro e w41 ⟨rfl, hb⟩; refine ⟨_, rfl, ?_⟩; have n0_ := Aside0.mk (blk_below (g := gb256) (o := .cells #[.int .i64 x257000_11, .int .i64 x257001_11, .int .i64 x257002_11, .string x257003_11] 25 (0, 0)) (by (with_reducible repeat (first | refine blk_drewN ?_ _ | refine blk_drew ?_ | refine blk_alloc ?_ _)); refine blk_far ?_ NB256_270.out _; (with_reducible repeat (first | refine blk_drewN ?_ _ | refine blk_drew ?_ | refine blk_alloc ?_ _)); refine blk_far ?_ NB256_270.out _; (with_reducible repeat (first | refine blk_drewN ?_ _ | refine blk_drew ?_ | refine blk_alloc ?_ _)); refine blk_far ?_ NB256_270.out _; (with_reducible repeat (first | refine blk_drewN ?_ _ | refine blk_drew ?_ | refine blk_alloc ?_ _)); refine blk_far ?_ NB256_270.out _; (with_reducible repeat (first | refine blk_drewN ?_ _ | refine blk_drew ?_ | refine blk_alloc ?_ _)); exact BK256.out) hb); have n1_ := Aside0.mk (blk_below (g := gb264) (o := .cells #[.int .i64 t259, .int .i64 t260, .int .i64 t261, .string t262] 25 (0, 0)) (by (with_reducible repeat (first | refine blk_drewN ?_ _ | refine blk_drew ?_ | refine blk_alloc ?_ _)); refine blk_far ?_ NB264_270.out _; (with_reducible repeat (first | refine blk_drewN ?_ _ | refine blk_drew ?_ | refine blk_alloc ?_ _)); refine blk_far ?_ NB264_270.out _; (with_reducible repeat (first | refine blk_drewN ?_ _ | refine blk_drew ?_ | refine blk_alloc ?_ _)); refine blk_far ?_ NB264_270.out _; (with_reducible repeat (first | refine blk_drewN ?_ _ | refine blk_drew ?_ | refine blk_alloc ?_ _)); refine blk_far ?_ NB264_270.out _; (with_reducible repeat (first | refine blk_drewN ?_ _ | refine blk_drew ?_ | refine blk_alloc ?_ _)); exact BK264.out) hb); have n2_ := Aside0.mk (blk_below (g := gb270) (o := .cells #[.int .i64 t265, .int .i64 t266, .int .i64 t267, .string t268] 25 (0, 0)) (by (with_reducible repeat (first | refine blk_drewN ?_ _ | refine blk_drew ?_ | refine blk_alloc ?_ _)); refine blk_put (cs := #[.int .i64 t265, .int .i64 t266, .int .i64 t267, .string (⟨#[]⟩ : ByteArray)]) ?_ 3 _ rfl; (with_reducible repeat (first | refine blk_drewN ?_ _ | refine blk_drew ?_ | refine blk_alloc ?_ _)); refine blk_put (cs := #[.int .i64 t265, .int .i64 t266, .int .i64 0, .string (⟨#[]⟩ : ByteArray)]) ?_ 2 _ rfl; (with_reducible repeat (first | refine blk_drewN ?_ _ | refine blk_drew ?_ | refine blk_alloc ?_ _)); refine blk_put (cs := #[.int .i64 t265, .int .i64 0, .int .i64 0, .string (⟨#[]⟩ : ByteArray)]) ?_ 1 _ rfl; (with_reducible repeat (first | refine blk_drewN ?_ _ | refine blk_drew ?_ | refine blk_alloc ?_ _)); refine blk_put (cs := #[.int .i64 0, .int .i64 0, .int .i64 0, .string (⟨#[]⟩ : ByteArray)]) ?_ 0 _ rfl; (with_reducible repeat (first | refine blk_drewN ?_ _ | refine blk_drew ?_ | refine blk_alloc ?_ _)); exact BK270.out) hb); have n3_ := Aside0.mk (below_step (by repeat (first | (with_reducible first | exact HB.out | apply below_alloc | apply pw_below_drewN | apply below_drew1 | refine below_set ?_ GE256.out | refine below_set ?_ GE264.out | refine below_set ?_ GE270.out) | exact HB.out)) hb); clear BK256; clear BK264; clear BK270; clear HB; have BK256 := n0_; have BK264 := n1_; have BK270 := n2_; have HB := n3_; clear n0_ n1_ n2_ n3_; (try clear hb); (try clear hb2); (try clear hk); (try clear hi)) | ((with_reducible refine gate_dst (N := 20) rfl ?_); refine box_event ?hg (N := 20) ?hd (cs := #[.int .i64 0, .int .i64 0, .int .i64 0, .string (⟨#[]⟩ : ByteArray)]) (t := 25) ?hr ?_; (case hd => rfl); (case hg => rfl); (case hr => first | (go_simp; done) | (go_simp; rfl)); intro gb276 hg w42 hbox hb; have n0_ := Aside0.mk (blk_below (g := gb256) (o := .cells #[.int .i64 x257000_11, .int .i64 x257001_11, .int .i64 x257002_11, .string x257003_11] 25 (0, 0)) (by (with_reducible repeat (first | refine blk_drewN ?_ _ | refine blk_drew ?_ | refine blk_alloc ?_ _)); exact BK256.out) hb); have n1_ := Aside0.mk (blk_below (g := gb264) (o := .cells #[.int .i64 t259, .int .i64 t260, .int .i64 t261, .string t262] 25 (0, 0)) (by (with_reducible repeat (first | refine blk_drewN ?_ _ | refine blk_drew ?_ | refine blk_alloc ?_ _)); exact BK264.out) hb); have n2_ := Aside0.mk (blk_below (g := gb270) (o := .cells #[.int .i64 t265, .int .i64 t266, .int .i64 t267, .string t268] 25 (0, 0)) (by (with_reducible repeat (first | refine blk_drewN ?_ _ | refine blk_drew ?_ | refine blk_alloc ?_ _)); exact BK270.out) hb); have n3_ := Aside0.mk (below_step (by repeat (first | (with_reducible first | exact HB.out | apply below_alloc | apply pw_below_drewN | apply below_drew1 | refine below_set ?_ GE256.out | refine below_set ?_ GE264.out | refine below_set ?_ GE270.out) | exact HB.out)) hb); have n4_ := Aside0.mk (hbox); have n5_ := Aside0.mk ((by rw [hg]; exact (below_size (by repeat (first | (with_reducible first | exact HB.out | apply below_alloc | apply pw_below_drewN | apply below_drew1 | refine below_set ?_ GE256.out | refine below_set ?_ GE264.out | refine below_set ?_ GE270.out) | exact HB.out))) : w.heap.size ≤ gb276)); have n6_ := Aside0.mk ((by rw [hg]; exact (below_size (by repeat (first | (with_reducible first | exact HB.out | apply below_alloc | apply pw_below_drewN | apply below_drew1 | refine below_set ?_ GE256.out | refine below_set ?_ GE264.out | refine below_set ?_ GE270.out) | exact HB.out))) : w.heap.size ≤ gb276)); have n7_ := Aside0.mk ((by rw [hg]; exact Nat.ne_of_lt (blk_lt (g := gb256) (o := .cells #[.int .i64 x257000_11, .int .i64 x257001_11, .int .i64 x257002_11, .string x257003_11] 25 (0, 0)) (by (with_reducible repeat (first | refine blk_drewN ?_ _ | refine blk_drew ?_ | refine blk_alloc ?_ _)); exact BK256.out)) : gb256 ≠ gb276)); have n8_ := Aside0.mk ((by rw [hg]; exact Nat.ne_of_gt (blk_lt (g := gb256) (o := .cells #[.int .i64 x257000_11, .int .i64 x257001_11, .int .i64 x257002_11, .string x257003_11] 25 (0, 0)) (by (with_reducible repeat (first | refine blk_drewN ?_ _ | refine blk_drew ?_ | refine blk_alloc ?_ _)); exact BK256.out)) : gb276 ≠ gb256)); have n9_ := Aside0.mk ((by rw [hg]; exact Nat.ne_of_lt (blk_lt (g := gb264) (o := .cells #[.int .i64 t259, .int .i64 t260, .int .i64 t261, .string t262] 25 (0, 0)) (by (with_reducible repeat (first | refine blk_drewN ?_ _ | refine blk_drew ?_ | refine blk_alloc ?_ _)); exact BK264.out)) : gb264 ≠ gb276)); have n10_ := Aside0.mk ((by rw [hg]; exact Nat.ne_of_gt (blk_lt (g := gb264) (o := .cells #[.int .i64 t259, .int .i64 t260, .int .i64 t261, .string t262] 25 (0, 0)) (by (with_reducible repeat (first | refine blk_drewN ?_ _ | refine blk_drew ?_ | refine blk_alloc ?_ _)); exact BK264.out)) : gb276 ≠ gb264)); have n11_ := Aside0.mk ((by rw [hg]; exact Nat.ne_of_lt (blk_lt (g := gb270) (o := .cells #[.int .i64 t265, .int .i64 t266, .int .i64 t267, .string t268] 25 (0, 0)) (by (with_reducible repeat (first | refine blk_drewN ?_ _ | refine blk_drew ?_ | refine blk_alloc ?_ _)); exact BK270.out)) : gb270 ≠ gb276)); have n12_ := Aside0.mk ((by rw [hg]; exact Nat.ne_of_gt (blk_lt (g := gb270) (o := .cells #[.int .i64 t265, .int .i64 t266, .int .i64 t267, .string t268] 25 (0, 0)) (by (with_reducible repeat (first | refine blk_drewN ?_ _ | refine blk_drew ?_ | refine blk_alloc ?_ _)); exact BK270.out)) : gb276 ≠ gb270)); clear BK256; clear BK264; clear BK270; clear HB; have BK256 := n0_; have BK264 := n1_; have BK270 := n2_; have HB := n3_; have BK276 := n4_; have GW276 := n5_; have GE276 := n6_; have NB256_276 := n7_; have NB276_256 := n8_; have NB264_276 := n9_; have NB276_264 := n10_; have NB270_276 := n11_; have NB276_270 := n12_; clear n0_ n1_ n2_ n3_ n4_ n5_ n6_ n7_ n8_ n9_ n10_ n11_ n12_; clear hb hbox hg; have hnb43 := NB276_256.out; have hnc43 := NB256_276.out; have hnb44 := NB276_264.out; have hnc44 := NB264_276.out; have hnb45 := NB276_270.out; have hnc45 := NB270_276.out; have hcz46_0 : w42.cell? ⟨gb276, 0, none⟩ = some (.int .i64 0) := (blk_cell BK276.out 0).trans rfl; have hcz46_1 : w42.cell? ⟨gb276, 1, none⟩ = some (.int .i64 0) := (blk_cell BK276.out 1).trans rfl; have hcz46_2 : w42.cell? ⟨gb276, 2, none⟩ = some (.int .i64 0) := (blk_cell BK276.out 2).trans rfl; have hcz46_3 : w42.cell? ⟨gb276, 3, none⟩ = some (.string (⟨#[]⟩ : ByteArray)) := (blk_cell BK276.out 3).trans rfl; have hfz46_0 := blk_frozen BK276.out 0; have hfz46_1 := blk_frozen BK276.out 1; have hfz46_2 := blk_frozen BK276.out 2; have hfz46_3 := blk_frozen BK276.out 3; have hcz47_0 : w42.cell? ⟨gb256, 0, none⟩ = some (.int .i64 x257000_11) := (blk_cell BK256.out 0).trans rfl; have hcz47_1 : w42.cell? ⟨gb256, 1, none⟩ = some (.int .i64 x257001_11) := (blk_cell BK256.out 1).trans rfl; have hcz47_2 : w42.cell? ⟨gb256, 2, none⟩ = some (.int .i64 x257002_11) := (blk_cell BK256.out 2).trans rfl; have hcz47_3 : w42.cell? ⟨gb256, 3, none⟩ = some (.string x257003_11) := (blk_cell BK256.out 3).trans rfl; have hfz47_0 := blk_frozen BK256.out 0; have hfz47_1 := blk_frozen BK256.out 1; have hfz47_2 := blk_frozen BK256.out 2; have hfz47_3 := blk_frozen BK256.out 3) | ((with_reducible refine gate_callee (f := 24) rfl ?_); refine goesL_ (some 74) rfl rfl Tryz.func24 (by kernel_rfl) rfl #[.bool a0, .agg #[.int .i64 x257000_11, .int .i64 x257001_11, .int .i64 x257002_11, .string x257003_11], .int .i64 a5, .string a4] rfl (by (try simp only [List.map_toArray, List.map_cons, List.map_nil]); first | done | rfl | (simp only [List.length_drop, List.length_take]; rfl)) ?_; (with_reducible refine (transhumanceref2_Pseudo.calls a0 x257000_11 x257001_11 x257002_11 x257003_11 a5 a4 t277 t278 t279 t280 t281 _ A27.out).mono ?_); rintro e w48 ⟨rfl, hb⟩; refine ⟨_, rfl, ?_⟩; have n0_ := Aside0.mk (blk_below (g := gb256) (o := .cells #[.int .i64 x257000_11, .int .i64 x257001_11, .int .i64 x257002_11, .string x257003_11] 25 (0, 0)) (by (with_reducible repeat (first | refine blk_drewN ?_ _ | refine blk_drew ?_ | refine blk_alloc ?_ _)); refine blk_far ?_ NB256_276.out _; (with_reducible repeat (first | refine blk_drewN ?_ _ | refine blk_drew ?_ | refine blk_alloc ?_ _)); refine blk_far ?_ NB256_276.out _; (with_reducible repeat (first | refine blk_drewN ?_ _ | refine blk_drew ?_ | refine blk_alloc ?_ _)); refine blk_far ?_ NB256_276.out _; (with_reducible repeat (first | refine blk_drewN ?_ _ | refine blk_drew ?_ | refine blk_alloc ?_ _)); refine blk_far ?_ NB256_276.out _; (with_reducible repeat (first | refine blk_drewN ?_ _ | refine blk_drew ?_ | refine blk_alloc ?_ _)); exact BK256.out) hb); have n1_ := Aside0.mk (blk_below (g := gb264) (o := .cells #[.int .i64 t259, .int .i64 t260, .int .i64 t261, .string t262] 25 (0, 0)) (by (with_reducible repeat (first | refine blk_drewN ?_ _ | refine blk_drew ?_ | refine blk_alloc ?_ _)); refine blk_far ?_ NB264_276.out _; (with_reducible repeat (first | refine blk_drewN ?_ _ | refine blk_drew ?_ | refine blk_alloc ?_ _)); refine blk_far ?_ NB264_276.out _; (with_reducible repeat (first | refine blk_drewN ?_ _ | refine blk_drew ?_ | refine blk_alloc ?_ _)); refine blk_far ?_ NB264_276.out _; (with_reducible repeat (first | refine blk_drewN ?_ _ | refine blk_drew ?_ | refine blk_alloc ?_ _)); refine blk_far ?_ NB264_276.out _; (with_reducible repeat (first | refine blk_drewN ?_ _ | refine blk_drew ?_ | refine blk_alloc ?_ _)); exact BK264.out) hb); have n2_ := Aside0.mk (blk_below (g := gb270) (o := .cells #[.int .i64 t265, .int .i64 t266, .int .i64 t267, .string t268] 25 (0, 0)) (by (with_reducible repeat (first | refine blk_drewN ?_ _ | refine blk_drew ?_ | refine blk_alloc ?_ _)); refine blk_far ?_ NB270_276.out _; (with_reducible repeat (first | refine blk_drewN ?_ _ | refine blk_drew ?_ | refine blk_alloc ?_ _)); refine blk_far ?_ NB270_276.out _; (with_reducible repeat (first | refine blk_drewN ?_ _ | refine blk_drew ?_ | refine blk_alloc ?_ _)); refine blk_far ?_ NB270_276.out _; (with_reducible repeat (first | refine blk_drewN ?_ _ | refine blk_drew ?_ | refine blk_alloc ?_ _)); refine blk_far ?_ NB270_276.out _; (with_reducible repeat (first | refine blk_drewN ?_ _ | refine blk_drew ?_ | refine blk_alloc ?_ _)); exact BK270.out) hb); have n3_ := Aside0.mk (blk_below (g := gb276) (o := .cells #[.int .i64 t271, .int .i64 t272, .int .i64 t273, .string t274] 25 (0, 0)) (by (with_reducible repeat (first | refine blk_drewN ?_ _ | refine blk_drew ?_ | refine blk_alloc ?_ _)); refine blk_put (cs := #[.int .i64 t271, .int .i64 t272, .int .i64 t273, .string (⟨#[]⟩ : ByteArray)]) ?_ 3 _ rfl; (with_reducible repeat (first | refine blk_drewN ?_ _ | refine blk_drew ?_ | refine blk_alloc ?_ _)); refine blk_put (cs := #[.int .i64 t271, .int .i64 t272, .int .i64 0, .string (⟨#[]⟩ : ByteArray)]) ?_ 2 _ rfl; (with_reducible repeat (first | refine blk_drewN ?_ _ | refine blk_drew ?_ | refine blk_alloc ?_ _)); refine blk_put (cs := #[.int .i64 t271, .int .i64 0, .int .i64 0, .string (⟨#[]⟩ : ByteArray)]) ?_ 1 _ rfl; (with_reducible repeat (first | refine blk_drewN ?_ _ | refine blk_drew ?_ | refine blk_alloc ?_ _)); refine blk_put (cs := #[.int .i64 0, .int .i64 0, .int .i64 0, .string (⟨#[]⟩ : ByteArray)]) ?_ 0 _ rfl; (with_reducible repeat (first | refine blk_drewN ?_ _ | refine blk_drew ?_ | refine blk_alloc ?_ _)); exact BK276.out) hb); have n4_ := Aside0.mk (below_step (by repeat (first | (with_reducible first | exact HB.out | apply below_alloc | apply pw_below_drewN | apply below_drew1 | refine below_set ?_ GE256.out | refine below_set ?_ GE264.out | refine below_set ?_ GE270.out | refine below_set ?_ GE276.out) | exact HB.out)) hb); clear BK256; clear BK264; clear BK270; clear BK276; clear HB; have BK256 := n0_; have BK264 := n1_; have BK270 := n2_; have BK276 := n3_; have HB := n4_; clear n0_ n1_ n2_ n3_ n4_; (try clear hb); (try clear hb2); (try clear hk); (try clear hi)) | ((with_reducible refine gate_dst (N := 22) rfl ?_); refine box_event ?hg (N := 22) ?hd (cs := #[.int .i64 0, .int .i64 0, .int .i64 0, .string (⟨#[]⟩ : ByteArray)]) (t := 25) ?hr ?_; (case hd => rfl); (case hg => rfl); (case hr => first | (go_simp; done) | (go_simp; rfl)); intro gb282 hg w49 hbox hb; have n0_ := Aside0.mk (blk_below (g := gb256) (o := .cells #[.int .i64 x257000_11, .int .i64 x257001_11, .int .i64 x257002_11, .string x257003_11] 25 (0, 0)) (by (with_reducible repeat (first | refine blk_drewN ?_ _ | refine blk_drew ?_ | refine blk_alloc ?_ _)); exact BK256.out) hb); have n1_ := Aside0.mk (blk_below (g := gb264) (o := .cells #[.int .i64 t259, .int .i64 t260, .int .i64 t261, .string t262] 25 (0, 0)) (by (with_reducible repeat (first | refine blk_drewN ?_ _ | refine blk_drew ?_ | refine blk_alloc ?_ _)); exact BK264.out) hb); have n2_ := Aside0.mk (blk_below (g := gb270) (o := .cells #[.int .i64 t265, .int .i64 t266, .int .i64 t267, .string t268] 25 (0, 0)) (by (with_reducible repeat (first | refine blk_drewN ?_ _ | refine blk_drew ?_ | refine blk_alloc ?_ _)); exact BK270.out) hb); have n3_ := Aside0.mk (blk_below (g := gb276) (o := .cells #[.int .i64 t271, .int .i64 t272, .int .i64 t273, .string t274] 25 (0, 0)) (by (with_reducible repeat (first | refine blk_drewN ?_ _ | refine blk_drew ?_ | refine blk_alloc ?_ _)); exact BK276.out) hb); have n4_ := Aside0.mk (below_step (by repeat (first | (with_reducible first | exact HB.out | apply below_alloc | apply pw_below_drewN | apply below_drew1 | refine below_set ?_ GE256.out | refine below_set ?_ GE264.out | refine below_set ?_ GE270.out | refine below_set ?_ GE276.out) | exact HB.out)) hb); have n5_ := Aside0.mk (hbox); have n6_ := Aside0.mk ((by rw [hg]; exact (below_size (by repeat (first | (with_reducible first | exact HB.out | apply below_alloc | apply pw_below_drewN | apply below_drew1 | refine below_set ?_ GE256.out | refine below_set ?_ GE264.out | refine below_set ?_ GE270.out | refine below_set ?_ GE276.out) | exact HB.out))) : w.heap.size ≤ gb282)); have n7_ := Aside0.mk ((by rw [hg]; exact (below_size (by repeat (first | (with_reducible first | exact HB.out | apply below_alloc | apply pw_below_drewN | apply below_drew1 | refine below_set ?_ GE256.out | refine below_set ?_ GE264.out | refine below_set ?_ GE270.out | refine below_set ?_ GE276.out) | exact HB.out))) : w.heap.size ≤ gb282)); have n8_ := Aside0.mk ((by rw [hg]; exact Nat.ne_of_lt (blk_lt (g := gb256) (o := .cells #[.int .i64 x257000_11, .int .i64 x257001_11, .int .i64 x257002_11, .string x257003_11] 25 (0, 0)) (by (with_reducible repeat (first | refine blk_drewN ?_ _ | refine blk_drew ?_ | refine blk_alloc ?_ _)); exact BK256.out)) : gb256 ≠ gb282)); have n9_ := Aside0.mk ((by rw [hg]; exact Nat.ne_of_gt (blk_lt (g := gb256) (o := .cells #[.int .i64 x257000_11, .int .i64 x257001_11, .int .i64 x257002_11, .string x257003_11] 25 (0, 0)) (by (with_reducible repeat (first | refine blk_drewN ?_ _ | refine blk_drew ?_ | refine blk_alloc ?_ _)); exact BK256.out)) : gb282 ≠ gb256)); have n10_ := Aside0.mk ((by rw [hg]; exact Nat.ne_of_lt (blk_lt (g := gb264) (o := .cells #[.int .i64 t259, .int .i64 t260, .int .i64 t261, .string t262] 25 (0, 0)) (by (with_reducible repeat (first | refine blk_drewN ?_ _ | refine blk_drew ?_ | refine blk_alloc ?_ _)); exact BK264.out)) : gb264 ≠ gb282)); have n11_ := Aside0.mk ((by rw [hg]; exact Nat.ne_of_gt (blk_lt (g := gb264) (o := .cells #[.int .i64 t259, .int .i64 t260, .int .i64 t261, .string t262] 25 (0, 0)) (by (with_reducible repeat (first | refine blk_drewN ?_ _ | refine blk_drew ?_ | refine blk_alloc ?_ _)); exact BK264.out)) : gb282 ≠ gb264)); have n12_ := Aside0.mk ((by rw [hg]; exact Nat.ne_of_lt (blk_lt (g := gb270) (o := .cells #[.int .i64 t265, .int .i64 t266, .int .i64 t267, .string t268] 25 (0, 0)) (by (with_reducible repeat (first | refine blk_drewN ?_ _ | refine blk_drew ?_ | refine blk_alloc ?_ _)); exact BK270.out)) : gb270 ≠ gb282)); have n13_ := Aside0.mk ((by rw [hg]; exact Nat.ne_of_gt (blk_lt (g := gb270) (o := .cells #[.int .i64 t265, .int .i64 t266, .int .i64 t267, .string t268] 25 (0, 0)) (by (with_reducible repeat (first | refine blk_drewN ?_ _ | refine blk_drew ?_ | refine blk_alloc ?_ _)); exact BK270.out)) : gb282 ≠ gb270)); have n14_ := Aside0.mk ((by rw [hg]; exact Nat.ne_of_lt (blk_lt (g := gb276) (o := .cells #[.int .i64 t271, .int .i64 t272, .int .i64 t273, .string t274] 25 (0, 0)) (by (with_reducible repeat (first | refine blk_drewN ?_ _ | refine blk_drew ?_ | refine blk_alloc ?_ _)); exact BK276.out)) : gb276 ≠ gb282)); have n15_ := Aside0.mk ((by rw [hg]; exact Nat.ne_of_gt (blk_lt (g := gb276) (o := .cells #[.int .i64 t271, .int .i64 t272, .int .i64 t273, .string t274] 25 (0, 0)) (by (with_reducible repeat (first | refine blk_drewN ?_ _ | refine blk_drew ?_ | refine blk_alloc ?_ _)); exact BK276.out)) : gb282 ≠ gb276)); clear BK256; clear BK264; clear BK270; clear BK276; clear HB; have BK256 := n0_; have BK264 := n1_; have BK270 := n2_; have BK276 := n3_; have HB := n4_; have BK282 := n5_; have GW282 := n6_; have GE282 := n7_; have NB256_282 := n8_; have NB282_256 := n9_; have NB264_282 := n10_; have NB282_264 := n11_; have NB270_282 := n12_; have NB282_270 := n13_; have NB276_282 := n14_; have NB282_276 := n15_; clear n0_ n1_ n2_ n3_ n4_ n5_ n6_ n7_ n8_ n9_ n10_ n11_ n12_ n13_ n14_ n15_; clear hb hbox hg; have hnb50 := NB282_256.out; have hnc50 := NB256_282.out; have hnb51 := NB282_264.out; have hnc51 := NB264_282.out; have hnb52 := NB282_270.out; have hnc52 := NB270_282.out; have hnb53 := NB282_276.out; have hnc53 := NB276_282.out; have hcz54_0 : w49.cell? ⟨gb282, 0, none⟩ = some (.int .i64 0) := (blk_cell BK282.out 0).trans rfl; have hcz54_1 : w49.cell? ⟨gb282, 1, none⟩ = some (.int .i64 0) := (blk_cell BK282.out 1).trans rfl; have hcz54_2 : w49.cell? ⟨gb282, 2, none⟩ = some (.int .i64 0) := (blk_cell BK282.out 2).trans rfl; have hcz54_3 : w49.cell? ⟨gb282, 3, none⟩ = some (.string (⟨#[]⟩ : ByteArray)) := (blk_cell BK282.out 3).trans rfl; have hfz54_0 := blk_frozen BK282.out 0; have hfz54_1 := blk_frozen BK282.out 1; have hfz54_2 := blk_frozen BK282.out 2; have hfz54_3 := blk_frozen BK282.out 3))
              (try simp only [Act.put, List.setIfInBounds_toArray, List.set_cons_zero, List.set_cons_succ])
              go_cut [94] (fun v94 wc => ∃ (kq : Nat) (x94_27 : Bool), v94 = .bool x94_27 ∧ Aside0 (transhumancelaw2_VerPseudos.j1 kq a0 t257 ((⟨#[48, 49, 50, 51, 52, 53, 54, 55, 56, 57, 97, 98, 99, 100, 101, 102, 48, 49, 50, 51]⟩ : ByteArray).extract 0 ((ji21) : Int).toNat) t263 x94_27 x257000_11 x257001_11 x257002_11 x257003_11 t259 t260 t261 t262 = some r) ∧ Aside0 (kq ≤ kj11) ∧ Aside0 (wc.heap[gb256]? = some (.cells #[.int .i64 x257000_11, .int .i64 x257001_11, .int .i64 x257002_11, .string x257003_11] 25 (0, 0))) ∧ Aside0 (wc.heap[gb264]? = some (.cells #[.int .i64 t259, .int .i64 t260, .int .i64 t261, .string t262] 25 (0, 0))) ∧ Aside0 (wc.heap[gb270]? = some (.cells #[.int .i64 t265, .int .i64 t266, .int .i64 t267, .string t268] 25 (0, 0))) ∧ Aside0 (wc.heap[gb276]? = some (.cells #[.int .i64 t271, .int .i64 t272, .int .i64 t273, .string t274] 25 (0, 0))) ∧ Aside0 (wc.heap[gb282]? = some (.cells #[.int .i64 t277, .int .i64 t278, .int .i64 t279, .string t280] 25 (0, 0))) ∧ Aside0 (Below w.heap.size w wc))
              case first =>
                have H := HC28.out
                clear HC28
                by_cases c55 : (!(t259 == t265) || (!(t260 == t266) || (!(t261 == t267) || (!(t262.toList == t268.toList))))) = true
                · rw [if_pos c55] at H
                  have c55b0 : (!(t259 == t265) || (!(t260 == t266) || (!(t261 == t267) || (!(t262.toList == t268.toList))))) = true := c55
                  clear c55
                  (first | rw [c55b0] | (simp only [i64_w, i32_w]; rw [c55b0]) | skip)
                  have H' := Aside0.mk H
                  clear H
                  have hnb56 := NB264_256.out
                  have hnc56 := NB256_264.out
                  have hnb57 := NB264_270.out
                  have hnc57 := NB270_264.out
                  have hnb58 := NB264_276.out
                  have hnc58 := NB276_264.out
                  have hnb59 := NB264_282.out
                  have hnc59 := NB282_264.out
                  have hcz60_0 : w49.cell? ⟨gb264, 0, none⟩ = some (.int .i64 t259) := (blk_cell BK264.out 0).trans rfl
                  have hcz60_1 : w49.cell? ⟨gb264, 1, none⟩ = some (.int .i64 t260) := (blk_cell BK264.out 1).trans rfl
                  have hcz60_2 : w49.cell? ⟨gb264, 2, none⟩ = some (.int .i64 t261) := (blk_cell BK264.out 2).trans rfl
                  have hcz60_3 : w49.cell? ⟨gb264, 3, none⟩ = some (.string t262) := (blk_cell BK264.out 3).trans rfl
                  have hfz60_0 := blk_frozen BK264.out 0
                  have hfz60_1 := blk_frozen BK264.out 1
                  have hfz60_2 := blk_frozen BK264.out 2
                  have hfz60_3 := blk_frozen BK264.out 3
                  have hnb61 := NB270_256.out
                  have hnc61 := NB256_270.out
                  have hnb62 := NB270_276.out
                  have hnc62 := NB276_270.out
                  have hnb63 := NB270_282.out
                  have hnc63 := NB282_270.out
                  have hcz64_0 : w49.cell? ⟨gb270, 0, none⟩ = some (.int .i64 t265) := (blk_cell BK270.out 0).trans rfl
                  have hcz64_1 : w49.cell? ⟨gb270, 1, none⟩ = some (.int .i64 t266) := (blk_cell BK270.out 1).trans rfl
                  have hcz64_2 : w49.cell? ⟨gb270, 2, none⟩ = some (.int .i64 t267) := (blk_cell BK270.out 2).trans rfl
                  have hcz64_3 : w49.cell? ⟨gb270, 3, none⟩ = some (.string t268) := (blk_cell BK270.out 3).trans rfl
                  have hfz64_0 := blk_frozen BK270.out 0
                  have hfz64_1 := blk_frozen BK270.out 1
                  have hfz64_2 := blk_frozen BK270.out 2
                  have hfz64_3 := blk_frozen BK270.out 3
                  go_wp2
                  go_meet
                  case rel => exact ⟨_, (true), (by first | rfl | (simp; done) | (simp [*]; done) | (simp; exact (fun l_ : List UInt8 => by cases l_ <;> rfl : ∀ l_ : List UInt8, l_.isEmpty = !(l_ != [])) _)), H', ⟨by have := HJ11.out; first | omega | exact Nat.le_refl _⟩, ⟨by (with_reducible repeat (first | refine blk_drewN ?_ _ | refine blk_drew ?_ | refine blk_alloc ?_ _)); refine blk_far ?_ NB256_282.out _; (with_reducible repeat (first | refine blk_drewN ?_ _ | refine blk_drew ?_ | refine blk_alloc ?_ _)); refine blk_far ?_ NB256_282.out _; (with_reducible repeat (first | refine blk_drewN ?_ _ | refine blk_drew ?_ | refine blk_alloc ?_ _)); refine blk_far ?_ NB256_282.out _; (with_reducible repeat (first | refine blk_drewN ?_ _ | refine blk_drew ?_ | refine blk_alloc ?_ _)); refine blk_far ?_ NB256_282.out _; (with_reducible repeat (first | refine blk_drewN ?_ _ | refine blk_drew ?_ | refine blk_alloc ?_ _)); exact BK256.out⟩, ⟨by (with_reducible repeat (first | refine blk_drewN ?_ _ | refine blk_drew ?_ | refine blk_alloc ?_ _)); refine blk_far ?_ NB264_282.out _; (with_reducible repeat (first | refine blk_drewN ?_ _ | refine blk_drew ?_ | refine blk_alloc ?_ _)); refine blk_far ?_ NB264_282.out _; (with_reducible repeat (first | refine blk_drewN ?_ _ | refine blk_drew ?_ | refine blk_alloc ?_ _)); refine blk_far ?_ NB264_282.out _; (with_reducible repeat (first | refine blk_drewN ?_ _ | refine blk_drew ?_ | refine blk_alloc ?_ _)); refine blk_far ?_ NB264_282.out _; (with_reducible repeat (first | refine blk_drewN ?_ _ | refine blk_drew ?_ | refine blk_alloc ?_ _)); exact BK264.out⟩, ⟨by (with_reducible repeat (first | refine blk_drewN ?_ _ | refine blk_drew ?_ | refine blk_alloc ?_ _)); refine blk_far ?_ NB270_282.out _; (with_reducible repeat (first | refine blk_drewN ?_ _ | refine blk_drew ?_ | refine blk_alloc ?_ _)); refine blk_far ?_ NB270_282.out _; (with_reducible repeat (first | refine blk_drewN ?_ _ | refine blk_drew ?_ | refine blk_alloc ?_ _)); refine blk_far ?_ NB270_282.out _; (with_reducible repeat (first | refine blk_drewN ?_ _ | refine blk_drew ?_ | refine blk_alloc ?_ _)); refine blk_far ?_ NB270_282.out _; (with_reducible repeat (first | refine blk_drewN ?_ _ | refine blk_drew ?_ | refine blk_alloc ?_ _)); exact BK270.out⟩, ⟨by (with_reducible repeat (first | refine blk_drewN ?_ _ | refine blk_drew ?_ | refine blk_alloc ?_ _)); refine blk_far ?_ NB276_282.out _; (with_reducible repeat (first | refine blk_drewN ?_ _ | refine blk_drew ?_ | refine blk_alloc ?_ _)); refine blk_far ?_ NB276_282.out _; (with_reducible repeat (first | refine blk_drewN ?_ _ | refine blk_drew ?_ | refine blk_alloc ?_ _)); refine blk_far ?_ NB276_282.out _; (with_reducible repeat (first | refine blk_drewN ?_ _ | refine blk_drew ?_ | refine blk_alloc ?_ _)); refine blk_far ?_ NB276_282.out _; (with_reducible repeat (first | refine blk_drewN ?_ _ | refine blk_drew ?_ | refine blk_alloc ?_ _)); exact BK276.out⟩, ⟨by (with_reducible repeat (first | refine blk_drewN ?_ _ | refine blk_drew ?_ | refine blk_alloc ?_ _)); refine blk_put (cs := #[.int .i64 t277, .int .i64 t278, .int .i64 t279, .string (⟨#[]⟩ : ByteArray)]) ?_ 3 _ rfl; (with_reducible repeat (first | refine blk_drewN ?_ _ | refine blk_drew ?_ | refine blk_alloc ?_ _)); refine blk_put (cs := #[.int .i64 t277, .int .i64 t278, .int .i64 0, .string (⟨#[]⟩ : ByteArray)]) ?_ 2 _ rfl; (with_reducible repeat (first | refine blk_drewN ?_ _ | refine blk_drew ?_ | refine blk_alloc ?_ _)); refine blk_put (cs := #[.int .i64 t277, .int .i64 0, .int .i64 0, .string (⟨#[]⟩ : ByteArray)]) ?_ 1 _ rfl; (with_reducible repeat (first | refine blk_drewN ?_ _ | refine blk_drew ?_ | refine blk_alloc ?_ _)); refine blk_put (cs := #[.int .i64 0, .int .i64 0, .int .i64 0, .string (⟨#[]⟩ : ByteArray)]) ?_ 0 _ rfl; (with_reducible repeat (first | refine blk_drewN ?_ _ | refine blk_drew ?_ | refine blk_alloc ?_ _)); exact BK282.out⟩, ⟨by repeat (first | (with_reducible first | exact HB.out | apply below_alloc | apply pw_below_drewN | apply below_drew1 | refine below_set ?_ GE256.out | refine below_set ?_ GE264.out | refine below_set ?_ GE270.out | refine below_set ?_ GE276.out | refine below_set ?_ GE282.out) | exact HB.out)⟩⟩
                · rw [if_neg c55] at H
                  have c55b0 : (!(t259 == t265) || (!(t260 == t266) || (!(t261 == t267) || (!(t262.toList == t268.toList))))) = false := by simpa using c55
                  clear c55
                  (first | rw [c55b0] | (simp only [i64_w, i32_w]; rw [c55b0]) | skip)
                  by_cases c65 : (t263 != t269) = true
                  · rw [if_pos c65] at H
                    have c65b0 : (t263 != t269) = true := c65
                    (try (have c65b1 : decide (t263 = t269) = false := by simpa using c65))
                    (try (have c65b2 : (t263 == t269) = false := by simpa using c65))
                    (try (have c65b3 : ¬ (t263 = t269) := by simpa using c65))
                    clear c65
                    have H' := Aside0.mk H
                    clear H
                    have hnb66 := NB264_256.out
                    have hnc66 := NB256_264.out
                    have hnb67 := NB264_270.out
                    have hnc67 := NB270_264.out
                    have hnb68 := NB264_276.out
                    have hnc68 := NB276_264.out
                    have hnb69 := NB264_282.out
                    have hnc69 := NB282_264.out
                    have hcz70_0 : w49.cell? ⟨gb264, 0, none⟩ = some (.int .i64 t259) := (blk_cell BK264.out 0).trans rfl
                    have hcz70_1 : w49.cell? ⟨gb264, 1, none⟩ = some (.int .i64 t260) := (blk_cell BK264.out 1).trans rfl
                    have hcz70_2 : w49.cell? ⟨gb264, 2, none⟩ = some (.int .i64 t261) := (blk_cell BK264.out 2).trans rfl
                    have hcz70_3 : w49.cell? ⟨gb264, 3, none⟩ = some (.string t262) := (blk_cell BK264.out 3).trans rfl
                    have hfz70_0 := blk_frozen BK264.out 0
                    have hfz70_1 := blk_frozen BK264.out 1
                    have hfz70_2 := blk_frozen BK264.out 2
                    have hfz70_3 := blk_frozen BK264.out 3
                    have hnb71 := NB270_256.out
                    have hnc71 := NB256_270.out
                    have hnb72 := NB270_276.out
                    have hnc72 := NB276_270.out
                    have hnb73 := NB270_282.out
                    have hnc73 := NB282_270.out
                    have hcz74_0 : w49.cell? ⟨gb270, 0, none⟩ = some (.int .i64 t265) := (blk_cell BK270.out 0).trans rfl
                    have hcz74_1 : w49.cell? ⟨gb270, 1, none⟩ = some (.int .i64 t266) := (blk_cell BK270.out 1).trans rfl
                    have hcz74_2 : w49.cell? ⟨gb270, 2, none⟩ = some (.int .i64 t267) := (blk_cell BK270.out 2).trans rfl
                    have hcz74_3 : w49.cell? ⟨gb270, 3, none⟩ = some (.string t268) := (blk_cell BK270.out 3).trans rfl
                    have hfz74_0 := blk_frozen BK270.out 0
                    have hfz74_1 := blk_frozen BK270.out 1
                    have hfz74_2 := blk_frozen BK270.out 2
                    have hfz74_3 := blk_frozen BK270.out 3
                    go_wp2
                    go_meet
                    case rel => exact ⟨_, (true), (by first | rfl | (simp; done) | (simp [*]; done) | (simp; exact (fun l_ : List UInt8 => by cases l_ <;> rfl : ∀ l_ : List UInt8, l_.isEmpty = !(l_ != [])) _)), H', ⟨by have := HJ11.out; first | omega | exact Nat.le_refl _⟩, ⟨by (with_reducible repeat (first | refine blk_drewN ?_ _ | refine blk_drew ?_ | refine blk_alloc ?_ _)); refine blk_far ?_ NB256_282.out _; (with_reducible repeat (first | refine blk_drewN ?_ _ | refine blk_drew ?_ | refine blk_alloc ?_ _)); refine blk_far ?_ NB256_282.out _; (with_reducible repeat (first | refine blk_drewN ?_ _ | refine blk_drew ?_ | refine blk_alloc ?_ _)); refine blk_far ?_ NB256_282.out _; (with_reducible repeat (first | refine blk_drewN ?_ _ | refine blk_drew ?_ | refine blk_alloc ?_ _)); refine blk_far ?_ NB256_282.out _; (with_reducible repeat (first | refine blk_drewN ?_ _ | refine blk_drew ?_ | refine blk_alloc ?_ _)); exact BK256.out⟩, ⟨by (with_reducible repeat (first | refine blk_drewN ?_ _ | refine blk_drew ?_ | refine blk_alloc ?_ _)); refine blk_far ?_ NB264_282.out _; (with_reducible repeat (first | refine blk_drewN ?_ _ | refine blk_drew ?_ | refine blk_alloc ?_ _)); refine blk_far ?_ NB264_282.out _; (with_reducible repeat (first | refine blk_drewN ?_ _ | refine blk_drew ?_ | refine blk_alloc ?_ _)); refine blk_far ?_ NB264_282.out _; (with_reducible repeat (first | refine blk_drewN ?_ _ | refine blk_drew ?_ | refine blk_alloc ?_ _)); refine blk_far ?_ NB264_282.out _; (with_reducible repeat (first | refine blk_drewN ?_ _ | refine blk_drew ?_ | refine blk_alloc ?_ _)); exact BK264.out⟩, ⟨by (with_reducible repeat (first | refine blk_drewN ?_ _ | refine blk_drew ?_ | refine blk_alloc ?_ _)); refine blk_far ?_ NB270_282.out _; (with_reducible repeat (first | refine blk_drewN ?_ _ | refine blk_drew ?_ | refine blk_alloc ?_ _)); refine blk_far ?_ NB270_282.out _; (with_reducible repeat (first | refine blk_drewN ?_ _ | refine blk_drew ?_ | refine blk_alloc ?_ _)); refine blk_far ?_ NB270_282.out _; (with_reducible repeat (first | refine blk_drewN ?_ _ | refine blk_drew ?_ | refine blk_alloc ?_ _)); refine blk_far ?_ NB270_282.out _; (with_reducible repeat (first | refine blk_drewN ?_ _ | refine blk_drew ?_ | refine blk_alloc ?_ _)); exact BK270.out⟩, ⟨by (with_reducible repeat (first | refine blk_drewN ?_ _ | refine blk_drew ?_ | refine blk_alloc ?_ _)); refine blk_far ?_ NB276_282.out _; (with_reducible repeat (first | refine blk_drewN ?_ _ | refine blk_drew ?_ | refine blk_alloc ?_ _)); refine blk_far ?_ NB276_282.out _; (with_reducible repeat (first | refine blk_drewN ?_ _ | refine blk_drew ?_ | refine blk_alloc ?_ _)); refine blk_far ?_ NB276_282.out _; (with_reducible repeat (first | refine blk_drewN ?_ _ | refine blk_drew ?_ | refine blk_alloc ?_ _)); refine blk_far ?_ NB276_282.out _; (with_reducible repeat (first | refine blk_drewN ?_ _ | refine blk_drew ?_ | refine blk_alloc ?_ _)); exact BK276.out⟩, ⟨by (with_reducible repeat (first | refine blk_drewN ?_ _ | refine blk_drew ?_ | refine blk_alloc ?_ _)); refine blk_put (cs := #[.int .i64 t277, .int .i64 t278, .int .i64 t279, .string (⟨#[]⟩ : ByteArray)]) ?_ 3 _ rfl; (with_reducible repeat (first | refine blk_drewN ?_ _ | refine blk_drew ?_ | refine blk_alloc ?_ _)); refine blk_put (cs := #[.int .i64 t277, .int .i64 t278, .int .i64 0, .string (⟨#[]⟩ : ByteArray)]) ?_ 2 _ rfl; (with_reducible repeat (first | refine blk_drewN ?_ _ | refine blk_drew ?_ | refine blk_alloc ?_ _)); refine blk_put (cs := #[.int .i64 t277, .int .i64 0, .int .i64 0, .string (⟨#[]⟩ : ByteArray)]) ?_ 1 _ rfl; (with_reducible repeat (first | refine blk_drewN ?_ _ | refine blk_drew ?_ | refine blk_alloc ?_ _)); refine blk_put (cs := #[.int .i64 0, .int .i64 0, .int .i64 0, .string (⟨#[]⟩ : ByteArray)]) ?_ 0 _ rfl; (with_reducible repeat (first | refine blk_drewN ?_ _ | refine blk_drew ?_ | refine blk_alloc ?_ _)); exact BK282.out⟩, ⟨by repeat (first | (with_reducible first | exact HB.out | apply below_alloc | apply pw_below_drewN | apply below_drew1 | refine below_set ?_ GE256.out | refine below_set ?_ GE264.out | refine below_set ?_ GE270.out | refine below_set ?_ GE276.out | refine below_set ?_ GE282.out) | exact HB.out)⟩⟩
                  · rw [if_neg c65] at H
                    have c65b0 : (t263 != t269) = false := by simpa using c65
                    (try (have c65b1 : decide (t263 = t269) = true := by simpa using c65))
                    (try (have c65b2 : (t263 == t269) = true := by simpa using c65))
                    clear c65
                    by_cases c75 : (!(t271 == t277) || (!(t272 == t278) || (!(t273 == t279) || (!(t274.toList == t280.toList))))) = true
                    · rw [if_pos c75] at H
                      have c75b0 : (!(t271 == t277) || (!(t272 == t278) || (!(t273 == t279) || (!(t274.toList == t280.toList))))) = true := c75
                      clear c75
                      have H' := Aside0.mk H
                      clear H
                      have hnb76 := NB264_256.out
                      have hnc76 := NB256_264.out
                      have hnb77 := NB264_270.out
                      have hnc77 := NB270_264.out
                      have hnb78 := NB264_276.out
                      have hnc78 := NB276_264.out
                      have hnb79 := NB264_282.out
                      have hnc79 := NB282_264.out
                      have hcz80_0 : w49.cell? ⟨gb264, 0, none⟩ = some (.int .i64 t259) := (blk_cell BK264.out 0).trans rfl
                      have hcz80_1 : w49.cell? ⟨gb264, 1, none⟩ = some (.int .i64 t260) := (blk_cell BK264.out 1).trans rfl
                      have hcz80_2 : w49.cell? ⟨gb264, 2, none⟩ = some (.int .i64 t261) := (blk_cell BK264.out 2).trans rfl
                      have hcz80_3 : w49.cell? ⟨gb264, 3, none⟩ = some (.string t262) := (blk_cell BK264.out 3).trans rfl
                      have hfz80_0 := blk_frozen BK264.out 0
                      have hfz80_1 := blk_frozen BK264.out 1
                      have hfz80_2 := blk_frozen BK264.out 2
                      have hfz80_3 := blk_frozen BK264.out 3
                      have hnb81 := NB270_256.out
                      have hnc81 := NB256_270.out
                      have hnb82 := NB270_276.out
                      have hnc82 := NB276_270.out
                      have hnb83 := NB270_282.out
                      have hnc83 := NB282_270.out
                      have hcz84_0 : w49.cell? ⟨gb270, 0, none⟩ = some (.int .i64 t265) := (blk_cell BK270.out 0).trans rfl
                      have hcz84_1 : w49.cell? ⟨gb270, 1, none⟩ = some (.int .i64 t266) := (blk_cell BK270.out 1).trans rfl
                      have hcz84_2 : w49.cell? ⟨gb270, 2, none⟩ = some (.int .i64 t267) := (blk_cell BK270.out 2).trans rfl
                      have hcz84_3 : w49.cell? ⟨gb270, 3, none⟩ = some (.string t268) := (blk_cell BK270.out 3).trans rfl
                      have hfz84_0 := blk_frozen BK270.out 0
                      have hfz84_1 := blk_frozen BK270.out 1
                      have hfz84_2 := blk_frozen BK270.out 2
                      have hfz84_3 := blk_frozen BK270.out 3
                      have hnb85 := NB276_256.out
                      have hnc85 := NB256_276.out
                      have hnb86 := NB276_282.out
                      have hnc86 := NB282_276.out
                      have hcz87_0 : w49.cell? ⟨gb276, 0, none⟩ = some (.int .i64 t271) := (blk_cell BK276.out 0).trans rfl
                      have hcz87_1 : w49.cell? ⟨gb276, 1, none⟩ = some (.int .i64 t272) := (blk_cell BK276.out 1).trans rfl
                      have hcz87_2 : w49.cell? ⟨gb276, 2, none⟩ = some (.int .i64 t273) := (blk_cell BK276.out 2).trans rfl
                      have hcz87_3 : w49.cell? ⟨gb276, 3, none⟩ = some (.string t274) := (blk_cell BK276.out 3).trans rfl
                      have hfz87_0 := blk_frozen BK276.out 0
                      have hfz87_1 := blk_frozen BK276.out 1
                      have hfz87_2 := blk_frozen BK276.out 2
                      have hfz87_3 := blk_frozen BK276.out 3
                      have hnb88 := NB282_256.out
                      have hnc88 := NB256_282.out
                      have hcz89_0 : w49.cell? ⟨gb282, 0, none⟩ = some (.int .i64 0) := (blk_cell BK282.out 0).trans rfl
                      have hcz89_1 : w49.cell? ⟨gb282, 1, none⟩ = some (.int .i64 0) := (blk_cell BK282.out 1).trans rfl
                      have hcz89_2 : w49.cell? ⟨gb282, 2, none⟩ = some (.int .i64 0) := (blk_cell BK282.out 2).trans rfl
                      have hcz89_3 : w49.cell? ⟨gb282, 3, none⟩ = some (.string (⟨#[]⟩ : ByteArray)) := (blk_cell BK282.out 3).trans rfl
                      have hfz89_0 := blk_frozen BK282.out 0
                      have hfz89_1 := blk_frozen BK282.out 1
                      have hfz89_2 := blk_frozen BK282.out 2
                      have hfz89_3 := blk_frozen BK282.out 3
                      go_wp2
                      go_meet
                      case rel => exact ⟨_, (true), (by first | rfl | (simp; done) | (simp [*]; done) | (simp; exact (fun l_ : List UInt8 => by cases l_ <;> rfl : ∀ l_ : List UInt8, l_.isEmpty = !(l_ != [])) _)), H', ⟨by have := HJ11.out; first | omega | exact Nat.le_refl _⟩, ⟨by (with_reducible repeat (first | refine blk_drewN ?_ _ | refine blk_drew ?_ | refine blk_alloc ?_ _)); refine blk_far ?_ NB256_282.out _; (with_reducible repeat (first | refine blk_drewN ?_ _ | refine blk_drew ?_ | refine blk_alloc ?_ _)); refine blk_far ?_ NB256_282.out _; (with_reducible repeat (first | refine blk_drewN ?_ _ | refine blk_drew ?_ | refine blk_alloc ?_ _)); refine blk_far ?_ NB256_282.out _; (with_reducible repeat (first | refine blk_drewN ?_ _ | refine blk_drew ?_ | refine blk_alloc ?_ _)); refine blk_far ?_ NB256_282.out _; (with_reducible repeat (first | refine blk_drewN ?_ _ | refine blk_drew ?_ | refine blk_alloc ?_ _)); exact BK256.out⟩, ⟨by (with_reducible repeat (first | refine blk_drewN ?_ _ | refine blk_drew ?_ | refine blk_alloc ?_ _)); refine blk_far ?_ NB264_282.out _; (with_reducible repeat (first | refine blk_drewN ?_ _ | refine blk_drew ?_ | refine blk_alloc ?_ _)); refine blk_far ?_ NB264_282.out _; (with_reducible repeat (first | refine blk_drewN ?_ _ | refine blk_drew ?_ | refine blk_alloc ?_ _)); refine blk_far ?_ NB264_282.out _; (with_reducible repeat (first | refine blk_drewN ?_ _ | refine blk_drew ?_ | refine blk_alloc ?_ _)); refine blk_far ?_ NB264_282.out _; (with_reducible repeat (first | refine blk_drewN ?_ _ | refine blk_drew ?_ | refine blk_alloc ?_ _)); exact BK264.out⟩, ⟨by (with_reducible repeat (first | refine blk_drewN ?_ _ | refine blk_drew ?_ | refine blk_alloc ?_ _)); refine blk_far ?_ NB270_282.out _; (with_reducible repeat (first | refine blk_drewN ?_ _ | refine blk_drew ?_ | refine blk_alloc ?_ _)); refine blk_far ?_ NB270_282.out _; (with_reducible repeat (first | refine blk_drewN ?_ _ | refine blk_drew ?_ | refine blk_alloc ?_ _)); refine blk_far ?_ NB270_282.out _; (with_reducible repeat (first | refine blk_drewN ?_ _ | refine blk_drew ?_ | refine blk_alloc ?_ _)); refine blk_far ?_ NB270_282.out _; (with_reducible repeat (first | refine blk_drewN ?_ _ | refine blk_drew ?_ | refine blk_alloc ?_ _)); exact BK270.out⟩, ⟨by (with_reducible repeat (first | refine blk_drewN ?_ _ | refine blk_drew ?_ | refine blk_alloc ?_ _)); refine blk_far ?_ NB276_282.out _; (with_reducible repeat (first | refine blk_drewN ?_ _ | refine blk_drew ?_ | refine blk_alloc ?_ _)); refine blk_far ?_ NB276_282.out _; (with_reducible repeat (first | refine blk_drewN ?_ _ | refine blk_drew ?_ | refine blk_alloc ?_ _)); refine blk_far ?_ NB276_282.out _; (with_reducible repeat (first | refine blk_drewN ?_ _ | refine blk_drew ?_ | refine blk_alloc ?_ _)); refine blk_far ?_ NB276_282.out _; (with_reducible repeat (first | refine blk_drewN ?_ _ | refine blk_drew ?_ | refine blk_alloc ?_ _)); exact BK276.out⟩, ⟨by (with_reducible repeat (first | refine blk_drewN ?_ _ | refine blk_drew ?_ | refine blk_alloc ?_ _)); refine blk_put (cs := #[.int .i64 t277, .int .i64 t278, .int .i64 t279, .string (⟨#[]⟩ : ByteArray)]) ?_ 3 _ rfl; (with_reducible repeat (first | refine blk_drewN ?_ _ | refine blk_drew ?_ | refine blk_alloc ?_ _)); refine blk_put (cs := #[.int .i64 t277, .int .i64 t278, .int .i64 0, .string (⟨#[]⟩ : ByteArray)]) ?_ 2 _ rfl; (with_reducible repeat (first | refine blk_drewN ?_ _ | refine blk_drew ?_ | refine blk_alloc ?_ _)); refine blk_put (cs := #[.int .i64 t277, .int .i64 0, .int .i64 0, .string (⟨#[]⟩ : ByteArray)]) ?_ 1 _ rfl; (with_reducible repeat (first | refine blk_drewN ?_ _ | refine blk_drew ?_ | refine blk_alloc ?_ _)); refine blk_put (cs := #[.int .i64 0, .int .i64 0, .int .i64 0, .string (⟨#[]⟩ : ByteArray)]) ?_ 0 _ rfl; (with_reducible repeat (first | refine blk_drewN ?_ _ | refine blk_drew ?_ | refine blk_alloc ?_ _)); exact BK282.out⟩, ⟨by repeat (first | (with_reducible first | exact HB.out | apply below_alloc | apply pw_below_drewN | apply below_drew1 | refine below_set ?_ GE256.out | refine below_set ?_ GE264.out | refine below_set ?_ GE270.out | refine below_set ?_ GE276.out | refine below_set ?_ GE282.out) | exact HB.out)⟩⟩
                    · rw [if_neg c75] at H
                      have c75b0 : (!(t271 == t277) || (!(t272 == t278) || (!(t273 == t279) || (!(t274.toList == t280.toList))))) = false := by simpa using c75
                      clear c75
                      have H' := Aside0.mk H
                      clear H
                      have hnb90 := NB264_256.out
                      have hnc90 := NB256_264.out
                      have hnb91 := NB264_270.out
                      have hnc91 := NB270_264.out
                      have hnb92 := NB264_276.out
                      have hnc92 := NB276_264.out
                      have hnb93 := NB264_282.out
                      have hnc93 := NB282_264.out
                      have hcz94_0 : w49.cell? ⟨gb264, 0, none⟩ = some (.int .i64 t259) := (blk_cell BK264.out 0).trans rfl
                      have hcz94_1 : w49.cell? ⟨gb264, 1, none⟩ = some (.int .i64 t260) := (blk_cell BK264.out 1).trans rfl
                      have hcz94_2 : w49.cell? ⟨gb264, 2, none⟩ = some (.int .i64 t261) := (blk_cell BK264.out 2).trans rfl
                      have hcz94_3 : w49.cell? ⟨gb264, 3, none⟩ = some (.string t262) := (blk_cell BK264.out 3).trans rfl
                      have hfz94_0 := blk_frozen BK264.out 0
                      have hfz94_1 := blk_frozen BK264.out 1
                      have hfz94_2 := blk_frozen BK264.out 2
                      have hfz94_3 := blk_frozen BK264.out 3
                      have hnb95 := NB270_256.out
                      have hnc95 := NB256_270.out
                      have hnb96 := NB270_276.out
                      have hnc96 := NB276_270.out
                      have hnb97 := NB270_282.out
                      have hnc97 := NB282_270.out
                      have hcz98_0 : w49.cell? ⟨gb270, 0, none⟩ = some (.int .i64 t265) := (blk_cell BK270.out 0).trans rfl
                      have hcz98_1 : w49.cell? ⟨gb270, 1, none⟩ = some (.int .i64 t266) := (blk_cell BK270.out 1).trans rfl
                      have hcz98_2 : w49.cell? ⟨gb270, 2, none⟩ = some (.int .i64 t267) := (blk_cell BK270.out 2).trans rfl
                      have hcz98_3 : w49.cell? ⟨gb270, 3, none⟩ = some (.string t268) := (blk_cell BK270.out 3).trans rfl
                      have hfz98_0 := blk_frozen BK270.out 0
                      have hfz98_1 := blk_frozen BK270.out 1
                      have hfz98_2 := blk_frozen BK270.out 2
                      have hfz98_3 := blk_frozen BK270.out 3
                      have hnb99 := NB276_256.out
                      have hnc99 := NB256_276.out
                      have hnb100 := NB276_282.out
                      have hnc100 := NB282_276.out
                      have hcz101_0 : w49.cell? ⟨gb276, 0, none⟩ = some (.int .i64 t271) := (blk_cell BK276.out 0).trans rfl
                      have hcz101_1 : w49.cell? ⟨gb276, 1, none⟩ = some (.int .i64 t272) := (blk_cell BK276.out 1).trans rfl
                      have hcz101_2 : w49.cell? ⟨gb276, 2, none⟩ = some (.int .i64 t273) := (blk_cell BK276.out 2).trans rfl
                      have hcz101_3 : w49.cell? ⟨gb276, 3, none⟩ = some (.string t274) := (blk_cell BK276.out 3).trans rfl
                      have hfz101_0 := blk_frozen BK276.out 0
                      have hfz101_1 := blk_frozen BK276.out 1
                      have hfz101_2 := blk_frozen BK276.out 2
                      have hfz101_3 := blk_frozen BK276.out 3
                      have hnb102 := NB282_256.out
                      have hnc102 := NB256_282.out
                      have hcz103_0 : w49.cell? ⟨gb282, 0, none⟩ = some (.int .i64 0) := (blk_cell BK282.out 0).trans rfl
                      have hcz103_1 : w49.cell? ⟨gb282, 1, none⟩ = some (.int .i64 0) := (blk_cell BK282.out 1).trans rfl
                      have hcz103_2 : w49.cell? ⟨gb282, 2, none⟩ = some (.int .i64 0) := (blk_cell BK282.out 2).trans rfl
                      have hcz103_3 : w49.cell? ⟨gb282, 3, none⟩ = some (.string (⟨#[]⟩ : ByteArray)) := (blk_cell BK282.out 3).trans rfl
                      have hfz103_0 := blk_frozen BK282.out 0
                      have hfz103_1 := blk_frozen BK282.out 1
                      have hfz103_2 := blk_frozen BK282.out 2
                      have hfz103_3 := blk_frozen BK282.out 3
                      go_wp2
                      go_meet
                      case rel => exact ⟨_, ((t275 != t281)), (by first | rfl | (simp; done) | (simp [*]; done) | (simp; exact (fun l_ : List UInt8 => by cases l_ <;> rfl : ∀ l_ : List UInt8, l_.isEmpty = !(l_ != [])) _)), H', ⟨by have := HJ11.out; first | omega | exact Nat.le_refl _⟩, ⟨by (with_reducible repeat (first | refine blk_drewN ?_ _ | refine blk_drew ?_ | refine blk_alloc ?_ _)); refine blk_far ?_ NB256_282.out _; (with_reducible repeat (first | refine blk_drewN ?_ _ | refine blk_drew ?_ | refine blk_alloc ?_ _)); refine blk_far ?_ NB256_282.out _; (with_reducible repeat (first | refine blk_drewN ?_ _ | refine blk_drew ?_ | refine blk_alloc ?_ _)); refine blk_far ?_ NB256_282.out _; (with_reducible repeat (first | refine blk_drewN ?_ _ | refine blk_drew ?_ | refine blk_alloc ?_ _)); refine blk_far ?_ NB256_282.out _; (with_reducible repeat (first | refine blk_drewN ?_ _ | refine blk_drew ?_ | refine blk_alloc ?_ _)); exact BK256.out⟩, ⟨by (with_reducible repeat (first | refine blk_drewN ?_ _ | refine blk_drew ?_ | refine blk_alloc ?_ _)); refine blk_far ?_ NB264_282.out _; (with_reducible repeat (first | refine blk_drewN ?_ _ | refine blk_drew ?_ | refine blk_alloc ?_ _)); refine blk_far ?_ NB264_282.out _; (with_reducible repeat (first | refine blk_drewN ?_ _ | refine blk_drew ?_ | refine blk_alloc ?_ _)); refine blk_far ?_ NB264_282.out _; (with_reducible repeat (first | refine blk_drewN ?_ _ | refine blk_drew ?_ | refine blk_alloc ?_ _)); refine blk_far ?_ NB264_282.out _; (with_reducible repeat (first | refine blk_drewN ?_ _ | refine blk_drew ?_ | refine blk_alloc ?_ _)); exact BK264.out⟩, ⟨by (with_reducible repeat (first | refine blk_drewN ?_ _ | refine blk_drew ?_ | refine blk_alloc ?_ _)); refine blk_far ?_ NB270_282.out _; (with_reducible repeat (first | refine blk_drewN ?_ _ | refine blk_drew ?_ | refine blk_alloc ?_ _)); refine blk_far ?_ NB270_282.out _; (with_reducible repeat (first | refine blk_drewN ?_ _ | refine blk_drew ?_ | refine blk_alloc ?_ _)); refine blk_far ?_ NB270_282.out _; (with_reducible repeat (first | refine blk_drewN ?_ _ | refine blk_drew ?_ | refine blk_alloc ?_ _)); refine blk_far ?_ NB270_282.out _; (with_reducible repeat (first | refine blk_drewN ?_ _ | refine blk_drew ?_ | refine blk_alloc ?_ _)); exact BK270.out⟩, ⟨by (with_reducible repeat (first | refine blk_drewN ?_ _ | refine blk_drew ?_ | refine blk_alloc ?_ _)); refine blk_far ?_ NB276_282.out _; (with_reducible repeat (first | refine blk_drewN ?_ _ | refine blk_drew ?_ | refine blk_alloc ?_ _)); refine blk_far ?_ NB276_282.out _; (with_reducible repeat (first | refine blk_drewN ?_ _ | refine blk_drew ?_ | refine blk_alloc ?_ _)); refine blk_far ?_ NB276_282.out _; (with_reducible repeat (first | refine blk_drewN ?_ _ | refine blk_drew ?_ | refine blk_alloc ?_ _)); refine blk_far ?_ NB276_282.out _; (with_reducible repeat (first | refine blk_drewN ?_ _ | refine blk_drew ?_ | refine blk_alloc ?_ _)); exact BK276.out⟩, ⟨by (with_reducible repeat (first | refine blk_drewN ?_ _ | refine blk_drew ?_ | refine blk_alloc ?_ _)); refine blk_put (cs := #[.int .i64 t277, .int .i64 t278, .int .i64 t279, .string (⟨#[]⟩ : ByteArray)]) ?_ 3 _ rfl; (with_reducible repeat (first | refine blk_drewN ?_ _ | refine blk_drew ?_ | refine blk_alloc ?_ _)); refine blk_put (cs := #[.int .i64 t277, .int .i64 t278, .int .i64 0, .string (⟨#[]⟩ : ByteArray)]) ?_ 2 _ rfl; (with_reducible repeat (first | refine blk_drewN ?_ _ | refine blk_drew ?_ | refine blk_alloc ?_ _)); refine blk_put (cs := #[.int .i64 t277, .int .i64 0, .int .i64 0, .string (⟨#[]⟩ : ByteArray)]) ?_ 1 _ rfl; (with_reducible repeat (first | refine blk_drewN ?_ _ | refine blk_drew ?_ | refine blk_alloc ?_ _)); refine blk_put (cs := #[.int .i64 0, .int .i64 0, .int .i64 0, .string (⟨#[]⟩ : ByteArray)]) ?_ 0 _ rfl; (with_reducible repeat (first | refine blk_drewN ?_ _ | refine blk_drew ?_ | refine blk_alloc ?_ _)); exact BK282.out⟩, ⟨by repeat (first | (with_reducible first | exact HB.out | apply below_alloc | apply pw_below_drewN | apply below_drew1 | refine below_set ?_ GE256.out | refine below_set ?_ GE264.out | refine below_set ?_ GE270.out | refine below_set ?_ GE276.out | refine below_set ?_ GE282.out) | exact HB.out)⟩⟩
              case rest =>
                clear HC28
                try clear c1
                try clear c2
                try clear p2
                try clear c3
                try clear c4
                try clear c5
                try clear c6
                try clear p6
                try clear c7
                try clear c8
                try clear c9
                try clear c9b0
                try clear c9b1
                try clear c10
                try clear c12
                try clear c13
                try clear c17
                try clear c22
                try clear c22b0
                try clear c22b1
                try clear c23
                try clear c23b0
                try clear c23b1
                try clear c24
                try clear c32
                try clear c37
                try clear c38
                try clear c43
                try clear c44
                try clear c45
                try clear c50
                try clear c51
                try clear c52
                try clear c53
                try clear c55
                try clear c55b0
                try clear c56
                try clear c57
                try clear c58
                try clear c59
                try clear c61
                try clear c62
                try clear c63
                try clear p64
                try clear c65
                try clear c65b0
                try clear c65b1
                try clear c65b2
                try clear c66
                try clear c67
                try clear c68
                try clear c69
                try clear c71
                try clear c72
                try clear c73
                try clear c75
                try clear c75b0
                try clear c76
                try clear c77
                try clear c78
                try clear c79
                try clear c81
                try clear c82
                try clear c83
                try clear c85
                try clear c86
                try clear c88
                try clear c90
                try clear c91
                try clear c92
                try clear c93
                try clear c95
                try clear c96
                try clear c97
                try clear c99
                try clear c100
                try clear c102
                try clear hcz101_0
                try clear hcz101_1
                try clear hcz101_2
                try clear hcz101_3
                try clear hcz103_0
                try clear hcz103_1
                try clear hcz103_2
                try clear hcz103_3
                try clear hcz16_0
                try clear hcz16_1
                try clear hcz16_2
                try clear hcz16_3
                try clear hcz18_0
                try clear hcz18_1
                try clear hcz18_2
                try clear hcz18_3
                try clear hcz29_0
                try clear hcz29_1
                try clear hcz29_2
                try clear hcz29_3
                try clear hcz33_0
                try clear hcz33_1
                try clear hcz33_2
                try clear hcz33_3
                try clear hcz34_0
                try clear hcz34_1
                try clear hcz34_2
                try clear hcz34_3
                try clear hcz39_0
                try clear hcz39_1
                try clear hcz39_2
                try clear hcz39_3
                try clear hcz40_0
                try clear hcz40_1
                try clear hcz40_2
                try clear hcz40_3
                try clear hcz46_0
                try clear hcz46_1
                try clear hcz46_2
                try clear hcz46_3
                try clear hcz47_0
                try clear hcz47_1
                try clear hcz47_2
                try clear hcz47_3
                try clear hcz54_0
                try clear hcz54_1
                try clear hcz54_2
                try clear hcz54_3
                try clear hcz60_0
                try clear hcz60_1
                try clear hcz60_2
                try clear hcz60_3
                try clear hcz64_0
                try clear hcz64_1
                try clear hcz64_2
                try clear hcz64_3
                try clear hcz70_0
                try clear hcz70_1
                try clear hcz70_2
                try clear hcz70_3
                try clear hcz74_0
                try clear hcz74_1
                try clear hcz74_2
                try clear hcz74_3
                try clear hcz80_0
                try clear hcz80_1
                try clear hcz80_2
                try clear hcz80_3
                try clear hcz84_0
                try clear hcz84_1
                try clear hcz84_2
                try clear hcz84_3
                try clear hcz87_0
                try clear hcz87_1
                try clear hcz87_2
                try clear hcz87_3
                try clear hcz89_0
                try clear hcz89_1
                try clear hcz89_2
                try clear hcz89_3
                try clear hcz94_0
                try clear hcz94_1
                try clear hcz94_2
                try clear hcz94_3
                try clear hcz98_0
                try clear hcz98_1
                try clear hcz98_2
                try clear hcz98_3
                try clear hfz101_0
                try clear hfz101_1
                try clear hfz101_2
                try clear hfz101_3
                try clear hfz103_0
                try clear hfz103_1
                try clear hfz103_2
                try clear hfz103_3
                try clear hfz16_0
                try clear hfz16_1
                try clear hfz16_2
                try clear hfz16_3
                try clear hfz18_0
                try clear hfz18_1
                try clear hfz18_2
                try clear hfz18_3
                try clear hfz29_0
                try clear hfz29_1
                try clear hfz29_2
                try clear hfz29_3
                try clear hfz33_0
                try clear hfz33_1
                try clear hfz33_2
                try clear hfz33_3
                try clear hfz34_0
                try clear hfz34_1
                try clear hfz34_2
                try clear hfz34_3
                try clear hfz39_0
                try clear hfz39_1
                try clear hfz39_2
                try clear hfz39_3
                try clear hfz40_0
                try clear hfz40_1
                try clear hfz40_2
                try clear hfz40_3
                try clear hfz46_0
                try clear hfz46_1
                try clear hfz46_2
                try clear hfz46_3
                try clear hfz47_0
                try clear hfz47_1
                try clear hfz47_2
                try clear hfz47_3
                try clear hfz54_0
                try clear hfz54_1
                try clear hfz54_2
                try clear hfz54_3
                try clear hfz60_0
                try clear hfz60_1
                try clear hfz60_2
                try clear hfz60_3
                try clear hfz64_0
                try clear hfz64_1
                try clear hfz64_2
                try clear hfz64_3
                try clear hfz70_0
                try clear hfz70_1
                try clear hfz70_2
                try clear hfz70_3
                try clear hfz74_0
                try clear hfz74_1
                try clear hfz74_2
                try clear hfz74_3
                try clear hfz80_0
                try clear hfz80_1
                try clear hfz80_2
                try clear hfz80_3
                try clear hfz84_0
                try clear hfz84_1
                try clear hfz84_2
                try clear hfz84_3
                try clear hfz87_0
                try clear hfz87_1
                try clear hfz87_2
                try clear hfz87_3
                try clear hfz89_0
                try clear hfz89_1
                try clear hfz89_2
                try clear hfz89_3
                try clear hfz94_0
                try clear hfz94_1
                try clear hfz94_2
                try clear hfz94_3
                try clear hfz98_0
                try clear hfz98_1
                try clear hfz98_2
                try clear hfz98_3
                try clear p2
                obtain ⟨kq, x94_27, rfl, HA, HJ27, BK256, BK264, BK270, BK276, BK282, HB⟩ := hcut
                cases kq with
                | zero => exact absurd HA.out (by simp [transhumancelaw2_VerPseudos.j1])
                | succ kj27 =>
                  have H := HA.out
                  clear HA
                  simp only [transhumancelaw2_VerPseudos.j1] at H
                  by_cases c104 : x94_27 = true
                  · subst c104
                    have H1 : (some false) = some r := by rw [if_pos rfl] at H; exact H
                    clear H
                    have H := H1
                    clear H1
                    obtain rfl := Option.some.inj H
                    go_wp2
                    go_ret
                    exact ⟨by first | rfl | (simp [errW_none, errW_some] <;> rfl) | (simp only [← hji21]; first | rfl | (simp [errW_none, errW_some] <;> rfl)) | (simp [*, errW_none, errW_some] <;> rfl), by repeat (first | (with_reducible first | exact HB.out | apply below_alloc | apply pw_below_drewN | apply below_drew1 | refine below_set ?_ GE256.out | refine below_set ?_ GE264.out | refine below_set ?_ GE270.out | refine below_set ?_ GE276.out | refine below_set ?_ GE282.out) | exact HB.out)⟩
                  · replace c104 := Bool.eq_false_iff.mpr c104
                    subst c104
                    have H1 : (if t263 = true then ((ver_Behind.f t259 t260 t261 t262).bind fun bt283 => (if a0 = true then (transhumancelaw2_VerPseudos.j2 kj27 a0 t257 ((⟨#[48, 49, 50, 51, 52, 53, 54, 55, 56, 57, 97, 98, 99, 100, 101, 102, 48, 49, 50, 51]⟩ : ByteArray).extract 0 ((ji21) : Int).toNat) bt283.1 bt283.2.1 bt283.2.2 (x257003_11.toList != ([] : List UInt8)) x257000_11 x257001_11 x257002_11 x257003_11 t259 t260 t261 t262 x257000_11 x257001_11 (wrap64 (x257002_11 + 1)) (⟨#[]⟩ : ByteArray)) else (transhumancelaw2_VerPseudos.j2 kj27 a0 t257 ((⟨#[48, 49, 50, 51, 52, 53, 54, 55, 56, 57, 97, 98, 99, 100, 101, 102, 48, 49, 50, 51]⟩ : ByteArray).extract 0 ((ji21) : Int).toNat) bt283.1 bt283.2.1 bt283.2.2 false x257000_11 x257001_11 x257002_11 x257003_11 t259 t260 t261 t262 x257000_11 x257001_11 (wrap64 (x257002_11 + 1)) (⟨#[]⟩ : ByteArray)))) else (some (t259 == 0 && (t260 == 0 && (t261 == 0 && (t262.toList == ([] : List UInt8))))))) = some r := by rw [if_neg (show ¬ (false = true) by decide)] at H; exact H
                    clear H
                    have H := H1
                    clear H1
                    by_cases c105 : t263 = true
                    · subst c105
                      have H1 : ((ver_Behind.f t259 t260 t261 t262).bind fun bt283 => (if a0 = true then (transhumancelaw2_VerPseudos.j2 kj27 a0 t257 ((⟨#[48, 49, 50, 51, 52, 53, 54, 55, 56, 57, 97, 98, 99, 100, 101, 102, 48, 49, 50, 51]⟩ : ByteArray).extract 0 ((ji21) : Int).toNat) bt283.1 bt283.2.1 bt283.2.2 (x257003_11.toList != ([] : List UInt8)) x257000_11 x257001_11 x257002_11 x257003_11 t259 t260 t261 t262 x257000_11 x257001_11 (wrap64 (x257002_11 + 1)) (⟨#[]⟩ : ByteArray)) else (transhumancelaw2_VerPseudos.j2 kj27 a0 t257 ((⟨#[48, 49, 50, 51, 52, 53, 54, 55, 56, 57, 97, 98, 99, 100, 101, 102, 48, 49, 50, 51]⟩ : ByteArray).extract 0 ((ji21) : Int).toNat) bt283.1 bt283.2.1 bt283.2.2 false x257000_11 x257001_11 x257002_11 x257003_11 t259 t260 t261 t262 x257000_11 x257001_11 (wrap64 (x257002_11 + 1)) (⟨#[]⟩ : ByteArray)))) = some r := by rw [if_pos rfl] at H; exact H
                      clear H
                      have H := H1
                      clear H1
                      replace H := Option.bind_eq_some_iff.mp H
                      obtain ⟨⟨t283, t284, t285⟩, A1060, H⟩ := H
                      replace H : (if a0 = true then (transhumancelaw2_VerPseudos.j2 kj27 a0 t257 ((⟨#[48, 49, 50, 51, 52, 53, 54, 55, 56, 57, 97, 98, 99, 100, 101, 102, 48, 49, 50, 51]⟩ : ByteArray).extract 0 ((ji21) : Int).toNat) t283 t284 t285 (x257003_11.toList != ([] : List UInt8)) x257000_11 x257001_11 x257002_11 x257003_11 t259 t260 t261 t262 x257000_11 x257001_11 (wrap64 (x257002_11 + 1)) (⟨#[]⟩ : ByteArray)) else (transhumancelaw2_VerPseudos.j2 kj27 a0 t257 ((⟨#[48, 49, 50, 51, 52, 53, 54, 55, 56, 57, 97, 98, 99, 100, 101, 102, 48, 49, 50, 51]⟩ : ByteArray).extract 0 ((ji21) : Int).toNat) t283 t284 t285 false x257000_11 x257001_11 x257002_11 x257003_11 t259 t260 t261 t262 x257000_11 x257001_11 (wrap64 (x257002_11 + 1)) (⟨#[]⟩ : ByteArray))) = some r := H
                      have A106 := Aside0.mk A1060
                      clear A1060
                      have HC107 := Aside0.mk H
                      clear H
                      have hnb108 := NB264_256.out
                      have hnc108 := NB256_264.out
                      have hnb109 := NB264_270.out
                      have hnc109 := NB270_264.out
                      have hnb110 := NB264_276.out
                      have hnc110 := NB276_264.out
                      have hnb111 := NB264_282.out
                      have hnc111 := NB282_264.out
                      have hcz112_0 : wc.cell? ⟨gb264, 0, none⟩ = some (.int .i64 t259) := (blk_cell BK264.out 0).trans rfl
                      have hcz112_1 : wc.cell? ⟨gb264, 1, none⟩ = some (.int .i64 t260) := (blk_cell BK264.out 1).trans rfl
                      have hcz112_2 : wc.cell? ⟨gb264, 2, none⟩ = some (.int .i64 t261) := (blk_cell BK264.out 2).trans rfl
                      have hcz112_3 : wc.cell? ⟨gb264, 3, none⟩ = some (.string t262) := (blk_cell BK264.out 3).trans rfl
                      have hfz112_0 := blk_frozen BK264.out 0
                      have hfz112_1 := blk_frozen BK264.out 1
                      have hfz112_2 := blk_frozen BK264.out 2
                      have hfz112_3 := blk_frozen BK264.out 3
                      go_upto_region 20 with (first | ((with_reducible refine gate_callee (f := 25) rfl ?_); refine goesL_ (some 102) rfl rfl Tryz.func25 (by kernel_rfl) rfl #[.agg #[.int .i64 t259, .int .i64 t260, .int .i64 t261, .string t262]] rfl (by (try simp only [List.map_toArray, List.map_cons, List.map_nil]); first | done | rfl | (simp only [List.length_drop, List.length_take]; rfl)) ?_; (with_reducible refine (ver_Behind.calls t259 t260 t261 t262 t283 t284 t285 _ ?side1 A106.out).mono ?_); (case side1 => exact GL.below0 hG (by repeat (first | (with_reducible first | exact HB.out | apply below_alloc | apply pw_below_drewN | apply below_drew1 | refine below_set ?_ GE256.out | refine below_set ?_ GE264.out | refine below_set ?_ GE270.out | refine below_set ?_ GE276.out | refine below_set ?_ GE282.out) | exact HB.out))); rintro e w113 ⟨rfl, hb⟩; refine ⟨_, rfl, ?_⟩; have n0_ := Aside0.mk (blk_below (g := gb256) (o := .cells #[.int .i64 x257000_11, .int .i64 x257001_11, .int .i64 x257002_11, .string x257003_11] 25 (0, 0)) (by (with_reducible repeat (first | refine blk_drewN ?_ _ | refine blk_drew ?_ | refine blk_alloc ?_ _)); exact BK256.out) hb); have n1_ := Aside0.mk (blk_below (g := gb264) (o := .cells #[.int .i64 t259, .int .i64 t260, .int .i64 t261, .string t262] 25 (0, 0)) (by (with_reducible repeat (first | refine blk_drewN ?_ _ | refine blk_drew ?_ | refine blk_alloc ?_ _)); exact BK264.out) hb); have n2_ := Aside0.mk (blk_below (g := gb270) (o := .cells #[.int .i64 t265, .int .i64 t266, .int .i64 t267, .string t268] 25 (0, 0)) (by (with_reducible repeat (first | refine blk_drewN ?_ _ | refine blk_drew ?_ | refine blk_alloc ?_ _)); exact BK270.out) hb); have n3_ := Aside0.mk (blk_below (g := gb276) (o := .cells #[.int .i64 t271, .int .i64 t272, .int .i64 t273, .string t274] 25 (0, 0)) (by (with_reducible repeat (first | refine blk_drewN ?_ _ | refine blk_drew ?_ | refine blk_alloc ?_ _)); exact BK276.out) hb); have n4_ := Aside0.mk (blk_below (g := gb282) (o := .cells #[.int .i64 t277, .int .i64 t278, .int .i64 t279, .string t280] 25 (0, 0)) (by (with_reducible repeat (first | refine blk_drewN ?_ _ | refine blk_drew ?_ | refine blk_alloc ?_ _)); exact BK282.out) hb); have n5_ := Aside0.mk (below_step (by repeat (first | (with_reducible first | exact HB.out | apply below_alloc | apply pw_below_drewN | apply below_drew1 | refine below_set ?_ GE256.out | refine below_set ?_ GE264.out | refine below_set ?_ GE270.out | refine below_set ?_ GE276.out | refine below_set ?_ GE282.out) | exact HB.out)) hb); clear BK256; clear BK264; clear BK270; clear BK276; clear BK282; clear HB; have BK256 := n0_; have BK264 := n1_; have BK270 := n2_; have BK276 := n3_; have BK282 := n4_; have HB := n5_; clear n0_ n1_ n2_ n3_ n4_ n5_; (try clear hb); (try clear hb2); (try clear hk); (try clear hi); have hnb114 := NB256_270.out; have hnc114 := NB270_256.out; have hnb115 := NB256_276.out; have hnc115 := NB276_256.out; have hnb116 := NB256_282.out; have hnc116 := NB282_256.out; have hcz117_0 : w113.cell? ⟨gb256, 0, none⟩ = some (.int .i64 x257000_11) := (blk_cell BK256.out 0).trans rfl; have hcz117_1 : w113.cell? ⟨gb256, 1, none⟩ = some (.int .i64 x257001_11) := (blk_cell BK256.out 1).trans rfl; have hcz117_2 : w113.cell? ⟨gb256, 2, none⟩ = some (.int .i64 x257002_11) := (blk_cell BK256.out 2).trans rfl; have hcz117_3 : w113.cell? ⟨gb256, 3, none⟩ = some (.string x257003_11) := (blk_cell BK256.out 3).trans rfl; have hfz117_0 := blk_frozen BK256.out 0; have hfz117_1 := blk_frozen BK256.out 1; have hfz117_2 := blk_frozen BK256.out 2; have hfz117_3 := blk_frozen BK256.out 3) | ((with_reducible refine gate_dst (N := 27) rfl ?_); refine box_event ?hg (N := 27) ?hd (cs := #[.int .i64 0, .int .i64 0, .int .i64 0, .string (⟨#[]⟩ : ByteArray)]) (t := 25) ?hr ?_; (case hd => rfl); (case hg => rfl); (case hr => first | (go_simp; done) | (go_simp; rfl)); intro gb286 hg w118 hbox hb; have n0_ := Aside0.mk (blk_below (g := gb256) (o := .cells #[.int .i64 x257000_11, .int .i64 x257001_11, .int .i64 x257002_11, .string x257003_11] 25 (0, 0)) (by (with_reducible repeat (first | refine blk_drewN ?_ _ | refine blk_drew ?_ | refine blk_alloc ?_ _)); exact BK256.out) hb); have n1_ := Aside0.mk (blk_below (g := gb264) (o := .cells #[.int .i64 t259, .int .i64 t260, .int .i64 t261, .string t262] 25 (0, 0)) (by (with_reducible repeat (first | refine blk_drewN ?_ _ | refine blk_drew ?_ | refine blk_alloc ?_ _)); exact BK264.out) hb); have n2_ := Aside0.mk (blk_below (g := gb270) (o := .cells #[.int .i64 t265, .int .i64 t266, .int .i64 t267, .string t268] 25 (0, 0)) (by (with_reducible repeat (first | refine blk_drewN ?_ _ | refine blk_drew ?_ | refine blk_alloc ?_ _)); exact BK270.out) hb); have n3_ := Aside0.mk (blk_below (g := gb276) (o := .cells #[.int .i64 t271, .int .i64 t272, .int .i64 t273, .string t274] 25 (0, 0)) (by (with_reducible repeat (first | refine blk_drewN ?_ _ | refine blk_drew ?_ | refine blk_alloc ?_ _)); exact BK276.out) hb); have n4_ := Aside0.mk (blk_below (g := gb282) (o := .cells #[.int .i64 t277, .int .i64 t278, .int .i64 t279, .string t280] 25 (0, 0)) (by (with_reducible repeat (first | refine blk_drewN ?_ _ | refine blk_drew ?_ | refine blk_alloc ?_ _)); exact BK282.out) hb); have n5_ := Aside0.mk (below_step (by repeat (first | (with_reducible first | exact HB.out | apply below_alloc | apply pw_below_drewN | apply below_drew1 | refine below_set ?_ GE256.out | refine below_set ?_ GE264.out | refine below_set ?_ GE270.out | refine below_set ?_ GE276.out | refine below_set ?_ GE282.out) | exact HB.out)) hb); have n6_ := Aside0.mk (hbox); have n7_ := Aside0.mk ((by rw [hg]; exact (below_size (by repeat (first | (with_reducible first | exact HB.out | apply below_alloc | apply pw_below_drewN | apply below_drew1 | refine below_set ?_ GE256.out | refine below_set ?_ GE264.out | refine below_set ?_ GE270.out | refine below_set ?_ GE276.out | refine below_set ?_ GE282.out) | exact HB.out))) : w.heap.size ≤ gb286)); have n8_ := Aside0.mk ((by rw [hg]; exact (below_size (by repeat (first | (with_reducible first | exact HB.out | apply below_alloc | apply pw_below_drewN | apply below_drew1 | refine below_set ?_ GE256.out | refine below_set ?_ GE264.out | refine below_set ?_ GE270.out | refine below_set ?_ GE276.out | refine below_set ?_ GE282.out) | exact HB.out))) : w.heap.size ≤ gb286)); have n9_ := Aside0.mk ((by rw [hg]; exact Nat.ne_of_lt (blk_lt (g := gb256) (o := .cells #[.int .i64 x257000_11, .int .i64 x257001_11, .int .i64 x257002_11, .string x257003_11] 25 (0, 0)) (by (with_reducible repeat (first | refine blk_drewN ?_ _ | refine blk_drew ?_ | refine blk_alloc ?_ _)); exact BK256.out)) : gb256 ≠ gb286)); have n10_ := Aside0.mk ((by rw [hg]; exact Nat.ne_of_gt (blk_lt (g := gb256) (o := .cells #[.int .i64 x257000_11, .int .i64 x257001_11, .int .i64 x257002_11, .string x257003_11] 25 (0, 0)) (by (with_reducible repeat (first | refine blk_drewN ?_ _ | refine blk_drew ?_ | refine blk_alloc ?_ _)); exact BK256.out)) : gb286 ≠ gb256)); have n11_ := Aside0.mk ((by rw [hg]; exact Nat.ne_of_lt (blk_lt (g := gb264) (o := .cells #[.int .i64 t259, .int .i64 t260, .int .i64 t261, .string t262] 25 (0, 0)) (by (with_reducible repeat (first | refine blk_drewN ?_ _ | refine blk_drew ?_ | refine blk_alloc ?_ _)); exact BK264.out)) : gb264 ≠ gb286)); have n12_ := Aside0.mk ((by rw [hg]; exact Nat.ne_of_gt (blk_lt (g := gb264) (o := .cells #[.int .i64 t259, .int .i64 t260, .int .i64 t261, .string t262] 25 (0, 0)) (by (with_reducible repeat (first | refine blk_drewN ?_ _ | refine blk_drew ?_ | refine blk_alloc ?_ _)); exact BK264.out)) : gb286 ≠ gb264)); have n13_ := Aside0.mk ((by rw [hg]; exact Nat.ne_of_lt (blk_lt (g := gb270) (o := .cells #[.int .i64 t265, .int .i64 t266, .int .i64 t267, .string t268] 25 (0, 0)) (by (with_reducible repeat (first | refine blk_drewN ?_ _ | refine blk_drew ?_ | refine blk_alloc ?_ _)); exact BK270.out)) : gb270 ≠ gb286)); have n14_ := Aside0.mk ((by rw [hg]; exact Nat.ne_of_gt (blk_lt (g := gb270) (o := .cells #[.int .i64 t265, .int .i64 t266, .int .i64 t267, .string t268] 25 (0, 0)) (by (with_reducible repeat (first | refine blk_drewN ?_ _ | refine blk_drew ?_ | refine blk_alloc ?_ _)); exact BK270.out)) : gb286 ≠ gb270)); have n15_ := Aside0.mk ((by rw [hg]; exact Nat.ne_of_lt (blk_lt (g := gb276) (o := .cells #[.int .i64 t271, .int .i64 t272, .int .i64 t273, .string t274] 25 (0, 0)) (by (with_reducible repeat (first | refine blk_drewN ?_ _ | refine blk_drew ?_ | refine blk_alloc ?_ _)); exact BK276.out)) : gb276 ≠ gb286)); have n16_ := Aside0.mk ((by rw [hg]; exact Nat.ne_of_gt (blk_lt (g := gb276) (o := .cells #[.int .i64 t271, .int .i64 t272, .int .i64 t273, .string t274] 25 (0, 0)) (by (with_reducible repeat (first | refine blk_drewN ?_ _ | refine blk_drew ?_ | refine blk_alloc ?_ _)); exact BK276.out)) : gb286 ≠ gb276)); have n17_ := Aside0.mk ((by rw [hg]; exact Nat.ne_of_lt (blk_lt (g := gb282) (o := .cells #[.int .i64 t277, .int .i64 t278, .int .i64 t279, .string t280] 25 (0, 0)) (by (with_reducible repeat (first | refine blk_drewN ?_ _ | refine blk_drew ?_ | refine blk_alloc ?_ _)); exact BK282.out)) : gb282 ≠ gb286)); have n18_ := Aside0.mk ((by rw [hg]; exact Nat.ne_of_gt (blk_lt (g := gb282) (o := .cells #[.int .i64 t277, .int .i64 t278, .int .i64 t279, .string t280] 25 (0, 0)) (by (with_reducible repeat (first | refine blk_drewN ?_ _ | refine blk_drew ?_ | refine blk_alloc ?_ _)); exact BK282.out)) : gb286 ≠ gb282)); clear BK256; clear BK264; clear BK270; clear BK276; clear BK282; clear HB; have BK256 := n0_; have BK264 := n1_; have BK270 := n2_; have BK276 := n3_; have BK282 := n4_; have HB := n5_; have BK286 := n6_; have GW286 := n7_; have GE286 := n8_; have NB256_286 := n9_; have NB286_256 := n10_; have NB264_286 := n11_; have NB286_264 := n12_; have NB270_286 := n13_; have NB286_270 := n14_; have NB276_286 := n15_; have NB286_276 := n16_; have NB282_286 := n17_; have NB286_282 := n18_; clear n0_ n1_ n2_ n3_ n4_ n5_ n6_ n7_ n8_ n9_ n10_ n11_ n12_ n13_ n14_ n15_ n16_ n17_ n18_; clear hb hbox hg; have hnb119 := NB286_256.out; have hnc119 := NB256_286.out; have hnb120 := NB286_264.out; have hnc120 := NB264_286.out; have hnb121 := NB286_270.out; have hnc121 := NB270_286.out; have hnb122 := NB286_276.out; have hnc122 := NB276_286.out; have hnb123 := NB286_282.out; have hnc123 := NB282_286.out; have hcz124_0 : w118.cell? ⟨gb286, 0, none⟩ = some (.int .i64 0) := (blk_cell BK286.out 0).trans rfl; have hcz124_1 : w118.cell? ⟨gb286, 1, none⟩ = some (.int .i64 0) := (blk_cell BK286.out 1).trans rfl; have hcz124_2 : w118.cell? ⟨gb286, 2, none⟩ = some (.int .i64 0) := (blk_cell BK286.out 2).trans rfl; have hcz124_3 : w118.cell? ⟨gb286, 3, none⟩ = some (.string (⟨#[]⟩ : ByteArray)) := (blk_cell BK286.out 3).trans rfl; have hfz124_0 := blk_frozen BK286.out 0; have hfz124_1 := blk_frozen BK286.out 1; have hfz124_2 := blk_frozen BK286.out 2; have hfz124_3 := blk_frozen BK286.out 3))
                      (try simp only [Act.put, List.setIfInBounds_toArray, List.set_cons_zero, List.set_cons_succ])
                      go_cut [119] (fun v119 wc => ∃ (kq : Nat) (x119_106 : Bool), v119 = .bool x119_106 ∧ Aside0 (transhumancelaw2_VerPseudos.j2 kq a0 t257 ((⟨#[48, 49, 50, 51, 52, 53, 54, 55, 56, 57, 97, 98, 99, 100, 101, 102, 48, 49, 50, 51]⟩ : ByteArray).extract 0 ((ji21) : Int).toNat) t283 t284 t285 x119_106 x257000_11 x257001_11 x257002_11 x257003_11 t259 t260 t261 t262 x257000_11 x257001_11 (wrap64 (x257002_11 + 1)) (⟨#[]⟩ : ByteArray) = some r) ∧ Aside0 (kq ≤ kj27) ∧ Aside0 (wc.heap[gb256]? = some (.cells #[.int .i64 x257000_11, .int .i64 x257001_11, .int .i64 x257002_11, .string x257003_11] 25 (0, 0))) ∧ Aside0 (wc.heap[gb264]? = some (.cells #[.int .i64 t259, .int .i64 t260, .int .i64 t261, .string t262] 25 (0, 0))) ∧ Aside0 (wc.heap[gb270]? = some (.cells #[.int .i64 t265, .int .i64 t266, .int .i64 t267, .string t268] 25 (0, 0))) ∧ Aside0 (wc.heap[gb276]? = some (.cells #[.int .i64 t271, .int .i64 t272, .int .i64 t273, .string t274] 25 (0, 0))) ∧ Aside0 (wc.heap[gb282]? = some (.cells #[.int .i64 t277, .int .i64 t278, .int .i64 t279, .string t280] 25 (0, 0))) ∧ Aside0 (wc.heap[gb286]? = some (.cells #[.int .i64 x257000_11, .int .i64 x257001_11, .int .i64 (wrap64 (x257002_11 + 1)), .string (⟨#[]⟩ : ByteArray)] 25 (0, 0))) ∧ Aside0 (Below w.heap.size w wc))
                      case first =>
                        have H := HC107.out
                        clear HC107
                        by_cases c125 : a0 = true
                        · subst c125
                          have H1 : (transhumancelaw2_VerPseudos.j2 kj27 true t257 ((⟨#[48, 49, 50, 51, 52, 53, 54, 55, 56, 57, 97, 98, 99, 100, 101, 102, 48, 49, 50, 51]⟩ : ByteArray).extract 0 ((ji21) : Int).toNat) t283 t284 t285 (x257003_11.toList != ([] : List UInt8)) x257000_11 x257001_11 x257002_11 x257003_11 t259 t260 t261 t262 x257000_11 x257001_11 (wrap64 (x257002_11 + 1)) (⟨#[]⟩ : ByteArray)) = some r := by rw [if_pos rfl] at H; exact H
                          clear H
                          have H := H1
                          clear H1
                          have H' := Aside0.mk H
                          clear H
                          have hnb126 := NB256_264.out
                          have hnc126 := NB264_256.out
                          have hnb127 := NB256_270.out
                          have hnc127 := NB270_256.out
                          have hnb128 := NB256_276.out
                          have hnc128 := NB276_256.out
                          have hnb129 := NB256_282.out
                          have hnc129 := NB282_256.out
                          have hnb130 := NB256_286.out
                          have hnc130 := NB286_256.out
                          have hcz131_0 : w118.cell? ⟨gb256, 0, none⟩ = some (.int .i64 x257000_11) := (blk_cell BK256.out 0).trans rfl
                          have hcz131_1 : w118.cell? ⟨gb256, 1, none⟩ = some (.int .i64 x257001_11) := (blk_cell BK256.out 1).trans rfl
                          have hcz131_2 : w118.cell? ⟨gb256, 2, none⟩ = some (.int .i64 x257002_11) := (blk_cell BK256.out 2).trans rfl
                          have hcz131_3 : w118.cell? ⟨gb256, 3, none⟩ = some (.string x257003_11) := (blk_cell BK256.out 3).trans rfl
                          have hfz131_0 := blk_frozen BK256.out 0
                          have hfz131_1 := blk_frozen BK256.out 1
                          have hfz131_2 := blk_frozen BK256.out 2
                          have hfz131_3 := blk_frozen BK256.out 3
                          go_wp2
                          go_meet
                          case rel => exact ⟨_, ((x257003_11.toList != ([] : List UInt8))), (by first | rfl | (simp; done) | (simp [*]; done) | (simp; exact (fun l_ : List UInt8 => by cases l_ <;> rfl : ∀ l_ : List UInt8, l_.isEmpty = !(l_ != [])) _)), H', ⟨by have := HJ11.out; have := HJ27.out; first | omega | exact Nat.le_refl _⟩, ⟨by (with_reducible repeat (first | refine blk_drewN ?_ _ | refine blk_drew ?_ | refine blk_alloc ?_ _)); refine blk_far ?_ NB256_286.out _; (with_reducible repeat (first | refine blk_drewN ?_ _ | refine blk_drew ?_ | refine blk_alloc ?_ _)); refine blk_far ?_ NB256_286.out _; (with_reducible repeat (first | refine blk_drewN ?_ _ | refine blk_drew ?_ | refine blk_alloc ?_ _)); refine blk_far ?_ NB256_286.out _; (with_reducible repeat (first | refine blk_drewN ?_ _ | refine blk_drew ?_ | refine blk_alloc ?_ _)); refine blk_far ?_ NB256_286.out _; (with_reducible repeat (first | refine blk_drewN ?_ _ | refine blk_drew ?_ | refine blk_alloc ?_ _)); exact BK256.out⟩, ⟨by (with_reducible repeat (first | refine blk_drewN ?_ _ | refine blk_drew ?_ | refine blk_alloc ?_ _)); refine blk_far ?_ NB264_286.out _; (with_reducible repeat (first | refine blk_drewN ?_ _ | refine blk_drew ?_ | refine blk_alloc ?_ _)); refine blk_far ?_ NB264_286.out _; (with_reducible repeat (first | refine blk_drewN ?_ _ | refine blk_drew ?_ | refine blk_alloc ?_ _)); refine blk_far ?_ NB264_286.out _; (with_reducible repeat (first | refine blk_drewN ?_ _ | refine blk_drew ?_ | refine blk_alloc ?_ _)); refine blk_far ?_ NB264_286.out _; (with_reducible repeat (first | refine blk_drewN ?_ _ | refine blk_drew ?_ | refine blk_alloc ?_ _)); exact BK264.out⟩, ⟨by (with_reducible repeat (first | refine blk_drewN ?_ _ | refine blk_drew ?_ | refine blk_alloc ?_ _)); refine blk_far ?_ NB270_286.out _; (with_reducible repeat (first | refine blk_drewN ?_ _ | refine blk_drew ?_ | refine blk_alloc ?_ _)); refine blk_far ?_ NB270_286.out _; (with_reducible repeat (first | refine blk_drewN ?_ _ | refine blk_drew ?_ | refine blk_alloc ?_ _)); refine blk_far ?_ NB270_286.out _; (with_reducible repeat (first | refine blk_drewN ?_ _ | refine blk_drew ?_ | refine blk_alloc ?_ _)); refine blk_far ?_ NB270_286.out _; (with_reducible repeat (first | refine blk_drewN ?_ _ | refine blk_drew ?_ | refine blk_alloc ?_ _)); exact BK270.out⟩, ⟨by (with_reducible repeat (first | refine blk_drewN ?_ _ | refine blk_drew ?_ | refine blk_alloc ?_ _)); refine blk_far ?_ NB276_286.out _; (with_reducible repeat (first | refine blk_drewN ?_ _ | refine blk_drew ?_ | refine blk_alloc ?_ _)); refine blk_far ?_ NB276_286.out _; (with_reducible repeat (first | refine blk_drewN ?_ _ | refine blk_drew ?_ | refine blk_alloc ?_ _)); refine blk_far ?_ NB276_286.out _; (with_reducible repeat (first | refine blk_drewN ?_ _ | refine blk_drew ?_ | refine blk_alloc ?_ _)); refine blk_far ?_ NB276_286.out _; (with_reducible repeat (first | refine blk_drewN ?_ _ | refine blk_drew ?_ | refine blk_alloc ?_ _)); exact BK276.out⟩, ⟨by (with_reducible repeat (first | refine blk_drewN ?_ _ | refine blk_drew ?_ | refine blk_alloc ?_ _)); refine blk_far ?_ NB282_286.out _; (with_reducible repeat (first | refine blk_drewN ?_ _ | refine blk_drew ?_ | refine blk_alloc ?_ _)); refine blk_far ?_ NB282_286.out _; (with_reducible repeat (first | refine blk_drewN ?_ _ | refine blk_drew ?_ | refine blk_alloc ?_ _)); refine blk_far ?_ NB282_286.out _; (with_reducible repeat (first | refine blk_drewN ?_ _ | refine blk_drew ?_ | refine blk_alloc ?_ _)); refine blk_far ?_ NB282_286.out _; (with_reducible repeat (first | refine blk_drewN ?_ _ | refine blk_drew ?_ | refine blk_alloc ?_ _)); exact BK282.out⟩, ⟨by (with_reducible repeat (first | refine blk_drewN ?_ _ | refine blk_drew ?_ | refine blk_alloc ?_ _)); refine blk_put (cs := #[.int .i64 x257000_11, .int .i64 x257001_11, .int .i64 (wrap64 (x257002_11 + 1)), .string (⟨#[]⟩ : ByteArray)]) ?_ 3 _ rfl; (with_reducible repeat (first | refine blk_drewN ?_ _ | refine blk_drew ?_ | refine blk_alloc ?_ _)); refine blk_put (cs := #[.int .i64 x257000_11, .int .i64 x257001_11, .int .i64 0, .string (⟨#[]⟩ : ByteArray)]) ?_ 2 _ rfl; (with_reducible repeat (first | refine blk_drewN ?_ _ | refine blk_drew ?_ | refine blk_alloc ?_ _)); refine blk_put (cs := #[.int .i64 x257000_11, .int .i64 0, .int .i64 0, .string (⟨#[]⟩ : ByteArray)]) ?_ 1 _ rfl; (with_reducible repeat (first | refine blk_drewN ?_ _ | refine blk_drew ?_ | refine blk_alloc ?_ _)); refine blk_put (cs := #[.int .i64 0, .int .i64 0, .int .i64 0, .string (⟨#[]⟩ : ByteArray)]) ?_ 0 _ rfl; (with_reducible repeat (first | refine blk_drewN ?_ _ | refine blk_drew ?_ | refine blk_alloc ?_ _)); exact BK286.out⟩, ⟨by repeat (first | (with_reducible first | exact HB.out | apply below_alloc | apply pw_below_drewN | apply below_drew1 | refine below_set ?_ GE256.out | refine below_set ?_ GE264.out | refine below_set ?_ GE270.out | refine below_set ?_ GE276.out | refine below_set ?_ GE282.out | refine below_set ?_ GE286.out) | exact HB.out)⟩⟩
                        · replace c125 := Bool.eq_false_iff.mpr c125
                          subst c125
                          have H1 : (transhumancelaw2_VerPseudos.j2 kj27 false t257 ((⟨#[48, 49, 50, 51, 52, 53, 54, 55, 56, 57, 97, 98, 99, 100, 101, 102, 48, 49, 50, 51]⟩ : ByteArray).extract 0 ((ji21) : Int).toNat) t283 t284 t285 false x257000_11 x257001_11 x257002_11 x257003_11 t259 t260 t261 t262 x257000_11 x257001_11 (wrap64 (x257002_11 + 1)) (⟨#[]⟩ : ByteArray)) = some r := by rw [if_neg (show ¬ (false = true) by decide)] at H; exact H
                          clear H
                          have H := H1
                          clear H1
                          have H' := Aside0.mk H
                          clear H
                          go_wp2
                          go_meet
                          case rel => exact ⟨_, (false), (by first | rfl | (simp; done) | (simp [*]; done) | (simp; exact (fun l_ : List UInt8 => by cases l_ <;> rfl : ∀ l_ : List UInt8, l_.isEmpty = !(l_ != [])) _)), H', ⟨by have := HJ11.out; have := HJ27.out; first | omega | exact Nat.le_refl _⟩, ⟨by (with_reducible repeat (first | refine blk_drewN ?_ _ | refine blk_drew ?_ | refine blk_alloc ?_ _)); refine blk_far ?_ NB256_286.out _; (with_reducible repeat (first | refine blk_drewN ?_ _ | refine blk_drew ?_ | refine blk_alloc ?_ _)); refine blk_far ?_ NB256_286.out _; (with_reducible repeat (first | refine blk_drewN ?_ _ | refine blk_drew ?_ | refine blk_alloc ?_ _)); refine blk_far ?_ NB256_286.out _; (with_reducible repeat (first | refine blk_drewN ?_ _ | refine blk_drew ?_ | refine blk_alloc ?_ _)); refine blk_far ?_ NB256_286.out _; (with_reducible repeat (first | refine blk_drewN ?_ _ | refine blk_drew ?_ | refine blk_alloc ?_ _)); exact BK256.out⟩, ⟨by (with_reducible repeat (first | refine blk_drewN ?_ _ | refine blk_drew ?_ | refine blk_alloc ?_ _)); refine blk_far ?_ NB264_286.out _; (with_reducible repeat (first | refine blk_drewN ?_ _ | refine blk_drew ?_ | refine blk_alloc ?_ _)); refine blk_far ?_ NB264_286.out _; (with_reducible repeat (first | refine blk_drewN ?_ _ | refine blk_drew ?_ | refine blk_alloc ?_ _)); refine blk_far ?_ NB264_286.out _; (with_reducible repeat (first | refine blk_drewN ?_ _ | refine blk_drew ?_ | refine blk_alloc ?_ _)); refine blk_far ?_ NB264_286.out _; (with_reducible repeat (first | refine blk_drewN ?_ _ | refine blk_drew ?_ | refine blk_alloc ?_ _)); exact BK264.out⟩, ⟨by (with_reducible repeat (first | refine blk_drewN ?_ _ | refine blk_drew ?_ | refine blk_alloc ?_ _)); refine blk_far ?_ NB270_286.out _; (with_reducible repeat (first | refine blk_drewN ?_ _ | refine blk_drew ?_ | refine blk_alloc ?_ _)); refine blk_far ?_ NB270_286.out _; (with_reducible repeat (first | refine blk_drewN ?_ _ | refine blk_drew ?_ | refine blk_alloc ?_ _)); refine blk_far ?_ NB270_286.out _; (with_reducible repeat (first | refine blk_drewN ?_ _ | refine blk_drew ?_ | refine blk_alloc ?_ _)); refine blk_far ?_ NB270_286.out _; (with_reducible repeat (first | refine blk_drewN ?_ _ | refine blk_drew ?_ | refine blk_alloc ?_ _)); exact BK270.out⟩, ⟨by (with_reducible repeat (first | refine blk_drewN ?_ _ | refine blk_drew ?_ | refine blk_alloc ?_ _)); refine blk_far ?_ NB276_286.out _; (with_reducible repeat (first | refine blk_drewN ?_ _ | refine blk_drew ?_ | refine blk_alloc ?_ _)); refine blk_far ?_ NB276_286.out _; (with_reducible repeat (first | refine blk_drewN ?_ _ | refine blk_drew ?_ | refine blk_alloc ?_ _)); refine blk_far ?_ NB276_286.out _; (with_reducible repeat (first | refine blk_drewN ?_ _ | refine blk_drew ?_ | refine blk_alloc ?_ _)); refine blk_far ?_ NB276_286.out _; (with_reducible repeat (first | refine blk_drewN ?_ _ | refine blk_drew ?_ | refine blk_alloc ?_ _)); exact BK276.out⟩, ⟨by (with_reducible repeat (first | refine blk_drewN ?_ _ | refine blk_drew ?_ | refine blk_alloc ?_ _)); refine blk_far ?_ NB282_286.out _; (with_reducible repeat (first | refine blk_drewN ?_ _ | refine blk_drew ?_ | refine blk_alloc ?_ _)); refine blk_far ?_ NB282_286.out _; (with_reducible repeat (first | refine blk_drewN ?_ _ | refine blk_drew ?_ | refine blk_alloc ?_ _)); refine blk_far ?_ NB282_286.out _; (with_reducible repeat (first | refine blk_drewN ?_ _ | refine blk_drew ?_ | refine blk_alloc ?_ _)); refine blk_far ?_ NB282_286.out _; (with_reducible repeat (first | refine blk_drewN ?_ _ | refine blk_drew ?_ | refine blk_alloc ?_ _)); exact BK282.out⟩, ⟨by (with_reducible repeat (first | refine blk_drewN ?_ _ | refine blk_drew ?_ | refine blk_alloc ?_ _)); refine blk_put (cs := #[.int .i64 x257000_11, .int .i64 x257001_11, .int .i64 (wrap64 (x257002_11 + 1)), .string (⟨#[]⟩ : ByteArray)]) ?_ 3 _ rfl; (with_reducible repeat (first | refine blk_drewN ?_ _ | refine blk_drew ?_ | refine blk_alloc ?_ _)); refine blk_put (cs := #[.int .i64 x257000_11, .int .i64 x257001_11, .int .i64 0, .string (⟨#[]⟩ : ByteArray)]) ?_ 2 _ rfl; (with_reducible repeat (first | refine blk_drewN ?_ _ | refine blk_drew ?_ | refine blk_alloc ?_ _)); refine blk_put (cs := #[.int .i64 x257000_11, .int .i64 0, .int .i64 0, .string (⟨#[]⟩ : ByteArray)]) ?_ 1 _ rfl; (with_reducible repeat (first | refine blk_drewN ?_ _ | refine blk_drew ?_ | refine blk_alloc ?_ _)); refine blk_put (cs := #[.int .i64 0, .int .i64 0, .int .i64 0, .string (⟨#[]⟩ : ByteArray)]) ?_ 0 _ rfl; (with_reducible repeat (first | refine blk_drewN ?_ _ | refine blk_drew ?_ | refine blk_alloc ?_ _)); exact BK286.out⟩, ⟨by repeat (first | (with_reducible first | exact HB.out | apply below_alloc | apply pw_below_drewN | apply below_drew1 | refine below_set ?_ GE256.out | refine below_set ?_ GE264.out | refine below_set ?_ GE270.out | refine below_set ?_ GE276.out | refine below_set ?_ GE282.out | refine below_set ?_ GE286.out) | exact HB.out)⟩⟩
                      case rest =>
                        clear HC107
                        try clear c1
                        try clear c2
                        try clear p2
                        try clear c3
                        try clear c4
                        try clear c5
                        try clear c6
                        try clear p6
                        try clear c7
                        try clear c8
                        try clear c9
                        try clear c9b0
                        try clear c9b1
                        try clear c10
                        try clear c11
                        try clear c12
                        try clear c13
                        try clear c17
                        try clear c22
                        try clear c22b0
                        try clear c22b1
                        try clear c23
                        try clear c23b0
                        try clear c23b1
                        try clear c24
                        try clear c25
                        try clear c32
                        try clear c37
                        try clear c38
                        try clear c43
                        try clear c44
                        try clear c45
                        try clear c50
                        try clear c51
                        try clear c52
                        try clear c53
                        try clear c55
                        try clear c55b0
                        try clear c56
                        try clear c57
                        try clear c58
                        try clear c59
                        try clear c61
                        try clear c62
                        try clear c63
                        try clear p64
                        try clear c65
                        try clear c65b0
                        try clear c65b1
                        try clear c65b2
                        try clear c66
                        try clear c67
                        try clear c68
                        try clear c69
                        try clear c71
                        try clear c72
                        try clear c73
                        try clear c75
                        try clear c75b0
                        try clear c76
                        try clear c77
                        try clear c78
                        try clear c79
                        try clear c81
                        try clear c82
                        try clear c83
                        try clear c85
                        try clear c86
                        try clear c88
                        try clear c90
                        try clear c91
                        try clear c92
                        try clear c93
                        try clear c95
                        try clear c96
                        try clear c97
                        try clear c99
                        try clear c100
                        try clear c102
                        try clear c104
                        try clear c105
                        try clear c108
                        try clear c109
                        try clear c110
                        try clear c111
                        try clear c114
                        try clear c115
                        try clear c116
                        try clear c119
                        try clear c120
                        try clear c121
                        try clear c122
                        try clear c123
                        try clear c125
                        try clear c126
                        try clear c127
                        try clear c128
                        try clear c129
                        try clear c130
                        try clear hcz101_0
                        try clear hcz101_1
                        try clear hcz101_2
                        try clear hcz101_3
                        try clear hcz103_0
                        try clear hcz103_1
                        try clear hcz103_2
                        try clear hcz103_3
                        try clear hcz112_0
                        try clear hcz112_1
                        try clear hcz112_2
                        try clear hcz112_3
                        try clear hcz117_0
                        try clear hcz117_1
                        try clear hcz117_2
                        try clear hcz117_3
                        try clear hcz124_0
                        try clear hcz124_1
                        try clear hcz124_2
                        try clear hcz124_3
                        try clear hcz131_0
                        try clear hcz131_1
                        try clear hcz131_2
                        try clear hcz131_3
                        try clear hcz16_0
                        try clear hcz16_1
                        try clear hcz16_2
                        try clear hcz16_3
                        try clear hcz18_0
                        try clear hcz18_1
                        try clear hcz18_2
                        try clear hcz18_3
                        try clear hcz29_0
                        try clear hcz29_1
                        try clear hcz29_2
                        try clear hcz29_3
                        try clear hcz33_0
                        try clear hcz33_1
                        try clear hcz33_2
                        try clear hcz33_3
                        try clear hcz34_0
                        try clear hcz34_1
                        try clear hcz34_2
                        try clear hcz34_3
                        try clear hcz39_0
                        try clear hcz39_1
                        try clear hcz39_2
                        try clear hcz39_3
                        try clear hcz40_0
                        try clear hcz40_1
                        try clear hcz40_2
                        try clear hcz40_3
                        try clear hcz46_0
                        try clear hcz46_1
                        try clear hcz46_2
                        try clear hcz46_3
                        try clear hcz47_0
                        try clear hcz47_1
                        try clear hcz47_2
                        try clear hcz47_3
                        try clear hcz54_0
                        try clear hcz54_1
                        try clear hcz54_2
                        try clear hcz54_3
                        try clear hcz60_0
                        try clear hcz60_1
                        try clear hcz60_2
                        try clear hcz60_3
                        try clear hcz64_0
                        try clear hcz64_1
                        try clear hcz64_2
                        try clear hcz64_3
                        try clear hcz70_0
                        try clear hcz70_1
                        try clear hcz70_2
                        try clear hcz70_3
                        try clear hcz74_0
                        try clear hcz74_1
                        try clear hcz74_2
                        try clear hcz74_3
                        try clear hcz80_0
                        try clear hcz80_1
                        try clear hcz80_2
                        try clear hcz80_3
                        try clear hcz84_0
                        try clear hcz84_1
                        try clear hcz84_2
                        try clear hcz84_3
                        try clear hcz87_0
                        try clear hcz87_1
                        try clear hcz87_2
                        try clear hcz87_3
                        try clear hcz89_0
                        try clear hcz89_1
                        try clear hcz89_2
                        try clear hcz89_3
                        try clear hcz94_0
                        try clear hcz94_1
                        try clear hcz94_2
                        try clear hcz94_3
                        try clear hcz98_0
                        try clear hcz98_1
                        try clear hcz98_2
                        try clear hcz98_3
                        try clear hfz101_0
                        try clear hfz101_1
                        try clear hfz101_2
                        try clear hfz101_3
                        try clear hfz103_0
                        try clear hfz103_1
                        try clear hfz103_2
                        try clear hfz103_3
                        try clear hfz112_0
                        try clear hfz112_1
                        try clear hfz112_2
                        try clear hfz112_3
                        try clear hfz117_0
                        try clear hfz117_1
                        try clear hfz117_2
                        try clear hfz117_3
                        try clear hfz124_0
                        try clear hfz124_1
                        try clear hfz124_2
                        try clear hfz124_3
                        try clear hfz131_0
                        try clear hfz131_1
                        try clear hfz131_2
                        try clear hfz131_3
                        try clear hfz16_0
                        try clear hfz16_1
                        try clear hfz16_2
                        try clear hfz16_3
                        try clear hfz18_0
                        try clear hfz18_1
                        try clear hfz18_2
                        try clear hfz18_3
                        try clear hfz29_0
                        try clear hfz29_1
                        try clear hfz29_2
                        try clear hfz29_3
                        try clear hfz33_0
                        try clear hfz33_1
                        try clear hfz33_2
                        try clear hfz33_3
                        try clear hfz34_0
                        try clear hfz34_1
                        try clear hfz34_2
                        try clear hfz34_3
                        try clear hfz39_0
                        try clear hfz39_1
                        try clear hfz39_2
                        try clear hfz39_3
                        try clear hfz40_0
                        try clear hfz40_1
                        try clear hfz40_2
                        try clear hfz40_3
                        try clear hfz46_0
                        try clear hfz46_1
                        try clear hfz46_2
                        try clear hfz46_3
                        try clear hfz47_0
                        try clear hfz47_1
                        try clear hfz47_2
                        try clear hfz47_3
                        try clear hfz54_0
                        try clear hfz54_1
                        try clear hfz54_2
                        try clear hfz54_3
                        try clear hfz60_0
                        try clear hfz60_1
                        try clear hfz60_2
                        try clear hfz60_3
                        try clear hfz64_0
                        try clear hfz64_1
                        try clear hfz64_2
                        try clear hfz64_3
                        try clear hfz70_0
                        try clear hfz70_1
                        try clear hfz70_2
                        try clear hfz70_3
                        try clear hfz74_0
                        try clear hfz74_1
                        try clear hfz74_2
                        try clear hfz74_3
                        try clear hfz80_0
                        try clear hfz80_1
                        try clear hfz80_2
                        try clear hfz80_3
                        try clear hfz84_0
                        try clear hfz84_1
                        try clear hfz84_2
                        try clear hfz84_3
                        try clear hfz87_0
                        try clear hfz87_1
                        try clear hfz87_2
                        try clear hfz87_3
                        try clear hfz89_0
                        try clear hfz89_1
                        try clear hfz89_2
                        try clear hfz89_3
                        try clear hfz94_0
                        try clear hfz94_1
                        try clear hfz94_2
                        try clear hfz94_3
                        try clear hfz98_0
                        try clear hfz98_1
                        try clear hfz98_2
                        try clear hfz98_3
                        try clear p2
                        try clear p6
                        try clear p64
                        obtain ⟨kq, x119_106, rfl, HA, HJ106, BK256, BK264, BK270, BK276, BK282, BK286, HB⟩ := hcut
                        cases kq with
                        | zero => exact absurd HA.out (by simp [transhumancelaw2_VerPseudos.j2])
                        | succ kj106 =>
                          have H := HA.out
                          clear HA
                          simp only [transhumancelaw2_VerPseudos.j2] at H
                          by_cases c132 : x119_106 = true
                          · subst c132
                            have H1 : (if t285 = true then (if t283 = t257 then (if 0 ≤ 12 then (if 12 ≤ (((⟨#[48, 49, 50, 51, 52, 53, 54, 55, 56, 57, 97, 98, 99, 100, 101, 102, 48, 49, 50, 51]⟩ : ByteArray).extract 0 ((ji21) : Int).toNat).size : Int) then (if t284.toList = (((⟨#[48, 49, 50, 51, 52, 53, 54, 55, 56, 57, 97, 98, 99, 100, 101, 102, 48, 49, 50, 51]⟩ : ByteArray).extract 0 ((ji21) : Int).toNat).extract 0 12).toList then (if a0 = true then ((ver_Cmp.f kj106 t259 t260 t261 t262 x257000_11 x257001_11 x257002_11 x257003_11).bind fun t287 => (if t287 > 0 then ((ver_Cmp.f kj106 t259 t260 t261 t262 x257000_11 x257001_11 x257002_11 (⟨#[]⟩ : ByteArray)).bind fun t288 => (some (decide (t288 < 0)))) else (some false))) else ((ver_Cmp.f kj106 t259 t260 t261 t262 x257000_11 x257001_11 x257002_11 (⟨#[]⟩ : ByteArray)).bind fun t289 => (some (decide (t289 < 0))))) else (some false)) else (none)) else (none)) else (some false)) else (some false)) = some r := by rw [if_pos rfl] at H; exact H
                            clear H
                            have H := H1
                            clear H1
                            by_cases c133 : t285 = true
                            · subst c133
                              have H1 : (if t283 = t257 then (if 0 ≤ 12 then (if 12 ≤ (((⟨#[48, 49, 50, 51, 52, 53, 54, 55, 56, 57, 97, 98, 99, 100, 101, 102, 48, 49, 50, 51]⟩ : ByteArray).extract 0 ((ji21) : Int).toNat).size : Int) then (if t284.toList = (((⟨#[48, 49, 50, 51, 52, 53, 54, 55, 56, 57, 97, 98, 99, 100, 101, 102, 48, 49, 50, 51]⟩ : ByteArray).extract 0 ((ji21) : Int).toNat).extract 0 12).toList then (if a0 = true then ((ver_Cmp.f kj106 t259 t260 t261 t262 x257000_11 x257001_11 x257002_11 x257003_11).bind fun t287 => (if t287 > 0 then ((ver_Cmp.f kj106 t259 t260 t261 t262 x257000_11 x257001_11 x257002_11 (⟨#[]⟩ : ByteArray)).bind fun t288 => (some (decide (t288 < 0)))) else (some false))) else ((ver_Cmp.f kj106 t259 t260 t261 t262 x257000_11 x257001_11 x257002_11 (⟨#[]⟩ : ByteArray)).bind fun t289 => (some (decide (t289 < 0))))) else (some false)) else (none)) else (none)) else (some false)) = some r := by rw [if_pos rfl] at H; exact H
                              clear H
                              have H := H1
                              clear H1
                              by_cases c134 : t283 = t257
                              · rw [if_pos c134] at H
                                have c134b0 : (t283 == t257) = true := beq_iff_eq.mpr c134
                                have c134b1 : (t283 != t257) = false := bne_eq_false_iff_eq.mpr c134
                                clear c134
                                by_cases c135 : 0 ≤ 12
                                · rw [if_pos c135] at H
                                  have c135b0 := eq_true c135
                                  have c135b1 : decide (0 ≤ 12) = true := decide_eq_true c135
                                  clear c135
                                  by_cases c136 : 12 ≤ (((⟨#[48, 49, 50, 51, 52, 53, 54, 55, 56, 57, 97, 98, 99, 100, 101, 102, 48, 49, 50, 51]⟩ : ByteArray).extract 0 ((ji21) : Int).toNat).size : Int)
                                  · rw [if_pos c136] at H
                                    have c136b0 := eq_true c136
                                    have c136b1 : decide (12 ≤ (((⟨#[48, 49, 50, 51, 52, 53, 54, 55, 56, 57, 97, 98, 99, 100, 101, 102, 48, 49, 50, 51]⟩ : ByteArray).extract 0 ((ji21) : Int).toNat).size : Int)) = true := decide_eq_true c136
                                    have c136b8 : ((12 : Int) ≤ ((min ji21.toNat 20 : Nat) : Int)) = True := eq_true (by have h_ := c136; rw [ByteArray.size_extract] at h_; simpa [ByteArray.size] using h_)
                                    have c136b9 : (((min ji21.toNat 20 : Nat) : Int) < 12) = False := eq_false (by have h_ := of_eq_true c136b8; omega)
                                    clear c136
                                    by_cases c137 : t284.toList = (((⟨#[48, 49, 50, 51, 52, 53, 54, 55, 56, 57, 97, 98, 99, 100, 101, 102, 48, 49, 50, 51]⟩ : ByteArray).extract 0 ((ji21) : Int).toNat).extract 0 12).toList
                                    · rw [if_pos c137] at H
                                      have c137b0 : (t284.toList == (((⟨#[48, 49, 50, 51, 52, 53, 54, 55, 56, 57, 97, 98, 99, 100, 101, 102, 48, 49, 50, 51]⟩ : ByteArray).extract 0 ((ji21) : Int).toNat).extract 0 12).toList) = true := beq_iff_eq.mpr c137
                                      have c137b1 : (t284.toList != (((⟨#[48, 49, 50, 51, 52, 53, 54, 55, 56, 57, 97, 98, 99, 100, 101, 102, 48, 49, 50, 51]⟩ : ByteArray).extract 0 ((ji21) : Int).toNat).extract 0 12).toList) = false := bne_eq_false_iff_eq.mpr c137
                                      clear c137
                                      by_cases c138 : a0 = true
                                      · subst c138
                                        have H1 : ((ver_Cmp.f kj106 t259 t260 t261 t262 x257000_11 x257001_11 x257002_11 x257003_11).bind fun t287 => (if t287 > 0 then ((ver_Cmp.f kj106 t259 t260 t261 t262 x257000_11 x257001_11 x257002_11 (⟨#[]⟩ : ByteArray)).bind fun t288 => (some (decide (t288 < 0)))) else (some false))) = some r := by rw [if_pos rfl] at H; exact H
                                        clear H
                                        have H := H1
                                        clear H1
                                        replace H := Option.bind_eq_some_iff.mp H
                                        obtain ⟨t287, A1390, H⟩ := H
                                        replace H : (if t287 > 0 then ((ver_Cmp.f kj106 t259 t260 t261 t262 x257000_11 x257001_11 x257002_11 (⟨#[]⟩ : ByteArray)).bind fun t288 => (some (decide (t288 < 0)))) else (some false)) = some r := H
                                        have A139 := Aside0.mk A1390
                                        clear A1390
                                        by_cases c140 : t287 > 0
                                        · rw [if_pos c140] at H
                                          have c140b0 : decide (0 < t287) = true := decide_eq_true c140
                                          clear c140
                                          replace H := Option.bind_eq_some_iff.mp H
                                          obtain ⟨t288, A1410, H⟩ := H
                                          replace H : (some (decide (t288 < 0))) = some r := H
                                          have A141 := Aside0.mk A1410
                                          clear A1410
                                          obtain rfl := Option.some.inj H
                                          have hnb142 := NB256_264.out
                                          have hnc142 := NB264_256.out
                                          have hnb143 := NB256_270.out
                                          have hnc143 := NB270_256.out
                                          have hnb144 := NB256_276.out
                                          have hnc144 := NB276_256.out
                                          have hnb145 := NB256_282.out
                                          have hnc145 := NB282_256.out
                                          have hnb146 := NB256_286.out
                                          have hnc146 := NB286_256.out
                                          have hcz147_0 : wc.cell? ⟨gb256, 0, none⟩ = some (.int .i64 x257000_11) := (blk_cell BK256.out 0).trans rfl
                                          have hcz147_1 : wc.cell? ⟨gb256, 1, none⟩ = some (.int .i64 x257001_11) := (blk_cell BK256.out 1).trans rfl
                                          have hcz147_2 : wc.cell? ⟨gb256, 2, none⟩ = some (.int .i64 x257002_11) := (blk_cell BK256.out 2).trans rfl
                                          have hcz147_3 : wc.cell? ⟨gb256, 3, none⟩ = some (.string x257003_11) := (blk_cell BK256.out 3).trans rfl
                                          have hfz147_0 := blk_frozen BK256.out 0
                                          have hfz147_1 := blk_frozen BK256.out 1
                                          have hfz147_2 := blk_frozen BK256.out 2
                                          have hfz147_3 := blk_frozen BK256.out 3
                                          have hnb148 := NB286_264.out
                                          have hnc148 := NB264_286.out
                                          have hnb149 := NB286_270.out
                                          have hnc149 := NB270_286.out
                                          have hnb150 := NB286_276.out
                                          have hnc150 := NB276_286.out
                                          have hnb151 := NB286_282.out
                                          have hnc151 := NB282_286.out
                                          have hcz152_0 : wc.cell? ⟨gb286, 0, none⟩ = some (.int .i64 x257000_11) := (blk_cell BK286.out 0).trans rfl
                                          have hcz152_1 : wc.cell? ⟨gb286, 1, none⟩ = some (.int .i64 x257001_11) := (blk_cell BK286.out 1).trans rfl
                                          have hcz152_2 : wc.cell? ⟨gb286, 2, none⟩ = some (.int .i64 (wrap64 (x257002_11 + 1))) := (blk_cell BK286.out 2).trans rfl
                                          have hcz152_3 : wc.cell? ⟨gb286, 3, none⟩ = some (.string (⟨#[]⟩ : ByteArray)) := (blk_cell BK286.out 3).trans rfl
                                          have hfz152_0 := blk_frozen BK286.out 0
                                          have hfz152_1 := blk_frozen BK286.out 1
                                          have hfz152_2 := blk_frozen BK286.out 2
                                          have hfz152_3 := blk_frozen BK286.out 3
                                          have hnb153 := NB264_270.out
                                          have hnc153 := NB270_264.out
                                          have hnb154 := NB264_276.out
                                          have hnc154 := NB276_264.out
                                          have hnb155 := NB264_282.out
                                          have hnc155 := NB282_264.out
                                          have hcz156_0 : wc.cell? ⟨gb264, 0, none⟩ = some (.int .i64 t259) := (blk_cell BK264.out 0).trans rfl
                                          have hcz156_1 : wc.cell? ⟨gb264, 1, none⟩ = some (.int .i64 t260) := (blk_cell BK264.out 1).trans rfl
                                          have hcz156_2 : wc.cell? ⟨gb264, 2, none⟩ = some (.int .i64 t261) := (blk_cell BK264.out 2).trans rfl
                                          have hcz156_3 : wc.cell? ⟨gb264, 3, none⟩ = some (.string t262) := (blk_cell BK264.out 3).trans rfl
                                          have hfz156_0 := blk_frozen BK264.out 0
                                          have hfz156_1 := blk_frozen BK264.out 1
                                          have hfz156_2 := blk_frozen BK264.out 2
                                          have hfz156_3 := blk_frozen BK264.out 3
                                          go_wp2_with (first | (go_at_call 19; (with_reducible refine (ver_Cmp.calls kj106 t259 t260 t261 t262 x257000_11 x257001_11 x257002_11 x257003_11 t287 _ ?side1 A139.out).mono ?_); (case side1 => exact GL.below0 hG (by repeat (first | (with_reducible first | exact HB.out | apply below_alloc | apply pw_below_drewN | apply below_drew1 | refine below_set ?_ GE256.out | refine below_set ?_ GE264.out | refine below_set ?_ GE270.out | refine below_set ?_ GE276.out | refine below_set ?_ GE282.out | refine below_set ?_ GE286.out) | exact HB.out))); rintro e w157 ⟨rfl, hb⟩; have n0_ := Aside0.mk (blk_below (g := gb256) (o := .cells #[.int .i64 x257000_11, .int .i64 x257001_11, .int .i64 x257002_11, .string x257003_11] 25 (0, 0)) (by (with_reducible repeat (first | refine blk_drewN ?_ _ | refine blk_drew ?_ | refine blk_alloc ?_ _)); refine blk_far ?_ NB256_286.out _; (with_reducible repeat (first | refine blk_drewN ?_ _ | refine blk_drew ?_ | refine blk_alloc ?_ _)); exact BK256.out) hb); have n1_ := Aside0.mk (blk_below (g := gb264) (o := .cells #[.int .i64 t259, .int .i64 t260, .int .i64 t261, .string t262] 25 (0, 0)) (by (with_reducible repeat (first | refine blk_drewN ?_ _ | refine blk_drew ?_ | refine blk_alloc ?_ _)); refine blk_far ?_ NB264_286.out _; (with_reducible repeat (first | refine blk_drewN ?_ _ | refine blk_drew ?_ | refine blk_alloc ?_ _)); exact BK264.out) hb); have n2_ := Aside0.mk (blk_below (g := gb270) (o := .cells #[.int .i64 t265, .int .i64 t266, .int .i64 t267, .string t268] 25 (0, 0)) (by (with_reducible repeat (first | refine blk_drewN ?_ _ | refine blk_drew ?_ | refine blk_alloc ?_ _)); refine blk_far ?_ NB270_286.out _; (with_reducible repeat (first | refine blk_drewN ?_ _ | refine blk_drew ?_ | refine blk_alloc ?_ _)); exact BK270.out) hb); have n3_ := Aside0.mk (blk_below (g := gb276) (o := .cells #[.int .i64 t271, .int .i64 t272, .int .i64 t273, .string t274] 25 (0, 0)) (by (with_reducible repeat (first | refine blk_drewN ?_ _ | refine blk_drew ?_ | refine blk_alloc ?_ _)); refine blk_far ?_ NB276_286.out _; (with_reducible repeat (first | refine blk_drewN ?_ _ | refine blk_drew ?_ | refine blk_alloc ?_ _)); exact BK276.out) hb); have n4_ := Aside0.mk (blk_below (g := gb282) (o := .cells #[.int .i64 t277, .int .i64 t278, .int .i64 t279, .string t280] 25 (0, 0)) (by (with_reducible repeat (first | refine blk_drewN ?_ _ | refine blk_drew ?_ | refine blk_alloc ?_ _)); refine blk_far ?_ NB282_286.out _; (with_reducible repeat (first | refine blk_drewN ?_ _ | refine blk_drew ?_ | refine blk_alloc ?_ _)); exact BK282.out) hb); have n5_ := Aside0.mk (blk_below (g := gb286) (o := .cells #[.int .i64 x257000_11, .int .i64 x257001_11, .int .i64 x257002_11, .string (⟨#[]⟩ : ByteArray)] 25 (0, 0)) (by (with_reducible repeat (first | refine blk_drewN ?_ _ | refine blk_drew ?_ | refine blk_alloc ?_ _)); refine blk_put (cs := #[.int .i64 x257000_11, .int .i64 x257001_11, .int .i64 (wrap64 (x257002_11 + 1)), .string (⟨#[]⟩ : ByteArray)]) ?_ 2 _ rfl; (with_reducible repeat (first | refine blk_drewN ?_ _ | refine blk_drew ?_ | refine blk_alloc ?_ _)); exact BK286.out) hb); have n6_ := Aside0.mk (below_step (by repeat (first | (with_reducible first | exact HB.out | apply below_alloc | apply pw_below_drewN | apply below_drew1 | refine below_set ?_ GE256.out | refine below_set ?_ GE264.out | refine below_set ?_ GE270.out | refine below_set ?_ GE276.out | refine below_set ?_ GE282.out | refine below_set ?_ GE286.out) | exact HB.out)) hb); clear BK256; clear BK264; clear BK270; clear BK276; clear BK282; clear BK286; clear HB; have BK256 := n0_; have BK264 := n1_; have BK270 := n2_; have BK276 := n3_; have BK282 := n4_; have BK286 := n5_; have HB := n6_; clear n0_ n1_ n2_ n3_ n4_ n5_ n6_; (try clear hb); (try clear hb2); (try clear hk); (try clear hi); have hcz158_0 : w157.cell? ⟨gb264, 0, none⟩ = some (.int .i64 t259) := (blk_cell BK264.out 0).trans rfl; have hcz158_1 : w157.cell? ⟨gb264, 1, none⟩ = some (.int .i64 t260) := (blk_cell BK264.out 1).trans rfl; have hcz158_2 : w157.cell? ⟨gb264, 2, none⟩ = some (.int .i64 t261) := (blk_cell BK264.out 2).trans rfl; have hcz158_3 : w157.cell? ⟨gb264, 3, none⟩ = some (.string t262) := (blk_cell BK264.out 3).trans rfl; have hfz158_0 := blk_frozen BK264.out 0; have hfz158_1 := blk_frozen BK264.out 1; have hfz158_2 := blk_frozen BK264.out 2; have hfz158_3 := blk_frozen BK264.out 3; have hcz159_0 : w157.cell? ⟨gb286, 0, none⟩ = some (.int .i64 x257000_11) := (blk_cell BK286.out 0).trans rfl; have hcz159_1 : w157.cell? ⟨gb286, 1, none⟩ = some (.int .i64 x257001_11) := (blk_cell BK286.out 1).trans rfl; have hcz159_2 : w157.cell? ⟨gb286, 2, none⟩ = some (.int .i64 x257002_11) := (blk_cell BK286.out 2).trans rfl; have hcz159_3 : w157.cell? ⟨gb286, 3, none⟩ = some (.string (⟨#[]⟩ : ByteArray)) := (blk_cell BK286.out 3).trans rfl; have hfz159_0 := blk_frozen BK286.out 0; have hfz159_1 := blk_frozen BK286.out 1; have hfz159_2 := blk_frozen BK286.out 2; have hfz159_3 := blk_frozen BK286.out 3) | (go_at_call 19; (with_reducible refine (ver_Cmp.calls kj106 t259 t260 t261 t262 x257000_11 x257001_11 x257002_11 (⟨#[]⟩ : ByteArray) t288 _ ?side1 A141.out).mono ?_); (case side1 => exact GL.below0 hG (by repeat (first | (with_reducible first | exact HB.out | apply below_alloc | apply pw_below_drewN | apply below_drew1 | refine below_set ?_ GE256.out | refine below_set ?_ GE264.out | refine below_set ?_ GE270.out | refine below_set ?_ GE276.out | refine below_set ?_ GE282.out | refine below_set ?_ GE286.out) | exact HB.out))); rintro e w160 ⟨rfl, hb⟩; have n0_ := Aside0.mk (blk_below (g := gb256) (o := .cells #[.int .i64 x257000_11, .int .i64 x257001_11, .int .i64 x257002_11, .string x257003_11] 25 (0, 0)) (by (with_reducible repeat (first | refine blk_drewN ?_ _ | refine blk_drew ?_ | refine blk_alloc ?_ _)); exact BK256.out) hb); have n1_ := Aside0.mk (blk_below (g := gb264) (o := .cells #[.int .i64 t259, .int .i64 t260, .int .i64 t261, .string t262] 25 (0, 0)) (by (with_reducible repeat (first | refine blk_drewN ?_ _ | refine blk_drew ?_ | refine blk_alloc ?_ _)); exact BK264.out) hb); have n2_ := Aside0.mk (blk_below (g := gb270) (o := .cells #[.int .i64 t265, .int .i64 t266, .int .i64 t267, .string t268] 25 (0, 0)) (by (with_reducible repeat (first | refine blk_drewN ?_ _ | refine blk_drew ?_ | refine blk_alloc ?_ _)); exact BK270.out) hb); have n3_ := Aside0.mk (blk_below (g := gb276) (o := .cells #[.int .i64 t271, .int .i64 t272, .int .i64 t273, .string t274] 25 (0, 0)) (by (with_reducible repeat (first | refine blk_drewN ?_ _ | refine blk_drew ?_ | refine blk_alloc ?_ _)); exact BK276.out) hb); have n4_ := Aside0.mk (blk_below (g := gb282) (o := .cells #[.int .i64 t277, .int .i64 t278, .int .i64 t279, .string t280] 25 (0, 0)) (by (with_reducible repeat (first | refine blk_drewN ?_ _ | refine blk_drew ?_ | refine blk_alloc ?_ _)); exact BK282.out) hb); have n5_ := Aside0.mk (blk_below (g := gb286) (o := .cells #[.int .i64 x257000_11, .int .i64 x257001_11, .int .i64 x257002_11, .string (⟨#[]⟩ : ByteArray)] 25 (0, 0)) (by (with_reducible repeat (first | refine blk_drewN ?_ _ | refine blk_drew ?_ | refine blk_alloc ?_ _)); exact BK286.out) hb); have n6_ := Aside0.mk (below_step (by repeat (first | (with_reducible first | exact HB.out | apply below_alloc | apply pw_below_drewN | apply below_drew1 | refine below_set ?_ GE256.out | refine below_set ?_ GE264.out | refine below_set ?_ GE270.out | refine below_set ?_ GE276.out | refine below_set ?_ GE282.out | refine below_set ?_ GE286.out) | exact HB.out)) hb); clear BK256; clear BK264; clear BK270; clear BK276; clear BK282; clear BK286; clear HB; have BK256 := n0_; have BK264 := n1_; have BK270 := n2_; have BK276 := n3_; have BK282 := n4_; have BK286 := n5_; have HB := n6_; clear n0_ n1_ n2_ n3_ n4_ n5_ n6_; (try clear hb); (try clear hb2); (try clear hk); (try clear hi)))
                                          go_ret
                                          exact ⟨by first | rfl | (simp [errW_none, errW_some] <;> rfl) | (simp only [← hji21]; first | rfl | (simp [errW_none, errW_some] <;> rfl)) | (simp [*, errW_none, errW_some] <;> rfl), by repeat (first | (with_reducible first | exact HB.out | apply below_alloc | apply pw_below_drewN | apply below_drew1 | refine below_set ?_ GE256.out | refine below_set ?_ GE264.out | refine below_set ?_ GE270.out | refine below_set ?_ GE276.out | refine below_set ?_ GE282.out | refine below_set ?_ GE286.out) | exact HB.out)⟩
                                        · rw [if_neg c140] at H
                                          have c140b0 : decide (0 < t287) = false := decide_eq_false c140
                                          clear c140
                                          obtain rfl := Option.some.inj H
                                          have hnb161 := NB256_264.out
                                          have hnc161 := NB264_256.out
                                          have hnb162 := NB256_270.out
                                          have hnc162 := NB270_256.out
                                          have hnb163 := NB256_276.out
                                          have hnc163 := NB276_256.out
                                          have hnb164 := NB256_282.out
                                          have hnc164 := NB282_256.out
                                          have hnb165 := NB256_286.out
                                          have hnc165 := NB286_256.out
                                          have hcz166_0 : wc.cell? ⟨gb256, 0, none⟩ = some (.int .i64 x257000_11) := (blk_cell BK256.out 0).trans rfl
                                          have hcz166_1 : wc.cell? ⟨gb256, 1, none⟩ = some (.int .i64 x257001_11) := (blk_cell BK256.out 1).trans rfl
                                          have hcz166_2 : wc.cell? ⟨gb256, 2, none⟩ = some (.int .i64 x257002_11) := (blk_cell BK256.out 2).trans rfl
                                          have hcz166_3 : wc.cell? ⟨gb256, 3, none⟩ = some (.string x257003_11) := (blk_cell BK256.out 3).trans rfl
                                          have hfz166_0 := blk_frozen BK256.out 0
                                          have hfz166_1 := blk_frozen BK256.out 1
                                          have hfz166_2 := blk_frozen BK256.out 2
                                          have hfz166_3 := blk_frozen BK256.out 3
                                          have hnb167 := NB286_264.out
                                          have hnc167 := NB264_286.out
                                          have hnb168 := NB286_270.out
                                          have hnc168 := NB270_286.out
                                          have hnb169 := NB286_276.out
                                          have hnc169 := NB276_286.out
                                          have hnb170 := NB286_282.out
                                          have hnc170 := NB282_286.out
                                          have hcz171_0 : wc.cell? ⟨gb286, 0, none⟩ = some (.int .i64 x257000_11) := (blk_cell BK286.out 0).trans rfl
                                          have hcz171_1 : wc.cell? ⟨gb286, 1, none⟩ = some (.int .i64 x257001_11) := (blk_cell BK286.out 1).trans rfl
                                          have hcz171_2 : wc.cell? ⟨gb286, 2, none⟩ = some (.int .i64 (wrap64 (x257002_11 + 1))) := (blk_cell BK286.out 2).trans rfl
                                          have hcz171_3 : wc.cell? ⟨gb286, 3, none⟩ = some (.string (⟨#[]⟩ : ByteArray)) := (blk_cell BK286.out 3).trans rfl
                                          have hfz171_0 := blk_frozen BK286.out 0
                                          have hfz171_1 := blk_frozen BK286.out 1
                                          have hfz171_2 := blk_frozen BK286.out 2
                                          have hfz171_3 := blk_frozen BK286.out 3
                                          have hnb172 := NB264_270.out
                                          have hnc172 := NB270_264.out
                                          have hnb173 := NB264_276.out
                                          have hnc173 := NB276_264.out
                                          have hnb174 := NB264_282.out
                                          have hnc174 := NB282_264.out
                                          have hcz175_0 : wc.cell? ⟨gb264, 0, none⟩ = some (.int .i64 t259) := (blk_cell BK264.out 0).trans rfl
                                          have hcz175_1 : wc.cell? ⟨gb264, 1, none⟩ = some (.int .i64 t260) := (blk_cell BK264.out 1).trans rfl
                                          have hcz175_2 : wc.cell? ⟨gb264, 2, none⟩ = some (.int .i64 t261) := (blk_cell BK264.out 2).trans rfl
                                          have hcz175_3 : wc.cell? ⟨gb264, 3, none⟩ = some (.string t262) := (blk_cell BK264.out 3).trans rfl
                                          have hfz175_0 := blk_frozen BK264.out 0
                                          have hfz175_1 := blk_frozen BK264.out 1
                                          have hfz175_2 := blk_frozen BK264.out 2
                                          have hfz175_3 := blk_frozen BK264.out 3
                                          go_wp2_with (first | (go_at_call 19; (with_reducible refine (ver_Cmp.calls kj106 t259 t260 t261 t262 x257000_11 x257001_11 x257002_11 x257003_11 t287 _ ?side1 A139.out).mono ?_); (case side1 => exact GL.below0 hG (by repeat (first | (with_reducible first | exact HB.out | apply below_alloc | apply pw_below_drewN | apply below_drew1 | refine below_set ?_ GE256.out | refine below_set ?_ GE264.out | refine below_set ?_ GE270.out | refine below_set ?_ GE276.out | refine below_set ?_ GE282.out | refine below_set ?_ GE286.out) | exact HB.out))); rintro e w176 ⟨rfl, hb⟩; have n0_ := Aside0.mk (blk_below (g := gb256) (o := .cells #[.int .i64 x257000_11, .int .i64 x257001_11, .int .i64 x257002_11, .string x257003_11] 25 (0, 0)) (by (with_reducible repeat (first | refine blk_drewN ?_ _ | refine blk_drew ?_ | refine blk_alloc ?_ _)); refine blk_far ?_ NB256_286.out _; (with_reducible repeat (first | refine blk_drewN ?_ _ | refine blk_drew ?_ | refine blk_alloc ?_ _)); exact BK256.out) hb); have n1_ := Aside0.mk (blk_below (g := gb264) (o := .cells #[.int .i64 t259, .int .i64 t260, .int .i64 t261, .string t262] 25 (0, 0)) (by (with_reducible repeat (first | refine blk_drewN ?_ _ | refine blk_drew ?_ | refine blk_alloc ?_ _)); refine blk_far ?_ NB264_286.out _; (with_reducible repeat (first | refine blk_drewN ?_ _ | refine blk_drew ?_ | refine blk_alloc ?_ _)); exact BK264.out) hb); have n2_ := Aside0.mk (blk_below (g := gb270) (o := .cells #[.int .i64 t265, .int .i64 t266, .int .i64 t267, .string t268] 25 (0, 0)) (by (with_reducible repeat (first | refine blk_drewN ?_ _ | refine blk_drew ?_ | refine blk_alloc ?_ _)); refine blk_far ?_ NB270_286.out _; (with_reducible repeat (first | refine blk_drewN ?_ _ | refine blk_drew ?_ | refine blk_alloc ?_ _)); exact BK270.out) hb); have n3_ := Aside0.mk (blk_below (g := gb276) (o := .cells #[.int .i64 t271, .int .i64 t272, .int .i64 t273, .string t274] 25 (0, 0)) (by (with_reducible repeat (first | refine blk_drewN ?_ _ | refine blk_drew ?_ | refine blk_alloc ?_ _)); refine blk_far ?_ NB276_286.out _; (with_reducible repeat (first | refine blk_drewN ?_ _ | refine blk_drew ?_ | refine blk_alloc ?_ _)); exact BK276.out) hb); have n4_ := Aside0.mk (blk_below (g := gb282) (o := .cells #[.int .i64 t277, .int .i64 t278, .int .i64 t279, .string t280] 25 (0, 0)) (by (with_reducible repeat (first | refine blk_drewN ?_ _ | refine blk_drew ?_ | refine blk_alloc ?_ _)); refine blk_far ?_ NB282_286.out _; (with_reducible repeat (first | refine blk_drewN ?_ _ | refine blk_drew ?_ | refine blk_alloc ?_ _)); exact BK282.out) hb); have n5_ := Aside0.mk (blk_below (g := gb286) (o := .cells #[.int .i64 x257000_11, .int .i64 x257001_11, .int .i64 x257002_11, .string (⟨#[]⟩ : ByteArray)] 25 (0, 0)) (by (with_reducible repeat (first | refine blk_drewN ?_ _ | refine blk_drew ?_ | refine blk_alloc ?_ _)); refine blk_put (cs := #[.int .i64 x257000_11, .int .i64 x257001_11, .int .i64 (wrap64 (x257002_11 + 1)), .string (⟨#[]⟩ : ByteArray)]) ?_ 2 _ rfl; (with_reducible repeat (first | refine blk_drewN ?_ _ | refine blk_drew ?_ | refine blk_alloc ?_ _)); exact BK286.out) hb); have n6_ := Aside0.mk (below_step (by repeat (first | (with_reducible first | exact HB.out | apply below_alloc | apply pw_below_drewN | apply below_drew1 | refine below_set ?_ GE256.out | refine below_set ?_ GE264.out | refine below_set ?_ GE270.out | refine below_set ?_ GE276.out | refine below_set ?_ GE282.out | refine below_set ?_ GE286.out) | exact HB.out)) hb); clear BK256; clear BK264; clear BK270; clear BK276; clear BK282; clear BK286; clear HB; have BK256 := n0_; have BK264 := n1_; have BK270 := n2_; have BK276 := n3_; have BK282 := n4_; have BK286 := n5_; have HB := n6_; clear n0_ n1_ n2_ n3_ n4_ n5_ n6_; (try clear hb); (try clear hb2); (try clear hk); (try clear hi)))
                                          go_ret
                                          exact ⟨by first | rfl | (simp [errW_none, errW_some] <;> rfl) | (simp only [← hji21]; first | rfl | (simp [errW_none, errW_some] <;> rfl)) | (simp [*, errW_none, errW_some] <;> rfl), by repeat (first | (with_reducible first | exact HB.out | apply below_alloc | apply pw_below_drewN | apply below_drew1 | refine below_set ?_ GE256.out | refine below_set ?_ GE264.out | refine below_set ?_ GE270.out | refine below_set ?_ GE276.out | refine below_set ?_ GE282.out | refine below_set ?_ GE286.out) | exact HB.out)⟩
                                      · replace c138 := Bool.eq_false_iff.mpr c138
                                        subst c138
                                        have H1 : ((ver_Cmp.f kj106 t259 t260 t261 t262 x257000_11 x257001_11 x257002_11 (⟨#[]⟩ : ByteArray)).bind fun t289 => (some (decide (t289 < 0)))) = some r := by rw [if_neg (show ¬ (false = true) by decide)] at H; exact H
                                        clear H
                                        have H := H1
                                        clear H1
                                        replace H := Option.bind_eq_some_iff.mp H
                                        obtain ⟨t289, A1770, H⟩ := H
                                        replace H : (some (decide (t289 < 0))) = some r := H
                                        have A177 := Aside0.mk A1770
                                        clear A1770
                                        obtain rfl := Option.some.inj H
                                        have hnb178 := NB256_264.out
                                        have hnc178 := NB264_256.out
                                        have hnb179 := NB256_270.out
                                        have hnc179 := NB270_256.out
                                        have hnb180 := NB256_276.out
                                        have hnc180 := NB276_256.out
                                        have hnb181 := NB256_282.out
                                        have hnc181 := NB282_256.out
                                        have hnb182 := NB256_286.out
                                        have hnc182 := NB286_256.out
                                        have hcz183_0 : wc.cell? ⟨gb256, 0, none⟩ = some (.int .i64 x257000_11) := (blk_cell BK256.out 0).trans rfl
                                        have hcz183_1 : wc.cell? ⟨gb256, 1, none⟩ = some (.int .i64 x257001_11) := (blk_cell BK256.out 1).trans rfl
                                        have hcz183_2 : wc.cell? ⟨gb256, 2, none⟩ = some (.int .i64 x257002_11) := (blk_cell BK256.out 2).trans rfl
                                        have hcz183_3 : wc.cell? ⟨gb256, 3, none⟩ = some (.string x257003_11) := (blk_cell BK256.out 3).trans rfl
                                        have hfz183_0 := blk_frozen BK256.out 0
                                        have hfz183_1 := blk_frozen BK256.out 1
                                        have hfz183_2 := blk_frozen BK256.out 2
                                        have hfz183_3 := blk_frozen BK256.out 3
                                        have hnb184 := NB286_264.out
                                        have hnc184 := NB264_286.out
                                        have hnb185 := NB286_270.out
                                        have hnc185 := NB270_286.out
                                        have hnb186 := NB286_276.out
                                        have hnc186 := NB276_286.out
                                        have hnb187 := NB286_282.out
                                        have hnc187 := NB282_286.out
                                        have hcz188_0 : wc.cell? ⟨gb286, 0, none⟩ = some (.int .i64 x257000_11) := (blk_cell BK286.out 0).trans rfl
                                        have hcz188_1 : wc.cell? ⟨gb286, 1, none⟩ = some (.int .i64 x257001_11) := (blk_cell BK286.out 1).trans rfl
                                        have hcz188_2 : wc.cell? ⟨gb286, 2, none⟩ = some (.int .i64 (wrap64 (x257002_11 + 1))) := (blk_cell BK286.out 2).trans rfl
                                        have hcz188_3 : wc.cell? ⟨gb286, 3, none⟩ = some (.string (⟨#[]⟩ : ByteArray)) := (blk_cell BK286.out 3).trans rfl
                                        have hfz188_0 := blk_frozen BK286.out 0
                                        have hfz188_1 := blk_frozen BK286.out 1
                                        have hfz188_2 := blk_frozen BK286.out 2
                                        have hfz188_3 := blk_frozen BK286.out 3
                                        have hnb189 := NB264_270.out
                                        have hnc189 := NB270_264.out
                                        have hnb190 := NB264_276.out
                                        have hnc190 := NB276_264.out
                                        have hnb191 := NB264_282.out
                                        have hnc191 := NB282_264.out
                                        have hcz192_0 : wc.cell? ⟨gb264, 0, none⟩ = some (.int .i64 t259) := (blk_cell BK264.out 0).trans rfl
                                        have hcz192_1 : wc.cell? ⟨gb264, 1, none⟩ = some (.int .i64 t260) := (blk_cell BK264.out 1).trans rfl
                                        have hcz192_2 : wc.cell? ⟨gb264, 2, none⟩ = some (.int .i64 t261) := (blk_cell BK264.out 2).trans rfl
                                        have hcz192_3 : wc.cell? ⟨gb264, 3, none⟩ = some (.string t262) := (blk_cell BK264.out 3).trans rfl
                                        have hfz192_0 := blk_frozen BK264.out 0
                                        have hfz192_1 := blk_frozen BK264.out 1
                                        have hfz192_2 := blk_frozen BK264.out 2
                                        have hfz192_3 := blk_frozen BK264.out 3
                                        go_wp2_with (first | (go_at_call 19; (with_reducible refine (ver_Cmp.calls kj106 t259 t260 t261 t262 x257000_11 x257001_11 x257002_11 (⟨#[]⟩ : ByteArray) t289 _ ?side1 A177.out).mono ?_); (case side1 => exact GL.below0 hG (by repeat (first | (with_reducible first | exact HB.out | apply below_alloc | apply pw_below_drewN | apply below_drew1 | refine below_set ?_ GE256.out | refine below_set ?_ GE264.out | refine below_set ?_ GE270.out | refine below_set ?_ GE276.out | refine below_set ?_ GE282.out | refine below_set ?_ GE286.out) | exact HB.out))); rintro e w193 ⟨rfl, hb⟩; have n0_ := Aside0.mk (blk_below (g := gb256) (o := .cells #[.int .i64 x257000_11, .int .i64 x257001_11, .int .i64 x257002_11, .string x257003_11] 25 (0, 0)) (by (with_reducible repeat (first | refine blk_drewN ?_ _ | refine blk_drew ?_ | refine blk_alloc ?_ _)); refine blk_far ?_ NB256_286.out _; (with_reducible repeat (first | refine blk_drewN ?_ _ | refine blk_drew ?_ | refine blk_alloc ?_ _)); exact BK256.out) hb); have n1_ := Aside0.mk (blk_below (g := gb264) (o := .cells #[.int .i64 t259, .int .i64 t260, .int .i64 t261, .string t262] 25 (0, 0)) (by (with_reducible repeat (first | refine blk_drewN ?_ _ | refine blk_drew ?_ | refine blk_alloc ?_ _)); refine blk_far ?_ NB264_286.out _; (with_reducible repeat (first | refine blk_drewN ?_ _ | refine blk_drew ?_ | refine blk_alloc ?_ _)); exact BK264.out) hb); have n2_ := Aside0.mk (blk_below (g := gb270) (o := .cells #[.int .i64 t265, .int .i64 t266, .int .i64 t267, .string t268] 25 (0, 0)) (by (with_reducible repeat (first | refine blk_drewN ?_ _ | refine blk_drew ?_ | refine blk_alloc ?_ _)); refine blk_far ?_ NB270_286.out _; (with_reducible repeat (first | refine blk_drewN ?_ _ | refine blk_drew ?_ | refine blk_alloc ?_ _)); exact BK270.out) hb); have n3_ := Aside0.mk (blk_below (g := gb276) (o := .cells #[.int .i64 t271, .int .i64 t272, .int .i64 t273, .string t274] 25 (0, 0)) (by (with_reducible repeat (first | refine blk_drewN ?_ _ | refine blk_drew ?_ | refine blk_alloc ?_ _)); refine blk_far ?_ NB276_286.out _; (with_reducible repeat (first | refine blk_drewN ?_ _ | refine blk_drew ?_ | refine blk_alloc ?_ _)); exact BK276.out) hb); have n4_ := Aside0.mk (blk_below (g := gb282) (o := .cells #[.int .i64 t277, .int .i64 t278, .int .i64 t279, .string t280] 25 (0, 0)) (by (with_reducible repeat (first | refine blk_drewN ?_ _ | refine blk_drew ?_ | refine blk_alloc ?_ _)); refine blk_far ?_ NB282_286.out _; (with_reducible repeat (first | refine blk_drewN ?_ _ | refine blk_drew ?_ | refine blk_alloc ?_ _)); exact BK282.out) hb); have n5_ := Aside0.mk (blk_below (g := gb286) (o := .cells #[.int .i64 x257000_11, .int .i64 x257001_11, .int .i64 x257002_11, .string (⟨#[]⟩ : ByteArray)] 25 (0, 0)) (by (with_reducible repeat (first | refine blk_drewN ?_ _ | refine blk_drew ?_ | refine blk_alloc ?_ _)); refine blk_put (cs := #[.int .i64 x257000_11, .int .i64 x257001_11, .int .i64 (wrap64 (x257002_11 + 1)), .string (⟨#[]⟩ : ByteArray)]) ?_ 2 _ rfl; (with_reducible repeat (first | refine blk_drewN ?_ _ | refine blk_drew ?_ | refine blk_alloc ?_ _)); exact BK286.out) hb); have n6_ := Aside0.mk (below_step (by repeat (first | (with_reducible first | exact HB.out | apply below_alloc | apply pw_below_drewN | apply below_drew1 | refine below_set ?_ GE256.out | refine below_set ?_ GE264.out | refine below_set ?_ GE270.out | refine below_set ?_ GE276.out | refine below_set ?_ GE282.out | refine below_set ?_ GE286.out) | exact HB.out)) hb); clear BK256; clear BK264; clear BK270; clear BK276; clear BK282; clear BK286; clear HB; have BK256 := n0_; have BK264 := n1_; have BK270 := n2_; have BK276 := n3_; have BK282 := n4_; have BK286 := n5_; have HB := n6_; clear n0_ n1_ n2_ n3_ n4_ n5_ n6_; (try clear hb); (try clear hb2); (try clear hk); (try clear hi)))
                                        go_ret
                                        exact ⟨by first | rfl | (simp [errW_none, errW_some] <;> rfl) | (simp only [← hji21]; first | rfl | (simp [errW_none, errW_some] <;> rfl)) | (simp [*, errW_none, errW_some] <;> rfl), by repeat (first | (with_reducible first | exact HB.out | apply below_alloc | apply pw_below_drewN | apply below_drew1 | refine below_set ?_ GE256.out | refine below_set ?_ GE264.out | refine below_set ?_ GE270.out | refine below_set ?_ GE276.out | refine below_set ?_ GE282.out | refine below_set ?_ GE286.out) | exact HB.out)⟩
                                    · rw [if_neg c137] at H
                                      have c137b0 : (t284.toList == (((⟨#[48, 49, 50, 51, 52, 53, 54, 55, 56, 57, 97, 98, 99, 100, 101, 102, 48, 49, 50, 51]⟩ : ByteArray).extract 0 ((ji21) : Int).toNat).extract 0 12).toList) = false := beq_eq_false_iff_ne.mpr c137
                                      have c137b1 : (t284.toList != (((⟨#[48, 49, 50, 51, 52, 53, 54, 55, 56, 57, 97, 98, 99, 100, 101, 102, 48, 49, 50, 51]⟩ : ByteArray).extract 0 ((ji21) : Int).toNat).extract 0 12).toList) = true := bne_iff_ne.mpr c137
                                      obtain rfl := Option.some.inj H
                                      have hnb194 := NB256_264.out
                                      have hnc194 := NB264_256.out
                                      have hnb195 := NB256_270.out
                                      have hnc195 := NB270_256.out
                                      have hnb196 := NB256_276.out
                                      have hnc196 := NB276_256.out
                                      have hnb197 := NB256_282.out
                                      have hnc197 := NB282_256.out
                                      have hnb198 := NB256_286.out
                                      have hnc198 := NB286_256.out
                                      have hcz199_0 : wc.cell? ⟨gb256, 0, none⟩ = some (.int .i64 x257000_11) := (blk_cell BK256.out 0).trans rfl
                                      have hcz199_1 : wc.cell? ⟨gb256, 1, none⟩ = some (.int .i64 x257001_11) := (blk_cell BK256.out 1).trans rfl
                                      have hcz199_2 : wc.cell? ⟨gb256, 2, none⟩ = some (.int .i64 x257002_11) := (blk_cell BK256.out 2).trans rfl
                                      have hcz199_3 : wc.cell? ⟨gb256, 3, none⟩ = some (.string x257003_11) := (blk_cell BK256.out 3).trans rfl
                                      have hfz199_0 := blk_frozen BK256.out 0
                                      have hfz199_1 := blk_frozen BK256.out 1
                                      have hfz199_2 := blk_frozen BK256.out 2
                                      have hfz199_3 := blk_frozen BK256.out 3
                                      have hnb200 := NB286_264.out
                                      have hnc200 := NB264_286.out
                                      have hnb201 := NB286_270.out
                                      have hnc201 := NB270_286.out
                                      have hnb202 := NB286_276.out
                                      have hnc202 := NB276_286.out
                                      have hnb203 := NB286_282.out
                                      have hnc203 := NB282_286.out
                                      have hcz204_0 : wc.cell? ⟨gb286, 0, none⟩ = some (.int .i64 x257000_11) := (blk_cell BK286.out 0).trans rfl
                                      have hcz204_1 : wc.cell? ⟨gb286, 1, none⟩ = some (.int .i64 x257001_11) := (blk_cell BK286.out 1).trans rfl
                                      have hcz204_2 : wc.cell? ⟨gb286, 2, none⟩ = some (.int .i64 (wrap64 (x257002_11 + 1))) := (blk_cell BK286.out 2).trans rfl
                                      have hcz204_3 : wc.cell? ⟨gb286, 3, none⟩ = some (.string (⟨#[]⟩ : ByteArray)) := (blk_cell BK286.out 3).trans rfl
                                      have hfz204_0 := blk_frozen BK286.out 0
                                      have hfz204_1 := blk_frozen BK286.out 1
                                      have hfz204_2 := blk_frozen BK286.out 2
                                      have hfz204_3 := blk_frozen BK286.out 3
                                      go_wp2
                                      go_ret
                                      exact ⟨by first | rfl | (simp [errW_none, errW_some] <;> rfl) | (simp only [← hji21]; first | rfl | (simp [errW_none, errW_some] <;> rfl)) | (simp [*, errW_none, errW_some] <;> rfl), by repeat (first | (with_reducible first | exact HB.out | apply below_alloc | apply pw_below_drewN | apply below_drew1 | refine below_set ?_ GE256.out | refine below_set ?_ GE264.out | refine below_set ?_ GE270.out | refine below_set ?_ GE276.out | refine below_set ?_ GE282.out | refine below_set ?_ GE286.out) | exact HB.out)⟩
                                  · rw [if_neg c136] at H
                                    exact absurd H (by simp)
                                · rw [if_neg c135] at H
                                  exact absurd H (by simp)
                              · rw [if_neg c134] at H
                                have c134b0 : (t283 == t257) = false := beq_eq_false_iff_ne.mpr c134
                                have c134b1 : (t283 != t257) = true := bne_iff_ne.mpr c134
                                obtain rfl := Option.some.inj H
                                have hnb205 := NB256_264.out
                                have hnc205 := NB264_256.out
                                have hnb206 := NB256_270.out
                                have hnc206 := NB270_256.out
                                have hnb207 := NB256_276.out
                                have hnc207 := NB276_256.out
                                have hnb208 := NB256_282.out
                                have hnc208 := NB282_256.out
                                have hnb209 := NB256_286.out
                                have hnc209 := NB286_256.out
                                have hcz210_0 : wc.cell? ⟨gb256, 0, none⟩ = some (.int .i64 x257000_11) := (blk_cell BK256.out 0).trans rfl
                                have hcz210_1 : wc.cell? ⟨gb256, 1, none⟩ = some (.int .i64 x257001_11) := (blk_cell BK256.out 1).trans rfl
                                have hcz210_2 : wc.cell? ⟨gb256, 2, none⟩ = some (.int .i64 x257002_11) := (blk_cell BK256.out 2).trans rfl
                                have hcz210_3 : wc.cell? ⟨gb256, 3, none⟩ = some (.string x257003_11) := (blk_cell BK256.out 3).trans rfl
                                have hfz210_0 := blk_frozen BK256.out 0
                                have hfz210_1 := blk_frozen BK256.out 1
                                have hfz210_2 := blk_frozen BK256.out 2
                                have hfz210_3 := blk_frozen BK256.out 3
                                have hnb211 := NB286_264.out
                                have hnc211 := NB264_286.out
                                have hnb212 := NB286_270.out
                                have hnc212 := NB270_286.out
                                have hnb213 := NB286_276.out
                                have hnc213 := NB276_286.out
                                have hnb214 := NB286_282.out
                                have hnc214 := NB282_286.out
                                have hcz215_0 : wc.cell? ⟨gb286, 0, none⟩ = some (.int .i64 x257000_11) := (blk_cell BK286.out 0).trans rfl
                                have hcz215_1 : wc.cell? ⟨gb286, 1, none⟩ = some (.int .i64 x257001_11) := (blk_cell BK286.out 1).trans rfl
                                have hcz215_2 : wc.cell? ⟨gb286, 2, none⟩ = some (.int .i64 (wrap64 (x257002_11 + 1))) := (blk_cell BK286.out 2).trans rfl
                                have hcz215_3 : wc.cell? ⟨gb286, 3, none⟩ = some (.string (⟨#[]⟩ : ByteArray)) := (blk_cell BK286.out 3).trans rfl
                                have hfz215_0 := blk_frozen BK286.out 0
                                have hfz215_1 := blk_frozen BK286.out 1
                                have hfz215_2 := blk_frozen BK286.out 2
                                have hfz215_3 := blk_frozen BK286.out 3
                                go_wp2
                                go_ret
                                exact ⟨by first | rfl | (simp [errW_none, errW_some] <;> rfl) | (simp only [← hji21]; first | rfl | (simp [errW_none, errW_some] <;> rfl)) | (simp [*, errW_none, errW_some] <;> rfl), by repeat (first | (with_reducible first | exact HB.out | apply below_alloc | apply pw_below_drewN | apply below_drew1 | refine below_set ?_ GE256.out | refine below_set ?_ GE264.out | refine below_set ?_ GE270.out | refine below_set ?_ GE276.out | refine below_set ?_ GE282.out | refine below_set ?_ GE286.out) | exact HB.out)⟩
                            · replace c133 := Bool.eq_false_iff.mpr c133
                              subst c133
                              have H1 : (some false) = some r := by rw [if_neg (show ¬ (false = true) by decide)] at H; exact H
                              clear H
                              have H := H1
                              clear H1
                              obtain rfl := Option.some.inj H
                              have hnb216 := NB256_264.out
                              have hnc216 := NB264_256.out
                              have hnb217 := NB256_270.out
                              have hnc217 := NB270_256.out
                              have hnb218 := NB256_276.out
                              have hnc218 := NB276_256.out
                              have hnb219 := NB256_282.out
                              have hnc219 := NB282_256.out
                              have hnb220 := NB256_286.out
                              have hnc220 := NB286_256.out
                              have hcz221_0 : wc.cell? ⟨gb256, 0, none⟩ = some (.int .i64 x257000_11) := (blk_cell BK256.out 0).trans rfl
                              have hcz221_1 : wc.cell? ⟨gb256, 1, none⟩ = some (.int .i64 x257001_11) := (blk_cell BK256.out 1).trans rfl
                              have hcz221_2 : wc.cell? ⟨gb256, 2, none⟩ = some (.int .i64 x257002_11) := (blk_cell BK256.out 2).trans rfl
                              have hcz221_3 : wc.cell? ⟨gb256, 3, none⟩ = some (.string x257003_11) := (blk_cell BK256.out 3).trans rfl
                              have hfz221_0 := blk_frozen BK256.out 0
                              have hfz221_1 := blk_frozen BK256.out 1
                              have hfz221_2 := blk_frozen BK256.out 2
                              have hfz221_3 := blk_frozen BK256.out 3
                              have hnb222 := NB286_264.out
                              have hnc222 := NB264_286.out
                              have hnb223 := NB286_270.out
                              have hnc223 := NB270_286.out
                              have hnb224 := NB286_276.out
                              have hnc224 := NB276_286.out
                              have hnb225 := NB286_282.out
                              have hnc225 := NB282_286.out
                              have hcz226_0 : wc.cell? ⟨gb286, 0, none⟩ = some (.int .i64 x257000_11) := (blk_cell BK286.out 0).trans rfl
                              have hcz226_1 : wc.cell? ⟨gb286, 1, none⟩ = some (.int .i64 x257001_11) := (blk_cell BK286.out 1).trans rfl
                              have hcz226_2 : wc.cell? ⟨gb286, 2, none⟩ = some (.int .i64 (wrap64 (x257002_11 + 1))) := (blk_cell BK286.out 2).trans rfl
                              have hcz226_3 : wc.cell? ⟨gb286, 3, none⟩ = some (.string (⟨#[]⟩ : ByteArray)) := (blk_cell BK286.out 3).trans rfl
                              have hfz226_0 := blk_frozen BK286.out 0
                              have hfz226_1 := blk_frozen BK286.out 1
                              have hfz226_2 := blk_frozen BK286.out 2
                              have hfz226_3 := blk_frozen BK286.out 3
                              go_wp2
                              go_ret
                              exact ⟨by first | rfl | (simp [errW_none, errW_some] <;> rfl) | (simp only [← hji21]; first | rfl | (simp [errW_none, errW_some] <;> rfl)) | (simp [*, errW_none, errW_some] <;> rfl), by repeat (first | (with_reducible first | exact HB.out | apply below_alloc | apply pw_below_drewN | apply below_drew1 | refine below_set ?_ GE256.out | refine below_set ?_ GE264.out | refine below_set ?_ GE270.out | refine below_set ?_ GE276.out | refine below_set ?_ GE282.out | refine below_set ?_ GE286.out) | exact HB.out)⟩
                          · replace c132 := Bool.eq_false_iff.mpr c132
                            subst c132
                            have H1 : (if t285 = true then (if t283 = t257 then (if 0 ≤ 12 then (if 12 ≤ (((⟨#[48, 49, 50, 51, 52, 53, 54, 55, 56, 57, 97, 98, 99, 100, 101, 102, 48, 49, 50, 51]⟩ : ByteArray).extract 0 ((ji21) : Int).toNat).size : Int) then (if t284.toList = (((⟨#[48, 49, 50, 51, 52, 53, 54, 55, 56, 57, 97, 98, 99, 100, 101, 102, 48, 49, 50, 51]⟩ : ByteArray).extract 0 ((ji21) : Int).toNat).extract 0 12).toList then (if a0 = true then ((ver_Cmp.f kj106 t259 t260 t261 t262 x257000_11 x257001_11 x257002_11 x257003_11).bind fun t290 => (if t290 > 0 then ((ver_Cmp.f kj106 t259 t260 t261 t262 x257000_11 x257001_11 (wrap64 (x257002_11 + 1)) (⟨#[]⟩ : ByteArray)).bind fun t291 => (some (decide (t291 < 0)))) else (some false))) else ((ver_Cmp.f kj106 t259 t260 t261 t262 x257000_11 x257001_11 (wrap64 (x257002_11 + 1)) (⟨#[]⟩ : ByteArray)).bind fun t292 => (some (decide (t292 < 0))))) else (some false)) else (none)) else (none)) else (some false)) else (some false)) = some r := by rw [if_neg (show ¬ (false = true) by decide)] at H; exact H
                            clear H
                            have H := H1
                            clear H1
                            by_cases c227 : t285 = true
                            · subst c227
                              have H1 : (if t283 = t257 then (if 0 ≤ 12 then (if 12 ≤ (((⟨#[48, 49, 50, 51, 52, 53, 54, 55, 56, 57, 97, 98, 99, 100, 101, 102, 48, 49, 50, 51]⟩ : ByteArray).extract 0 ((ji21) : Int).toNat).size : Int) then (if t284.toList = (((⟨#[48, 49, 50, 51, 52, 53, 54, 55, 56, 57, 97, 98, 99, 100, 101, 102, 48, 49, 50, 51]⟩ : ByteArray).extract 0 ((ji21) : Int).toNat).extract 0 12).toList then (if a0 = true then ((ver_Cmp.f kj106 t259 t260 t261 t262 x257000_11 x257001_11 x257002_11 x257003_11).bind fun t290 => (if t290 > 0 then ((ver_Cmp.f kj106 t259 t260 t261 t262 x257000_11 x257001_11 (wrap64 (x257002_11 + 1)) (⟨#[]⟩ : ByteArray)).bind fun t291 => (some (decide (t291 < 0)))) else (some false))) else ((ver_Cmp.f kj106 t259 t260 t261 t262 x257000_11 x257001_11 (wrap64 (x257002_11 + 1)) (⟨#[]⟩ : ByteArray)).bind fun t292 => (some (decide (t292 < 0))))) else (some false)) else (none)) else (none)) else (some false)) = some r := by rw [if_pos rfl] at H; exact H
                              clear H
                              have H := H1
                              clear H1
                              by_cases c228 : t283 = t257
                              · rw [if_pos c228] at H
                                have c228b0 : (t283 == t257) = true := beq_iff_eq.mpr c228
                                have c228b1 : (t283 != t257) = false := bne_eq_false_iff_eq.mpr c228
                                clear c228
                                by_cases c229 : 0 ≤ 12
                                · rw [if_pos c229] at H
                                  have c229b0 := eq_true c229
                                  have c229b1 : decide (0 ≤ 12) = true := decide_eq_true c229
                                  clear c229
                                  by_cases c230 : 12 ≤ (((⟨#[48, 49, 50, 51, 52, 53, 54, 55, 56, 57, 97, 98, 99, 100, 101, 102, 48, 49, 50, 51]⟩ : ByteArray).extract 0 ((ji21) : Int).toNat).size : Int)
                                  · rw [if_pos c230] at H
                                    have c230b0 := eq_true c230
                                    have c230b1 : decide (12 ≤ (((⟨#[48, 49, 50, 51, 52, 53, 54, 55, 56, 57, 97, 98, 99, 100, 101, 102, 48, 49, 50, 51]⟩ : ByteArray).extract 0 ((ji21) : Int).toNat).size : Int)) = true := decide_eq_true c230
                                    have c230b8 : ((12 : Int) ≤ ((min ji21.toNat 20 : Nat) : Int)) = True := eq_true (by have h_ := c230; rw [ByteArray.size_extract] at h_; simpa [ByteArray.size] using h_)
                                    have c230b9 : (((min ji21.toNat 20 : Nat) : Int) < 12) = False := eq_false (by have h_ := of_eq_true c230b8; omega)
                                    clear c230
                                    by_cases c231 : t284.toList = (((⟨#[48, 49, 50, 51, 52, 53, 54, 55, 56, 57, 97, 98, 99, 100, 101, 102, 48, 49, 50, 51]⟩ : ByteArray).extract 0 ((ji21) : Int).toNat).extract 0 12).toList
                                    · rw [if_pos c231] at H
                                      have c231b0 : (t284.toList == (((⟨#[48, 49, 50, 51, 52, 53, 54, 55, 56, 57, 97, 98, 99, 100, 101, 102, 48, 49, 50, 51]⟩ : ByteArray).extract 0 ((ji21) : Int).toNat).extract 0 12).toList) = true := beq_iff_eq.mpr c231
                                      have c231b1 : (t284.toList != (((⟨#[48, 49, 50, 51, 52, 53, 54, 55, 56, 57, 97, 98, 99, 100, 101, 102, 48, 49, 50, 51]⟩ : ByteArray).extract 0 ((ji21) : Int).toNat).extract 0 12).toList) = false := bne_eq_false_iff_eq.mpr c231
                                      clear c231
                                      by_cases c232 : a0 = true
                                      · subst c232
                                        have H1 : ((ver_Cmp.f kj106 t259 t260 t261 t262 x257000_11 x257001_11 x257002_11 x257003_11).bind fun t290 => (if t290 > 0 then ((ver_Cmp.f kj106 t259 t260 t261 t262 x257000_11 x257001_11 (wrap64 (x257002_11 + 1)) (⟨#[]⟩ : ByteArray)).bind fun t291 => (some (decide (t291 < 0)))) else (some false))) = some r := by rw [if_pos rfl] at H; exact H
                                        clear H
                                        have H := H1
                                        clear H1
                                        replace H := Option.bind_eq_some_iff.mp H
                                        obtain ⟨t290, A2330, H⟩ := H
                                        replace H : (if t290 > 0 then ((ver_Cmp.f kj106 t259 t260 t261 t262 x257000_11 x257001_11 (wrap64 (x257002_11 + 1)) (⟨#[]⟩ : ByteArray)).bind fun t291 => (some (decide (t291 < 0)))) else (some false)) = some r := H
                                        have A233 := Aside0.mk A2330
                                        clear A2330
                                        by_cases c234 : t290 > 0
                                        · rw [if_pos c234] at H
                                          have c234b0 : decide (0 < t290) = true := decide_eq_true c234
                                          clear c234
                                          replace H := Option.bind_eq_some_iff.mp H
                                          obtain ⟨t291, A2350, H⟩ := H
                                          replace H : (some (decide (t291 < 0))) = some r := H
                                          have A235 := Aside0.mk A2350
                                          clear A2350
                                          obtain rfl := Option.some.inj H
                                          have hnb236 := NB264_256.out
                                          have hnc236 := NB256_264.out
                                          have hnb237 := NB264_270.out
                                          have hnc237 := NB270_264.out
                                          have hnb238 := NB264_276.out
                                          have hnc238 := NB276_264.out
                                          have hnb239 := NB264_282.out
                                          have hnc239 := NB282_264.out
                                          have hnb240 := NB264_286.out
                                          have hnc240 := NB286_264.out
                                          have hcz241_0 : wc.cell? ⟨gb264, 0, none⟩ = some (.int .i64 t259) := (blk_cell BK264.out 0).trans rfl
                                          have hcz241_1 : wc.cell? ⟨gb264, 1, none⟩ = some (.int .i64 t260) := (blk_cell BK264.out 1).trans rfl
                                          have hcz241_2 : wc.cell? ⟨gb264, 2, none⟩ = some (.int .i64 t261) := (blk_cell BK264.out 2).trans rfl
                                          have hcz241_3 : wc.cell? ⟨gb264, 3, none⟩ = some (.string t262) := (blk_cell BK264.out 3).trans rfl
                                          have hfz241_0 := blk_frozen BK264.out 0
                                          have hfz241_1 := blk_frozen BK264.out 1
                                          have hfz241_2 := blk_frozen BK264.out 2
                                          have hfz241_3 := blk_frozen BK264.out 3
                                          have hnb242 := NB256_270.out
                                          have hnc242 := NB270_256.out
                                          have hnb243 := NB256_276.out
                                          have hnc243 := NB276_256.out
                                          have hnb244 := NB256_282.out
                                          have hnc244 := NB282_256.out
                                          have hnb245 := NB256_286.out
                                          have hnc245 := NB286_256.out
                                          have hcz246_0 : wc.cell? ⟨gb256, 0, none⟩ = some (.int .i64 x257000_11) := (blk_cell BK256.out 0).trans rfl
                                          have hcz246_1 : wc.cell? ⟨gb256, 1, none⟩ = some (.int .i64 x257001_11) := (blk_cell BK256.out 1).trans rfl
                                          have hcz246_2 : wc.cell? ⟨gb256, 2, none⟩ = some (.int .i64 x257002_11) := (blk_cell BK256.out 2).trans rfl
                                          have hcz246_3 : wc.cell? ⟨gb256, 3, none⟩ = some (.string x257003_11) := (blk_cell BK256.out 3).trans rfl
                                          have hfz246_0 := blk_frozen BK256.out 0
                                          have hfz246_1 := blk_frozen BK256.out 1
                                          have hfz246_2 := blk_frozen BK256.out 2
                                          have hfz246_3 := blk_frozen BK256.out 3
                                          go_wp2_with (first | (go_at_call 19; (with_reducible refine (ver_Cmp.calls kj106 t259 t260 t261 t262 x257000_11 x257001_11 x257002_11 x257003_11 t290 _ ?side1 A233.out).mono ?_); (case side1 => exact GL.below0 hG (by repeat (first | (with_reducible first | exact HB.out | apply below_alloc | apply pw_below_drewN | apply below_drew1 | refine below_set ?_ GE256.out | refine below_set ?_ GE264.out | refine below_set ?_ GE270.out | refine below_set ?_ GE276.out | refine below_set ?_ GE282.out | refine below_set ?_ GE286.out) | exact HB.out))); rintro e w247 ⟨rfl, hb⟩; have n0_ := Aside0.mk (blk_below (g := gb256) (o := .cells #[.int .i64 x257000_11, .int .i64 x257001_11, .int .i64 x257002_11, .string x257003_11] 25 (0, 0)) (by (with_reducible repeat (first | refine blk_drewN ?_ _ | refine blk_drew ?_ | refine blk_alloc ?_ _)); exact BK256.out) hb); have n1_ := Aside0.mk (blk_below (g := gb264) (o := .cells #[.int .i64 t259, .int .i64 t260, .int .i64 t261, .string t262] 25 (0, 0)) (by (with_reducible repeat (first | refine blk_drewN ?_ _ | refine blk_drew ?_ | refine blk_alloc ?_ _)); exact BK264.out) hb); have n2_ := Aside0.mk (blk_below (g := gb270) (o := .cells #[.int .i64 t265, .int .i64 t266, .int .i64 t267, .string t268] 25 (0, 0)) (by (with_reducible repeat (first | refine blk_drewN ?_ _ | refine blk_drew ?_ | refine blk_alloc ?_ _)); exact BK270.out) hb); have n3_ := Aside0.mk (blk_below (g := gb276) (o := .cells #[.int .i64 t271, .int .i64 t272, .int .i64 t273, .string t274] 25 (0, 0)) (by (with_reducible repeat (first | refine blk_drewN ?_ _ | refine blk_drew ?_ | refine blk_alloc ?_ _)); exact BK276.out) hb); have n4_ := Aside0.mk (blk_below (g := gb282) (o := .cells #[.int .i64 t277, .int .i64 t278, .int .i64 t279, .string t280] 25 (0, 0)) (by (with_reducible repeat (first | refine blk_drewN ?_ _ | refine blk_drew ?_ | refine blk_alloc ?_ _)); exact BK282.out) hb); have n5_ := Aside0.mk (blk_below (g := gb286) (o := .cells #[.int .i64 x257000_11, .int .i64 x257001_11, .int .i64 (wrap64 (x257002_11 + 1)), .string (⟨#[]⟩ : ByteArray)] 25 (0, 0)) (by (with_reducible repeat (first | refine blk_drewN ?_ _ | refine blk_drew ?_ | refine blk_alloc ?_ _)); exact BK286.out) hb); have n6_ := Aside0.mk (below_step (by repeat (first | (with_reducible first | exact HB.out | apply below_alloc | apply pw_below_drewN | apply below_drew1 | refine below_set ?_ GE256.out | refine below_set ?_ GE264.out | refine below_set ?_ GE270.out | refine below_set ?_ GE276.out | refine below_set ?_ GE282.out | refine below_set ?_ GE286.out) | exact HB.out)) hb); clear BK256; clear BK264; clear BK270; clear BK276; clear BK282; clear BK286; clear HB; have BK256 := n0_; have BK264 := n1_; have BK270 := n2_; have BK276 := n3_; have BK282 := n4_; have BK286 := n5_; have HB := n6_; clear n0_ n1_ n2_ n3_ n4_ n5_ n6_; (try clear hb); (try clear hb2); (try clear hk); (try clear hi); have hcz248_0 : w247.cell? ⟨gb264, 0, none⟩ = some (.int .i64 t259) := (blk_cell BK264.out 0).trans rfl; have hcz248_1 : w247.cell? ⟨gb264, 1, none⟩ = some (.int .i64 t260) := (blk_cell BK264.out 1).trans rfl; have hcz248_2 : w247.cell? ⟨gb264, 2, none⟩ = some (.int .i64 t261) := (blk_cell BK264.out 2).trans rfl; have hcz248_3 : w247.cell? ⟨gb264, 3, none⟩ = some (.string t262) := (blk_cell BK264.out 3).trans rfl; have hfz248_0 := blk_frozen BK264.out 0; have hfz248_1 := blk_frozen BK264.out 1; have hfz248_2 := blk_frozen BK264.out 2; have hfz248_3 := blk_frozen BK264.out 3; have hnb249 := NB286_270.out; have hnc249 := NB270_286.out; have hnb250 := NB286_276.out; have hnc250 := NB276_286.out; have hnb251 := NB286_282.out; have hnc251 := NB282_286.out; have hcz252_0 : w247.cell? ⟨gb286, 0, none⟩ = some (.int .i64 x257000_11) := (blk_cell BK286.out 0).trans rfl; have hcz252_1 : w247.cell? ⟨gb286, 1, none⟩ = some (.int .i64 x257001_11) := (blk_cell BK286.out 1).trans rfl; have hcz252_2 : w247.cell? ⟨gb286, 2, none⟩ = some (.int .i64 (wrap64 (x257002_11 + 1))) := (blk_cell BK286.out 2).trans rfl; have hcz252_3 : w247.cell? ⟨gb286, 3, none⟩ = some (.string (⟨#[]⟩ : ByteArray)) := (blk_cell BK286.out 3).trans rfl; have hfz252_0 := blk_frozen BK286.out 0; have hfz252_1 := blk_frozen BK286.out 1; have hfz252_2 := blk_frozen BK286.out 2; have hfz252_3 := blk_frozen BK286.out 3) | (go_at_call 19; (with_reducible refine (ver_Cmp.calls kj106 t259 t260 t261 t262 x257000_11 x257001_11 (wrap64 (x257002_11 + 1)) (⟨#[]⟩ : ByteArray) t291 _ ?side1 A235.out).mono ?_); (case side1 => exact GL.below0 hG (by repeat (first | (with_reducible first | exact HB.out | apply below_alloc | apply pw_below_drewN | apply below_drew1 | refine below_set ?_ GE256.out | refine below_set ?_ GE264.out | refine below_set ?_ GE270.out | refine below_set ?_ GE276.out | refine below_set ?_ GE282.out | refine below_set ?_ GE286.out) | exact HB.out))); rintro e w253 ⟨rfl, hb⟩; have n0_ := Aside0.mk (blk_below (g := gb256) (o := .cells #[.int .i64 x257000_11, .int .i64 x257001_11, .int .i64 x257002_11, .string x257003_11] 25 (0, 0)) (by (with_reducible repeat (first | refine blk_drewN ?_ _ | refine blk_drew ?_ | refine blk_alloc ?_ _)); exact BK256.out) hb); have n1_ := Aside0.mk (blk_below (g := gb264) (o := .cells #[.int .i64 t259, .int .i64 t260, .int .i64 t261, .string t262] 25 (0, 0)) (by (with_reducible repeat (first | refine blk_drewN ?_ _ | refine blk_drew ?_ | refine blk_alloc ?_ _)); exact BK264.out) hb); have n2_ := Aside0.mk (blk_below (g := gb270) (o := .cells #[.int .i64 t265, .int .i64 t266, .int .i64 t267, .string t268] 25 (0, 0)) (by (with_reducible repeat (first | refine blk_drewN ?_ _ | refine blk_drew ?_ | refine blk_alloc ?_ _)); exact BK270.out) hb); have n3_ := Aside0.mk (blk_below (g := gb276) (o := .cells #[.int .i64 t271, .int .i64 t272, .int .i64 t273, .string t274] 25 (0, 0)) (by (with_reducible repeat (first | refine blk_drewN ?_ _ | refine blk_drew ?_ | refine blk_alloc ?_ _)); exact BK276.out) hb); have n4_ := Aside0.mk (blk_below (g := gb282) (o := .cells #[.int .i64 t277, .int .i64 t278, .int .i64 t279, .string t280] 25 (0, 0)) (by (with_reducible repeat (first | refine blk_drewN ?_ _ | refine blk_drew ?_ | refine blk_alloc ?_ _)); exact BK282.out) hb); have n5_ := Aside0.mk (blk_below (g := gb286) (o := .cells #[.int .i64 x257000_11, .int .i64 x257001_11, .int .i64 (wrap64 (x257002_11 + 1)), .string (⟨#[]⟩ : ByteArray)] 25 (0, 0)) (by (with_reducible repeat (first | refine blk_drewN ?_ _ | refine blk_drew ?_ | refine blk_alloc ?_ _)); exact BK286.out) hb); have n6_ := Aside0.mk (below_step (by repeat (first | (with_reducible first | exact HB.out | apply below_alloc | apply pw_below_drewN | apply below_drew1 | refine below_set ?_ GE256.out | refine below_set ?_ GE264.out | refine below_set ?_ GE270.out | refine below_set ?_ GE276.out | refine below_set ?_ GE282.out | refine below_set ?_ GE286.out) | exact HB.out)) hb); clear BK256; clear BK264; clear BK270; clear BK276; clear BK282; clear BK286; clear HB; have BK256 := n0_; have BK264 := n1_; have BK270 := n2_; have BK276 := n3_; have BK282 := n4_; have BK286 := n5_; have HB := n6_; clear n0_ n1_ n2_ n3_ n4_ n5_ n6_; (try clear hb); (try clear hb2); (try clear hk); (try clear hi)))
                                          go_ret
                                          exact ⟨by first | rfl | (simp [errW_none, errW_some] <;> rfl) | (simp only [← hji21]; first | rfl | (simp [errW_none, errW_some] <;> rfl)) | (simp [*, errW_none, errW_some] <;> rfl), by repeat (first | (with_reducible first | exact HB.out | apply below_alloc | apply pw_below_drewN | apply below_drew1 | refine below_set ?_ GE256.out | refine below_set ?_ GE264.out | refine below_set ?_ GE270.out | refine below_set ?_ GE276.out | refine below_set ?_ GE282.out | refine below_set ?_ GE286.out) | exact HB.out)⟩
                                        · rw [if_neg c234] at H
                                          have c234b0 : decide (0 < t290) = false := decide_eq_false c234
                                          clear c234
                                          obtain rfl := Option.some.inj H
                                          have hnb254 := NB264_256.out
                                          have hnc254 := NB256_264.out
                                          have hnb255 := NB264_270.out
                                          have hnc255 := NB270_264.out
                                          have hnb256 := NB264_276.out
                                          have hnc256 := NB276_264.out
                                          have hnb257 := NB264_282.out
                                          have hnc257 := NB282_264.out
                                          have hnb258 := NB264_286.out
                                          have hnc258 := NB286_264.out
                                          have hcz259_0 : wc.cell? ⟨gb264, 0, none⟩ = some (.int .i64 t259) := (blk_cell BK264.out 0).trans rfl
                                          have hcz259_1 : wc.cell? ⟨gb264, 1, none⟩ = some (.int .i64 t260) := (blk_cell BK264.out 1).trans rfl
                                          have hcz259_2 : wc.cell? ⟨gb264, 2, none⟩ = some (.int .i64 t261) := (blk_cell BK264.out 2).trans rfl
                                          have hcz259_3 : wc.cell? ⟨gb264, 3, none⟩ = some (.string t262) := (blk_cell BK264.out 3).trans rfl
                                          have hfz259_0 := blk_frozen BK264.out 0
                                          have hfz259_1 := blk_frozen BK264.out 1
                                          have hfz259_2 := blk_frozen BK264.out 2
                                          have hfz259_3 := blk_frozen BK264.out 3
                                          have hnb260 := NB256_270.out
                                          have hnc260 := NB270_256.out
                                          have hnb261 := NB256_276.out
                                          have hnc261 := NB276_256.out
                                          have hnb262 := NB256_282.out
                                          have hnc262 := NB282_256.out
                                          have hnb263 := NB256_286.out
                                          have hnc263 := NB286_256.out
                                          have hcz264_0 : wc.cell? ⟨gb256, 0, none⟩ = some (.int .i64 x257000_11) := (blk_cell BK256.out 0).trans rfl
                                          have hcz264_1 : wc.cell? ⟨gb256, 1, none⟩ = some (.int .i64 x257001_11) := (blk_cell BK256.out 1).trans rfl
                                          have hcz264_2 : wc.cell? ⟨gb256, 2, none⟩ = some (.int .i64 x257002_11) := (blk_cell BK256.out 2).trans rfl
                                          have hcz264_3 : wc.cell? ⟨gb256, 3, none⟩ = some (.string x257003_11) := (blk_cell BK256.out 3).trans rfl
                                          have hfz264_0 := blk_frozen BK256.out 0
                                          have hfz264_1 := blk_frozen BK256.out 1
                                          have hfz264_2 := blk_frozen BK256.out 2
                                          have hfz264_3 := blk_frozen BK256.out 3
                                          go_wp2_with (first | (go_at_call 19; (with_reducible refine (ver_Cmp.calls kj106 t259 t260 t261 t262 x257000_11 x257001_11 x257002_11 x257003_11 t290 _ ?side1 A233.out).mono ?_); (case side1 => exact GL.below0 hG (by repeat (first | (with_reducible first | exact HB.out | apply below_alloc | apply pw_below_drewN | apply below_drew1 | refine below_set ?_ GE256.out | refine below_set ?_ GE264.out | refine below_set ?_ GE270.out | refine below_set ?_ GE276.out | refine below_set ?_ GE282.out | refine below_set ?_ GE286.out) | exact HB.out))); rintro e w265 ⟨rfl, hb⟩; have n0_ := Aside0.mk (blk_below (g := gb256) (o := .cells #[.int .i64 x257000_11, .int .i64 x257001_11, .int .i64 x257002_11, .string x257003_11] 25 (0, 0)) (by (with_reducible repeat (first | refine blk_drewN ?_ _ | refine blk_drew ?_ | refine blk_alloc ?_ _)); exact BK256.out) hb); have n1_ := Aside0.mk (blk_below (g := gb264) (o := .cells #[.int .i64 t259, .int .i64 t260, .int .i64 t261, .string t262] 25 (0, 0)) (by (with_reducible repeat (first | refine blk_drewN ?_ _ | refine blk_drew ?_ | refine blk_alloc ?_ _)); exact BK264.out) hb); have n2_ := Aside0.mk (blk_below (g := gb270) (o := .cells #[.int .i64 t265, .int .i64 t266, .int .i64 t267, .string t268] 25 (0, 0)) (by (with_reducible repeat (first | refine blk_drewN ?_ _ | refine blk_drew ?_ | refine blk_alloc ?_ _)); exact BK270.out) hb); have n3_ := Aside0.mk (blk_below (g := gb276) (o := .cells #[.int .i64 t271, .int .i64 t272, .int .i64 t273, .string t274] 25 (0, 0)) (by (with_reducible repeat (first | refine blk_drewN ?_ _ | refine blk_drew ?_ | refine blk_alloc ?_ _)); exact BK276.out) hb); have n4_ := Aside0.mk (blk_below (g := gb282) (o := .cells #[.int .i64 t277, .int .i64 t278, .int .i64 t279, .string t280] 25 (0, 0)) (by (with_reducible repeat (first | refine blk_drewN ?_ _ | refine blk_drew ?_ | refine blk_alloc ?_ _)); exact BK282.out) hb); have n5_ := Aside0.mk (blk_below (g := gb286) (o := .cells #[.int .i64 x257000_11, .int .i64 x257001_11, .int .i64 (wrap64 (x257002_11 + 1)), .string (⟨#[]⟩ : ByteArray)] 25 (0, 0)) (by (with_reducible repeat (first | refine blk_drewN ?_ _ | refine blk_drew ?_ | refine blk_alloc ?_ _)); exact BK286.out) hb); have n6_ := Aside0.mk (below_step (by repeat (first | (with_reducible first | exact HB.out | apply below_alloc | apply pw_below_drewN | apply below_drew1 | refine below_set ?_ GE256.out | refine below_set ?_ GE264.out | refine below_set ?_ GE270.out | refine below_set ?_ GE276.out | refine below_set ?_ GE282.out | refine below_set ?_ GE286.out) | exact HB.out)) hb); clear BK256; clear BK264; clear BK270; clear BK276; clear BK282; clear BK286; clear HB; have BK256 := n0_; have BK264 := n1_; have BK270 := n2_; have BK276 := n3_; have BK282 := n4_; have BK286 := n5_; have HB := n6_; clear n0_ n1_ n2_ n3_ n4_ n5_ n6_; (try clear hb); (try clear hb2); (try clear hk); (try clear hi)))
                                          go_ret
                                          exact ⟨by first | rfl | (simp [errW_none, errW_some] <;> rfl) | (simp only [← hji21]; first | rfl | (simp [errW_none, errW_some] <;> rfl)) | (simp [*, errW_none, errW_some] <;> rfl), by repeat (first | (with_reducible first | exact HB.out | apply below_alloc | apply pw_below_drewN | apply below_drew1 | refine below_set ?_ GE256.out | refine below_set ?_ GE264.out | refine below_set ?_ GE270.out | refine below_set ?_ GE276.out | refine below_set ?_ GE282.out | refine below_set ?_ GE286.out) | exact HB.out)⟩
                                      · replace c232 := Bool.eq_false_iff.mpr c232
                                        subst c232
                                        have H1 : ((ver_Cmp.f kj106 t259 t260 t261 t262 x257000_11 x257001_11 (wrap64 (x257002_11 + 1)) (⟨#[]⟩ : ByteArray)).bind fun t292 => (some (decide (t292 < 0)))) = some r := by rw [if_neg (show ¬ (false = true) by decide)] at H; exact H
                                        clear H
                                        have H := H1
                                        clear H1
                                        replace H := Option.bind_eq_some_iff.mp H
                                        obtain ⟨t292, A2660, H⟩ := H
                                        replace H : (some (decide (t292 < 0))) = some r := H
                                        have A266 := Aside0.mk A2660
                                        clear A2660
                                        obtain rfl := Option.some.inj H
                                        have hnb267 := NB264_256.out
                                        have hnc267 := NB256_264.out
                                        have hnb268 := NB264_270.out
                                        have hnc268 := NB270_264.out
                                        have hnb269 := NB264_276.out
                                        have hnc269 := NB276_264.out
                                        have hnb270 := NB264_282.out
                                        have hnc270 := NB282_264.out
                                        have hnb271 := NB264_286.out
                                        have hnc271 := NB286_264.out
                                        have hcz272_0 : wc.cell? ⟨gb264, 0, none⟩ = some (.int .i64 t259) := (blk_cell BK264.out 0).trans rfl
                                        have hcz272_1 : wc.cell? ⟨gb264, 1, none⟩ = some (.int .i64 t260) := (blk_cell BK264.out 1).trans rfl
                                        have hcz272_2 : wc.cell? ⟨gb264, 2, none⟩ = some (.int .i64 t261) := (blk_cell BK264.out 2).trans rfl
                                        have hcz272_3 : wc.cell? ⟨gb264, 3, none⟩ = some (.string t262) := (blk_cell BK264.out 3).trans rfl
                                        have hfz272_0 := blk_frozen BK264.out 0
                                        have hfz272_1 := blk_frozen BK264.out 1
                                        have hfz272_2 := blk_frozen BK264.out 2
                                        have hfz272_3 := blk_frozen BK264.out 3
                                        have hnb273 := NB286_256.out
                                        have hnc273 := NB256_286.out
                                        have hnb274 := NB286_270.out
                                        have hnc274 := NB270_286.out
                                        have hnb275 := NB286_276.out
                                        have hnc275 := NB276_286.out
                                        have hnb276 := NB286_282.out
                                        have hnc276 := NB282_286.out
                                        have hcz277_0 : wc.cell? ⟨gb286, 0, none⟩ = some (.int .i64 x257000_11) := (blk_cell BK286.out 0).trans rfl
                                        have hcz277_1 : wc.cell? ⟨gb286, 1, none⟩ = some (.int .i64 x257001_11) := (blk_cell BK286.out 1).trans rfl
                                        have hcz277_2 : wc.cell? ⟨gb286, 2, none⟩ = some (.int .i64 (wrap64 (x257002_11 + 1))) := (blk_cell BK286.out 2).trans rfl
                                        have hcz277_3 : wc.cell? ⟨gb286, 3, none⟩ = some (.string (⟨#[]⟩ : ByteArray)) := (blk_cell BK286.out 3).trans rfl
                                        have hfz277_0 := blk_frozen BK286.out 0
                                        have hfz277_1 := blk_frozen BK286.out 1
                                        have hfz277_2 := blk_frozen BK286.out 2
                                        have hfz277_3 := blk_frozen BK286.out 3
                                        go_wp2_with (first | (go_at_call 19; (with_reducible refine (ver_Cmp.calls kj106 t259 t260 t261 t262 x257000_11 x257001_11 (wrap64 (x257002_11 + 1)) (⟨#[]⟩ : ByteArray) t292 _ ?side1 A266.out).mono ?_); (case side1 => exact GL.below0 hG (by repeat (first | (with_reducible first | exact HB.out | apply below_alloc | apply pw_below_drewN | apply below_drew1 | refine below_set ?_ GE256.out | refine below_set ?_ GE264.out | refine below_set ?_ GE270.out | refine below_set ?_ GE276.out | refine below_set ?_ GE282.out | refine below_set ?_ GE286.out) | exact HB.out))); rintro e w278 ⟨rfl, hb⟩; have n0_ := Aside0.mk (blk_below (g := gb256) (o := .cells #[.int .i64 x257000_11, .int .i64 x257001_11, .int .i64 x257002_11, .string x257003_11] 25 (0, 0)) (by (with_reducible repeat (first | refine blk_drewN ?_ _ | refine blk_drew ?_ | refine blk_alloc ?_ _)); exact BK256.out) hb); have n1_ := Aside0.mk (blk_below (g := gb264) (o := .cells #[.int .i64 t259, .int .i64 t260, .int .i64 t261, .string t262] 25 (0, 0)) (by (with_reducible repeat (first | refine blk_drewN ?_ _ | refine blk_drew ?_ | refine blk_alloc ?_ _)); exact BK264.out) hb); have n2_ := Aside0.mk (blk_below (g := gb270) (o := .cells #[.int .i64 t265, .int .i64 t266, .int .i64 t267, .string t268] 25 (0, 0)) (by (with_reducible repeat (first | refine blk_drewN ?_ _ | refine blk_drew ?_ | refine blk_alloc ?_ _)); exact BK270.out) hb); have n3_ := Aside0.mk (blk_below (g := gb276) (o := .cells #[.int .i64 t271, .int .i64 t272, .int .i64 t273, .string t274] 25 (0, 0)) (by (with_reducible repeat (first | refine blk_drewN ?_ _ | refine blk_drew ?_ | refine blk_alloc ?_ _)); exact BK276.out) hb); have n4_ := Aside0.mk (blk_below (g := gb282) (o := .cells #[.int .i64 t277, .int .i64 t278, .int .i64 t279, .string t280] 25 (0, 0)) (by (with_reducible repeat (first | refine blk_drewN ?_ _ | refine blk_drew ?_ | refine blk_alloc ?_ _)); exact BK282.out) hb); have n5_ := Aside0.mk (blk_below (g := gb286) (o := .cells #[.int .i64 x257000_11, .int .i64 x257001_11, .int .i64 (wrap64 (x257002_11 + 1)), .string (⟨#[]⟩ : ByteArray)] 25 (0, 0)) (by (with_reducible repeat (first | refine blk_drewN ?_ _ | refine blk_drew ?_ | refine blk_alloc ?_ _)); exact BK286.out) hb); have n6_ := Aside0.mk (below_step (by repeat (first | (with_reducible first | exact HB.out | apply below_alloc | apply pw_below_drewN | apply below_drew1 | refine below_set ?_ GE256.out | refine below_set ?_ GE264.out | refine below_set ?_ GE270.out | refine below_set ?_ GE276.out | refine below_set ?_ GE282.out | refine below_set ?_ GE286.out) | exact HB.out)) hb); clear BK256; clear BK264; clear BK270; clear BK276; clear BK282; clear BK286; clear HB; have BK256 := n0_; have BK264 := n1_; have BK270 := n2_; have BK276 := n3_; have BK282 := n4_; have BK286 := n5_; have HB := n6_; clear n0_ n1_ n2_ n3_ n4_ n5_ n6_; (try clear hb); (try clear hb2); (try clear hk); (try clear hi)))
                                        go_ret
                                        exact ⟨by first | rfl | (simp [errW_none, errW_some] <;> rfl) | (simp only [← hji21]; first | rfl | (simp [errW_none, errW_some] <;> rfl)) | (simp [*, errW_none, errW_some] <;> rfl), by repeat (first | (with_reducible first | exact HB.out | apply below_alloc | apply pw_below_drewN | apply below_drew1 | refine below_set ?_ GE256.out | refine below_set ?_ GE264.out | refine below_set ?_ GE270.out | refine below_set ?_ GE276.out | refine below_set ?_ GE282.out | refine below_set ?_ GE286.out) | exact HB.out)⟩
                                    · rw [if_neg c231] at H
                                      have c231b0 : (t284.toList == (((⟨#[48, 49, 50, 51, 52, 53, 54, 55, 56, 57, 97, 98, 99, 100, 101, 102, 48, 49, 50, 51]⟩ : ByteArray).extract 0 ((ji21) : Int).toNat).extract 0 12).toList) = false := beq_eq_false_iff_ne.mpr c231
                                      have c231b1 : (t284.toList != (((⟨#[48, 49, 50, 51, 52, 53, 54, 55, 56, 57, 97, 98, 99, 100, 101, 102, 48, 49, 50, 51]⟩ : ByteArray).extract 0 ((ji21) : Int).toNat).extract 0 12).toList) = true := bne_iff_ne.mpr c231
                                      obtain rfl := Option.some.inj H
                                      go_wp2
                                      go_ret
                                      exact ⟨by first | rfl | (simp [errW_none, errW_some] <;> rfl) | (simp only [← hji21]; first | rfl | (simp [errW_none, errW_some] <;> rfl)) | (simp [*, errW_none, errW_some] <;> rfl), by repeat (first | (with_reducible first | exact HB.out | apply below_alloc | apply pw_below_drewN | apply below_drew1 | refine below_set ?_ GE256.out | refine below_set ?_ GE264.out | refine below_set ?_ GE270.out | refine below_set ?_ GE276.out | refine below_set ?_ GE282.out | refine below_set ?_ GE286.out) | exact HB.out)⟩
                                  · rw [if_neg c230] at H
                                    exact absurd H (by simp)
                                · rw [if_neg c229] at H
                                  exact absurd H (by simp)
                              · rw [if_neg c228] at H
                                have c228b0 : (t283 == t257) = false := beq_eq_false_iff_ne.mpr c228
                                have c228b1 : (t283 != t257) = true := bne_iff_ne.mpr c228
                                obtain rfl := Option.some.inj H
                                go_wp2
                                go_ret
                                exact ⟨by first | rfl | (simp [errW_none, errW_some] <;> rfl) | (simp only [← hji21]; first | rfl | (simp [errW_none, errW_some] <;> rfl)) | (simp [*, errW_none, errW_some] <;> rfl), by repeat (first | (with_reducible first | exact HB.out | apply below_alloc | apply pw_below_drewN | apply below_drew1 | refine below_set ?_ GE256.out | refine below_set ?_ GE264.out | refine below_set ?_ GE270.out | refine below_set ?_ GE276.out | refine below_set ?_ GE282.out | refine below_set ?_ GE286.out) | exact HB.out)⟩
                            · replace c227 := Bool.eq_false_iff.mpr c227
                              subst c227
                              have H1 : (some false) = some r := by rw [if_neg (show ¬ (false = true) by decide)] at H; exact H
                              clear H
                              have H := H1
                              clear H1
                              obtain rfl := Option.some.inj H
                              go_wp2
                              go_ret
                              exact ⟨by first | rfl | (simp [errW_none, errW_some] <;> rfl) | (simp only [← hji21]; first | rfl | (simp [errW_none, errW_some] <;> rfl)) | (simp [*, errW_none, errW_some] <;> rfl), by repeat (first | (with_reducible first | exact HB.out | apply below_alloc | apply pw_below_drewN | apply below_drew1 | refine below_set ?_ GE256.out | refine below_set ?_ GE264.out | refine below_set ?_ GE270.out | refine below_set ?_ GE276.out | refine below_set ?_ GE282.out | refine below_set ?_ GE286.out) | exact HB.out)⟩
                    · replace c105 := Bool.eq_false_iff.mpr c105
                      subst c105
                      have H1 : (some (t259 == 0 && (t260 == 0 && (t261 == 0 && (t262.toList == ([] : List UInt8)))))) = some r := by rw [if_neg (show ¬ (false = true) by decide)] at H; exact H
                      clear H
                      have H := H1
                      clear H1
                      obtain rfl := Option.some.inj H
                      have hnb279 := NB264_256.out
                      have hnc279 := NB256_264.out
                      have hnb280 := NB264_270.out
                      have hnc280 := NB270_264.out
                      have hnb281 := NB264_276.out
                      have hnc281 := NB276_264.out
                      have hnb282 := NB264_282.out
                      have hnc282 := NB282_264.out
                      have hcz283_0 : wc.cell? ⟨gb264, 0, none⟩ = some (.int .i64 t259) := (blk_cell BK264.out 0).trans rfl
                      have hcz283_1 : wc.cell? ⟨gb264, 1, none⟩ = some (.int .i64 t260) := (blk_cell BK264.out 1).trans rfl
                      have hcz283_2 : wc.cell? ⟨gb264, 2, none⟩ = some (.int .i64 t261) := (blk_cell BK264.out 2).trans rfl
                      have hcz283_3 : wc.cell? ⟨gb264, 3, none⟩ = some (.string t262) := (blk_cell BK264.out 3).trans rfl
                      have hfz283_0 := blk_frozen BK264.out 0
                      have hfz283_1 := blk_frozen BK264.out 1
                      have hfz283_2 := blk_frozen BK264.out 2
                      have hfz283_3 := blk_frozen BK264.out 3
                      go_wp2
                      go_ret
                      exact ⟨by first | rfl | (simp [errW_none, errW_some] <;> rfl) | (simp only [← hji21]; first | rfl | (simp [errW_none, errW_some] <;> rfl)) | (simp [*, errW_none, errW_some] <;> rfl), by repeat (first | (with_reducible first | exact HB.out | apply below_alloc | apply pw_below_drewN | apply below_drew1 | refine below_set ?_ GE256.out | refine below_set ?_ GE264.out | refine below_set ?_ GE270.out | refine below_set ?_ GE276.out | refine below_set ?_ GE282.out) | exact HB.out)⟩
            · rw [if_neg c23] at H
              exact absurd H (by simp)
          · rw [if_neg c22] at H
            exact absurd H (by simp)
  · replace c8 := Bool.eq_false_iff.mpr c8
    subst c8
    have H1 : (some false) = some r := by rw [if_neg (show ¬ (false = true) by decide)] at H; exact H
    clear H
    have H := H1
    clear H1
    obtain rfl := Option.some.inj H
    go_enter Tryz.func7, Tryz.ntmps7
    go_wp2_with (first | ((with_reducible refine gate_callee (f := 10) rfl ?_); refine goesL_ (some 28) rfl rfl Tryz.func10 (by kernel_rfl) rfl #[] rfl (by (try simp only [List.map_toArray, List.map_cons, List.map_nil]); first | done | rfl | (simp only [List.length_drop, List.length_take]; rfl)) ?_; (with_reducible refine (transhumancelaw2_known.calls  false _ ?side1 A7.out).mono ?_); (case side1 => exact GL.below0 hG (by repeat (first | (with_reducible first | exact HB.out | apply below_alloc | apply pw_below_drewN | apply below_drew1) | exact HB.out))); rintro e w284 ⟨rfl, hb⟩; refine ⟨_, rfl, ?_⟩; have n0_ := Aside0.mk (below_step (by repeat (first | (with_reducible first | exact HB.out | apply below_alloc | apply pw_below_drewN | apply below_drew1) | exact HB.out)) hb); clear HB; have HB := n0_; clear n0_; (try clear hb); (try clear hb2); (try clear hk); (try clear hi)))
    go_ret
    exact ⟨by first | rfl | (simp [errW_none, errW_some] <;> rfl) | (simp [*, errW_none, errW_some] <;> rfl), by repeat (first | (with_reducible first | exact HB.out | apply below_alloc | apply pw_below_drewN | apply below_drew1) | exact HB.out)⟩
def transhumancelaw2_VerPseudos.Pure : Prop := ∀ (a0 : Bool) (a1 : Int) (a2 : Int) (a3 : Int) (a4 : ByteArray) (a5 : Int), (Lit.int .i64 a1).wf = true → (Lit.int .i64 a2).wf = true → (Lit.int .i64 a3).wf = true → a4.size ≤ 140737488351232 → (Lit.int .i64 a5).wf = true → ∃ k, transhumancelaw2_VerPseudos.f k a0 a1 a2 a3 a4 a5 = some true
theorem transhumancelaw2_VerPseudos.walk (P : transhumancelaw2_VerPseudos.Pure) (a0 : Bool) (a1 : Int) (a2 : Int) (a3 : Int) (a4 : ByteArray) (a5 : Int) (w : World) (w1 : (Lit.int .i64 a1).wf = true) (w2 : (Lit.int .i64 a2).wf = true) (w3 : (Lit.int .i64 a3).wf = true) (w4 : a4.size ≤ 140737488351232) (w5 : (Lit.int .i64 a5).wf = true) (hG : GL w) :
    Calls Tryz.prog 7 #[.bool a0, .int .i64 a1, .int .i64 a2, .int .i64 a3, .string a4, .int .i64 a5] w fun e w' => e = .returned (.bool true) ∧ Below w.heap.size w w' := by
  obtain ⟨k, h⟩ := P a0 a1 a2 a3 a4 a5 w1 w2 w3 w4 w5
  refine (transhumancelaw2_VerPseudos.calls k a0 a1 a2 a3 a4 a5 true w hG h).mono ?_
  rintro e w' ⟨rfl, hd⟩
  exact ⟨rfl, hd⟩
end Go.Proofs.YtbdojilhmgfdcaaGreatDoor.Q
