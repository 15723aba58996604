import Derived.Test.YtbdojilhmgfdcaaGreatDoorZQ0
import Derived.Test.YtbdojilhmgfdcaaGreatDoorZQ1
import Derived.Test.YtbdojilhmgfdcaaGreatDoorZQ3
import Derived.Test.YtbdojilhmgfdcaaGreatDoorZQ12
import Derived.Test.YtbdojilhmgfdcaaGreatDoorZQ13
import Derived.Test.YtbdojilhmgfdcaaGreatDoorZQ17
import Derived.Test.YtbdojilhmgfdcaaGreatDoorZVk
namespace Go.Proofs.YtbdojilhmgfdcaaGreatDoor.Q
open Go.RowKit Go.Proofs.YtbdojilhmgfdcaaGreatDoorW.PrintWords Go.Proofs.YtbdojilhmgfdcaaGreatDoorW.PrintLast Go.Proofs.YtbdojilhmgfdcaaGreatDoorW.PrintMore
attribute [local go_sem] max2_int min2_int max_two min_two max_three min_three max_four min_four
set_option linter.unusedVariables false
set_option linter.unusedSimpArgs false
attribute [local go_sem high] eqA25
def transhumancelaw2_VerOrder.j0 : Nat → Int → Int → Int → ByteArray → Int → Int → Int → ByteArray → Int → Int → Int → ByteArray → Option (Bool)
 | 0,_,_,_,_,_,_,_,_,_,_,_,_ => none
 | k + 1,x211000,x211001,x211002,x211003,x212000,x212001,x212002,x212003,x213000,x213001,x213002,x213003 => (ver_Cmp.f k x211000 x211001 x211002 x211003 x212000 x212001 x212002 x212003).bind fun t214 => ((ver_Cmp.f k x212000 x212001 x212002 x212003 x213000 x213001 x213002 x213003).bind fun t215 => ((ver_Cmp.f k x211000 x211001 x211002 x211003 x213000 x213001 x213002 x213003).bind fun t216 => ((transhumanceref2_Cmp.f k x211000 x211001 x211002 x211003 x212000 x212001 x212002 x212003).bind fun t217 => (if t214 = t217 then ((transhumanceref2_Cmp.f k x212000 x212001 x212002 x212003 x213000 x213001 x213002 x213003).bind fun t218 => (if t215 = t218 then ((transhumanceref2_Cmp.f k x211000 x211001 x211002 x211003 x213000 x213001 x213002 x213003).bind fun t219 => (if t216 = t219 then ((ver_Cmp.f k x212000 x212001 x212002 x212003 x211000 x211001 x211002 x211003).bind fun t220 => (if t220 = (wrap64 (-t214)) then (if ((t214 == 0) != (x211000 == x212000 && (x211001 == x212001 && (x211002 == x212002 && (x211003.toList == x212003.toList))))) = true then (some false) else (if t214 ≤ 0 then (if t215 ≤ 0 then (some (decide (t216 ≤ 0))) else (some true)) else (some true))) else (some false))) else (some false))) else (some false))) else (some false)))))
def transhumancelaw2_VerOrder.f (k : Nat) (a0 : Int) (a1 : Int) (a2 : Int) (a3 : Int) (a4 : Int) (a5 : Int) : Option (Bool) := (transhumancelaw2_known.f).bind fun t197 => (if t197 = true then ((transhumancelaw2_Make.f k a0 a1).bind fun bt198 => ((transhumancelaw2_Make.f k a2 a3).bind fun bt202 => ((transhumancelaw2_Make.f k a4 a5).bind fun bt206 => ((transhumancelaw2_within.f a4 3).bind fun t213 => (if t213 = 0 then (transhumancelaw2_VerOrder.j0 k bt198.1 bt198.2.1 bt198.2.2.1 bt198.2.2.2 bt198.1 bt198.2.1 bt198.2.2.1 bt202.2.2.2 bt198.1 bt198.2.1 bt198.2.2.1 bt206.2.2.2) else (transhumancelaw2_VerOrder.j0 k bt198.1 bt198.2.1 bt198.2.2.1 bt198.2.2.2 bt202.1 bt202.2.1 bt202.2.2.1 bt202.2.2.2 bt206.1 bt206.2.1 bt206.2.2.1 bt206.2.2.2)))))) else (some false))
def transhumancelaw2_VerOrder.T5 : Bool × List (List Nat × List Nat) := (true,[([],[]),([0],[0]),([],[]),([2],[2]),([],[]),([4],[4]),([0,1],[]),([6,1,0,1],[1,6]),([0,1,2,3,6,7],[]),([8,3,7,0,1,2,3,6,7],[3,8]),([0,1,2,3,4,5,6,7,8,9],[]),([10,5,9,0,1,2,3,4,5,6,7,8,9],[5,10])])
def transhumancelaw2_VerOrder.B5 : List Nat := [0,1,0,4,0,16,3,67,207,463,1023,2047]
theorem transhumancelaw2_VerOrder.tab5 : rtab .any (opsOf Tryz.f5 5) = transhumancelaw2_VerOrder.T5 := by kernel_rfl
theorem transhumancelaw2_VerOrder.bits5 : waitsOk transhumancelaw2_VerOrder.T5.2 transhumancelaw2_VerOrder.B5 = true := by kernel_rfl
def transhumancelaw2_VerOrder.T6 : Bool × List (List Nat × List Nat) := (true,[([],[]),([0],[0]),([],[]),([2],[2]),([],[]),([4],[4]),([0,1],[]),([6,1,0,1],[1,6]),([0,1,2,3,6,7],[]),([8,3,7,0,1,2,3,6,7],[3,8]),([0,1,2,3,4,5,6,7,8,9],[]),([10,5,9,0,1,2,3,4,5,6,7,8,9],[5,10])])
def transhumancelaw2_VerOrder.B6 : List Nat := [0,1,0,4,0,16,3,67,207,463,1023,2047]
theorem transhumancelaw2_VerOrder.tab6 : rtab .any (opsOf Tryz.f5 6) = transhumancelaw2_VerOrder.T6 := by kernel_rfl
theorem transhumancelaw2_VerOrder.bits6 : waitsOk transhumancelaw2_VerOrder.T6.2 transhumancelaw2_VerOrder.B6 = true := by kernel_rfl
def transhumancelaw2_VerOrder.T7 : Bool × List (List Nat × List Nat) := (true,[([],[]),([],[]),([0,1],[0,1]),([],[]),([],[]),([3,4,2],[3,4]),([],[]),([],[]),([6,7,5],[6,7]),([2,8,0,1,2],[2]),([5,9,0,1,2,3,4,5,9],[5]),([8,10,0,1,2,3,4,5,6,7,8,9,10],[8])])
def transhumancelaw2_VerOrder.B7 : List Nat := [0,0,3,0,0,31,0,0,255,511,1023,2047]
theorem transhumancelaw2_VerOrder.tab7 : rtab .any (opsOf Tryz.f5 7) = transhumancelaw2_VerOrder.T7 := by kernel_rfl
theorem transhumancelaw2_VerOrder.bits7 : waitsOk transhumancelaw2_VerOrder.T7.2 transhumancelaw2_VerOrder.B7 = true := by kernel_rfl
set_option maxHeartbeats 8000000 in
set_option maxRecDepth 100000 in
theorem transhumancelaw2_VerOrder.calls (k : Nat) (a0 : Int) (a1 : Int) (a2 : Int) (a3 : Int) (a4 : Int) (a5 : Int) (r : Bool) (w : World) (hG : GL w) (h : transhumancelaw2_VerOrder.f k a0 a1 a2 a3 a4 a5 = some r) :
  Calls Tryz.prog 5 #[.int .i64 a0,.int .i64 a1,.int .i64 a2,.int .i64 a3,.int .i64 a4,.int .i64 a5] w fun e w' => e = .returned (.bool r) ∧ Below w.heap.size w w' := by
 have hu25 := Tryz.underlying25
 have HB := Aside0.mk (Below.refl w.heap.size w)
 have H : ((transhumancelaw2_known.f).bind fun t197 => (if t197 = true then ((transhumancelaw2_Make.f k a0 a1).bind fun bt198 => ((transhumancelaw2_Make.f k a2 a3).bind fun bt202 => ((transhumancelaw2_Make.f k a4 a5).bind fun bt206 => ((transhumancelaw2_within.f a4 3).bind fun t213 => (if t213 = 0 then (transhumancelaw2_VerOrder.j0 k bt198.1 bt198.2.1 bt198.2.2.1 bt198.2.2.2 bt198.1 bt198.2.1 bt198.2.2.1 bt202.2.2.2 bt198.1 bt198.2.1 bt198.2.2.1 bt206.2.2.2) else (transhumancelaw2_VerOrder.j0 k bt198.1 bt198.2.1 bt198.2.2.1 bt198.2.2.2 bt202.1 bt202.2.1 bt202.2.2.1 bt202.2.2.2 bt206.1 bt206.2.1 bt206.2.2.1 bt206.2.2.2)))))) else (some false))) = some r := h
 clear h
 replace H := Option.bind_eq_some_iff.mp H
 obtain ⟨t197,A70,H⟩ := H
 replace H : (if t197 = true then ((transhumancelaw2_Make.f k a0 a1).bind fun bt198 => ((transhumancelaw2_Make.f k a2 a3).bind fun bt202 => ((transhumancelaw2_Make.f k a4 a5).bind fun bt206 => ((transhumancelaw2_within.f a4 3).bind fun t213 => (if t213 = 0 then (transhumancelaw2_VerOrder.j0 k bt198.1 bt198.2.1 bt198.2.2.1 bt198.2.2.2 bt198.1 bt198.2.1 bt198.2.2.1 bt202.2.2.2 bt198.1 bt198.2.1 bt198.2.2.1 bt206.2.2.2) else (transhumancelaw2_VerOrder.j0 k bt198.1 bt198.2.1 bt198.2.2.1 bt198.2.2.2 bt202.1 bt202.2.1 bt202.2.2.1 bt202.2.2.2 bt206.1 bt206.2.1 bt206.2.2.1 bt206.2.2.2)))))) else (some false)) = some r := H
 have A7 := Aside0.mk A70
 clear A70
 by_cases c8 : t197 = true
 ·subst c8
  have H1 : ((transhumancelaw2_Make.f k a0 a1).bind fun bt198 => ((transhumancelaw2_Make.f k a2 a3).bind fun bt202 => ((transhumancelaw2_Make.f k a4 a5).bind fun bt206 => ((transhumancelaw2_within.f a4 3).bind fun t213 => (if t213 = 0 then (transhumancelaw2_VerOrder.j0 k bt198.1 bt198.2.1 bt198.2.2.1 bt198.2.2.2 bt198.1 bt198.2.1 bt198.2.2.1 bt202.2.2.2 bt198.1 bt198.2.1 bt198.2.2.1 bt206.2.2.2) else (transhumancelaw2_VerOrder.j0 k bt198.1 bt198.2.1 bt198.2.2.1 bt198.2.2.2 bt202.1 bt202.2.1 bt202.2.2.1 bt202.2.2.2 bt206.1 bt206.2.1 bt206.2.2.1 bt206.2.2.2)))))) = some r := by rw [if_pos rfl] at H; exact H
  clear H
  have H := H1
  clear H1
  replace H := Option.bind_eq_some_iff.mp H
  obtain ⟨⟨t198,t199,t200,t201⟩,A90,H⟩ := H
  replace H : ((transhumancelaw2_Make.f k a2 a3).bind fun bt202 => ((transhumancelaw2_Make.f k a4 a5).bind fun bt206 => ((transhumancelaw2_within.f a4 3).bind fun t213 => (if t213 = 0 then (transhumancelaw2_VerOrder.j0 k t198 t199 t200 t201 t198 t199 t200 bt202.2.2.2 t198 t199 t200 bt206.2.2.2) else (transhumancelaw2_VerOrder.j0 k t198 t199 t200 t201 bt202.1 bt202.2.1 bt202.2.2.1 bt202.2.2.2 bt206.1 bt206.2.1 bt206.2.2.1 bt206.2.2.2))))) = some r := H
  have A9 := Aside0.mk A90
  clear A90
  replace H := Option.bind_eq_some_iff.mp H
  obtain ⟨⟨t202,t203,t204,t205⟩,A100,H⟩ := H
  replace H : ((transhumancelaw2_Make.f k a4 a5).bind fun bt206 => ((transhumancelaw2_within.f a4 3).bind fun t213 => (if t213 = 0 then (transhumancelaw2_VerOrder.j0 k t198 t199 t200 t201 t198 t199 t200 t205 t198 t199 t200 bt206.2.2.2) else (transhumancelaw2_VerOrder.j0 k t198 t199 t200 t201 t202 t203 t204 t205 bt206.1 bt206.2.1 bt206.2.2.1 bt206.2.2.2)))) = some r := H
  have A10 := Aside0.mk A100
  clear A100
  replace H := Option.bind_eq_some_iff.mp H
  obtain ⟨⟨t206,t207,t208,t209⟩,A110,H⟩ := H
  replace H : ((transhumancelaw2_within.f a4 3).bind fun t213 => (if t213 = 0 then (transhumancelaw2_VerOrder.j0 k t198 t199 t200 t201 t198 t199 t200 t205 t198 t199 t200 t209) else (transhumancelaw2_VerOrder.j0 k t198 t199 t200 t201 t202 t203 t204 t205 t206 t207 t208 t209))) = some r := H
  have A11 := Aside0.mk A110
  clear A110
  replace H := Option.bind_eq_some_iff.mp H
  obtain ⟨t213,A120,H⟩ := H
  replace H : (if t213 = 0 then (transhumancelaw2_VerOrder.j0 k t198 t199 t200 t201 t198 t199 t200 t205 t198 t199 t200 t209) else (transhumancelaw2_VerOrder.j0 k t198 t199 t200 t201 t202 t203 t204 t205 t206 t207 t208 t209)) = some r := H
  have A12 := Aside0.mk A120
  clear A120
  have HC13 := Aside0.mk H
  clear H
  go_enter Tryz.func5,Tryz.ntmps5
  go_upto_if 32 with (first | ((with_reducible refine gate_callee (f := 10) rfl ?_); refine goesL_ (some 19) rfl rfl Tryz.func10 (by kernel_rfl) rfl #[] rfl (by (try simp only [List.map_toArray,List.map_cons,List.map_nil]); first | done | rfl | (simp only [List.length_drop,List.length_take]; rfl)) ?_; (with_reducible refine (transhumancelaw2_known.calls  true _ ?side1 A7.out).mono ?_); (case side1 => exact GL.below0 hG (by repeat (first | (with_reducible first | exact HB.out | apply below_alloc | apply pw_below_drewN | apply below_drew1) | exact HB.out))); rintro e w14 ⟨rfl,hb⟩; refine ⟨_,rfl,?_⟩; have n0_ := Aside0.mk (below_step (by repeat (first | (with_reducible first | exact HB.out | apply below_alloc | apply pw_below_drewN | apply below_drew1) | exact HB.out)) hb); clear HB; have HB := n0_; clear n0_; (try clear hb); (try clear hb2); (try clear hk); (try clear hi)) | ((with_reducible refine gate_callee (f := 12) rfl ?_); refine goesL_ (some 23) rfl rfl Tryz.func12 (by kernel_rfl) rfl #[.int .i64 a0,.int .i64 a1] rfl (by (try simp only [List.map_toArray,List.map_cons,List.map_nil]); first | done | rfl | (simp only [List.length_drop,List.length_take]; rfl)) ?_; (with_reducible refine (transhumancelaw2_Make.calls k a0 a1 t198 t199 t200 t201 _ A9.out).mono ?_); rintro e w15 ⟨rfl,hb⟩; refine ⟨_,rfl,?_⟩; have n0_ := Aside0.mk (below_step (by repeat (first | (with_reducible first | exact HB.out | apply below_alloc | apply pw_below_drewN | apply below_drew1) | exact HB.out)) hb); clear HB; have HB := n0_; clear n0_; (try clear hb); (try clear hb2); (try clear hk); (try clear hi)) | ((with_reducible refine gate_callee (f := 12) rfl ?_); refine goesL_ (some 26) rfl rfl Tryz.func12 (by kernel_rfl) rfl #[.int .i64 a2,.int .i64 a3] rfl (by (try simp only [List.map_toArray,List.map_cons,List.map_nil]); first | done | rfl | (simp only [List.length_drop,List.length_take]; rfl)) ?_; (with_reducible refine (transhumancelaw2_Make.calls k a2 a3 t202 t203 t204 t205 _ A10.out).mono ?_); rintro e w16 ⟨rfl,hb⟩; refine ⟨_,rfl,?_⟩; have n0_ := Aside0.mk (below_step (by repeat (first | (with_reducible first | exact HB.out | apply below_alloc | apply pw_below_drewN | apply below_drew1) | exact HB.out)) hb); clear HB; have HB := n0_; clear n0_; (try clear hb); (try clear hb2); (try clear hk); (try clear hi)) | ((with_reducible refine gate_callee (f := 12) rfl ?_); refine goesL_ (some 29) rfl rfl Tryz.func12 (by kernel_rfl) rfl #[.int .i64 a4,.int .i64 a5] rfl (by (try simp only [List.map_toArray,List.map_cons,List.map_nil]); first | done | rfl | (simp only [List.length_drop,List.length_take]; rfl)) ?_; (with_reducible refine (transhumancelaw2_Make.calls k a4 a5 t206 t207 t208 t209 _ A11.out).mono ?_); rintro e w17 ⟨rfl,hb⟩; refine ⟨_,rfl,?_⟩; have n0_ := Aside0.mk (below_step (by repeat (first | (with_reducible first | exact HB.out | apply below_alloc | apply pw_below_drewN | apply below_drew1) | exact HB.out)) hb); clear HB; have HB := n0_; clear n0_; (try clear hb); (try clear hb2); (try clear hk); (try clear hi)) | ((with_reducible refine gate_dst (N := 13) rfl ?_); refine box_event ?hg (N := 13) ?hd (cs := #[.int .i64 0,.int .i64 0,.int .i64 0,.string (⟨#[]⟩ : ByteArray)]) (t := 25) ?hr ?_; (case hd => rfl); (case hg => rfl); (case hr => first | (go_simp; done) | (go_simp; rfl)); intro gb210 hg w18 hbox hb; have n0_ := Aside0.mk (below_step (by repeat (first | (with_reducible first | exact HB.out | apply below_alloc | apply pw_below_drewN | apply below_drew1) | exact HB.out)) hb); have n1_ := Aside0.mk (hbox); have n2_ := Aside0.mk ((by rw [hg]; exact (below_size (by repeat (first | (with_reducible first | exact HB.out | apply below_alloc | apply pw_below_drewN | apply below_drew1) | exact HB.out))) : w.heap.size ≤ gb210)); have n3_ := Aside0.mk ((by rw [hg]; exact (below_size (by repeat (first | (with_reducible first | exact HB.out | apply below_alloc | apply pw_below_drewN | apply below_drew1) | exact HB.out))) : w.heap.size ≤ gb210)); clear HB; have HB := n0_; have BK210 := n1_; have GW210 := n2_; have GE210 := n3_; clear n0_ n1_ n2_ n3_; clear hb hbox hg) | ((with_reducible refine gate_dst (N := 14) rfl ?_); refine box_event ?hg (N := 14) ?hd (cs := #[.int .i64 0,.int .i64 0,.int .i64 0,.string (⟨#[]⟩ : ByteArray)]) (t := 25) ?hr ?_; (case hd => rfl); (case hg => rfl); (case hr => first | (go_simp; done) | (go_simp; rfl)); intro gb211 hg w19 hbox hb; have n0_ := Aside0.mk (blk_below (g := gb210) (o := .cells #[.int .i64 0,.int .i64 0,.int .i64 0,.string (⟨#[]⟩ : ByteArray)] 25 (0,0)) (by (with_reducible repeat (first | refine blk_drewN ?_ _ | refine blk_drew ?_ | refine blk_alloc ?_ _)); exact BK210.out) hb); have n1_ := Aside0.mk (below_step (by repeat (first | (with_reducible first | exact HB.out | apply below_alloc | apply pw_below_drewN | apply below_drew1 | refine below_set ?_ GE210.out) | exact HB.out)) hb); have n2_ := Aside0.mk (hbox); have n3_ := Aside0.mk ((by rw [hg]; exact (below_size (by repeat (first | (with_reducible first | exact HB.out | apply below_alloc | apply pw_below_drewN | apply below_drew1 | refine below_set ?_ GE210.out) | exact HB.out))) : w.heap.size ≤ gb211)); have n4_ := Aside0.mk ((by rw [hg]; exact (below_size (by repeat (first | (with_reducible first | exact HB.out | apply below_alloc | apply pw_below_drewN | apply below_drew1 | refine below_set ?_ GE210.out) | exact HB.out))) : w.heap.size ≤ gb211)); have n5_ := Aside0.mk ((by rw [hg]; exact Nat.ne_of_lt (blk_lt (g := gb210) (o := .cells #[.int .i64 0,.int .i64 0,.int .i64 0,.string (⟨#[]⟩ : ByteArray)] 25 (0,0)) (by (with_reducible repeat (first | refine blk_drewN ?_ _ | refine blk_drew ?_ | refine blk_alloc ?_ _)); exact BK210.out)) : gb210 ≠ gb211)); have n6_ := Aside0.mk ((by rw [hg]; exact Nat.ne_of_gt (blk_lt (g := gb210) (o := .cells #[.int .i64 0,.int .i64 0,.int .i64 0,.string (⟨#[]⟩ : ByteArray)] 25 (0,0)) (by (with_reducible repeat (first | refine blk_drewN ?_ _ | refine blk_drew ?_ | refine blk_alloc ?_ _)); exact BK210.out)) : gb211 ≠ gb210)); clear BK210; clear HB; have BK210 := n0_; have HB := n1_; have BK211 := n2_; have GW211 := n3_; have GE211 := n4_; have NB210_211 := n5_; have NB211_210 := n6_; clear n0_ n1_ n2_ n3_ n4_ n5_ n6_; clear hb hbox hg) | ((with_reducible refine gate_dst (N := 15) rfl ?_); refine box_event ?hg (N := 15) ?hd (cs := #[.int .i64 0,.int .i64 0,.int .i64 0,.string (⟨#[]⟩ : ByteArray)]) (t := 25) ?hr ?_; (case hd => rfl); (case hg => rfl); (case hr => first | (go_simp; done) | (go_simp; rfl)); intro gb212 hg w20 hbox hb; have n0_ := Aside0.mk (blk_below (g := gb210) (o := .cells #[.int .i64 0,.int .i64 0,.int .i64 0,.string (⟨#[]⟩ : ByteArray)] 25 (0,0)) (by (with_reducible repeat (first | refine blk_drewN ?_ _ | refine blk_drew ?_ | refine blk_alloc ?_ _)); exact BK210.out) hb); have n1_ := Aside0.mk (blk_below (g := gb211) (o := .cells #[.int .i64 0,.int .i64 0,.int .i64 0,.string (⟨#[]⟩ : ByteArray)] 25 (0,0)) (by (with_reducible repeat (first | refine blk_drewN ?_ _ | refine blk_drew ?_ | refine blk_alloc ?_ _)); exact BK211.out) hb); have n2_ := Aside0.mk (below_step (by repeat (first | (with_reducible first | exact HB.out | apply below_alloc | apply pw_below_drewN | apply below_drew1 | refine below_set ?_ GE210.out | refine below_set ?_ GE211.out) | exact HB.out)) hb); have n3_ := Aside0.mk (hbox); have n4_ := Aside0.mk ((by rw [hg]; exact (below_size (by repeat (first | (with_reducible first | exact HB.out | apply below_alloc | apply pw_below_drewN | apply below_drew1 | refine below_set ?_ GE210.out | refine below_set ?_ GE211.out) | exact HB.out))) : w.heap.size ≤ gb212)); have n5_ := Aside0.mk ((by rw [hg]; exact (below_size (by repeat (first | (with_reducible first | exact HB.out | apply below_alloc | apply pw_below_drewN | apply below_drew1 | refine below_set ?_ GE210.out | refine below_set ?_ GE211.out) | exact HB.out))) : w.heap.size ≤ gb212)); have n6_ := Aside0.mk ((by rw [hg]; exact Nat.ne_of_lt (blk_lt (g := gb210) (o := .cells #[.int .i64 0,.int .i64 0,.int .i64 0,.string (⟨#[]⟩ : ByteArray)] 25 (0,0)) (by (with_reducible repeat (first | refine blk_drewN ?_ _ | refine blk_drew ?_ | refine blk_alloc ?_ _)); exact BK210.out)) : gb210 ≠ gb212)); have n7_ := Aside0.mk ((by rw [hg]; exact Nat.ne_of_gt (blk_lt (g := gb210) (o := .cells #[.int .i64 0,.int .i64 0,.int .i64 0,.string (⟨#[]⟩ : ByteArray)] 25 (0,0)) (by (with_reducible repeat (first | refine blk_drewN ?_ _ | refine blk_drew ?_ | refine blk_alloc ?_ _)); exact BK210.out)) : gb212 ≠ gb210)); have n8_ := Aside0.mk ((by rw [hg]; exact Nat.ne_of_lt (blk_lt (g := gb211) (o := .cells #[.int .i64 0,.int .i64 0,.int .i64 0,.string (⟨#[]⟩ : ByteArray)] 25 (0,0)) (by (with_reducible repeat (first | refine blk_drewN ?_ _ | refine blk_drew ?_ | refine blk_alloc ?_ _)); exact BK211.out)) : gb211 ≠ gb212)); have n9_ := Aside0.mk ((by rw [hg]; exact Nat.ne_of_gt (blk_lt (g := gb211) (o := .cells #[.int .i64 0,.int .i64 0,.int .i64 0,.string (⟨#[]⟩ : ByteArray)] 25 (0,0)) (by (with_reducible repeat (first | refine blk_drewN ?_ _ | refine blk_drew ?_ | refine blk_alloc ?_ _)); exact BK211.out)) : gb212 ≠ gb211)); clear BK210; clear BK211; clear HB; have BK210 := n0_; have BK211 := n1_; have HB := n2_; have BK212 := n3_; have GW212 := n4_; have GE212 := n5_; have NB210_212 := n6_; have NB212_210 := n7_; have NB211_212 := n8_; have NB212_211 := n9_; clear n0_ n1_ n2_ n3_ n4_ n5_ n6_ n7_ n8_ n9_; clear hb hbox hg; have hnb21 := NB210_211.out; have hnc21 := NB211_210.out; have hnb22 := NB210_212.out; have hnc22 := NB212_210.out; have hcz23_0 : w20.cell? ⟨gb210,0,none⟩ = some (.int .i64 0) := (blk_cell BK210.out 0).trans rfl; have hcz23_1 : w20.cell? ⟨gb210,1,none⟩ = some (.int .i64 0) := (blk_cell BK210.out 1).trans rfl; have hcz23_2 : w20.cell? ⟨gb210,2,none⟩ = some (.int .i64 0) := (blk_cell BK210.out 2).trans rfl; have hcz23_3 : w20.cell? ⟨gb210,3,none⟩ = some (.string (⟨#[]⟩ : ByteArray)) := (blk_cell BK210.out 3).trans rfl; have hfz23_0 := blk_frozen BK210.out 0; have hfz23_1 := blk_frozen BK210.out 1; have hfz23_2 := blk_frozen BK210.out 2; have hfz23_3 := blk_frozen BK210.out 3; have hnb24 := NB211_212.out; have hnc24 := NB212_211.out; have hcz25_0 : w20.cell? ⟨gb211,0,none⟩ = some (.int .i64 0) := (blk_cell BK211.out 0).trans rfl; have hcz25_1 : w20.cell? ⟨gb211,1,none⟩ = some (.int .i64 0) := (blk_cell BK211.out 1).trans rfl; have hcz25_2 : w20.cell? ⟨gb211,2,none⟩ = some (.int .i64 0) := (blk_cell BK211.out 2).trans rfl; have hcz25_3 : w20.cell? ⟨gb211,3,none⟩ = some (.string (⟨#[]⟩ : ByteArray)) := (blk_cell BK211.out 3).trans rfl; have hfz25_0 := blk_frozen BK211.out 0; have hfz25_1 := blk_frozen BK211.out 1; have hfz25_2 := blk_frozen BK211.out 2; have hfz25_3 := blk_frozen BK211.out 3; have hcz26_0 : w20.cell? ⟨gb212,0,none⟩ = some (.int .i64 0) := (blk_cell BK212.out 0).trans rfl; have hcz26_1 : w20.cell? ⟨gb212,1,none⟩ = some (.int .i64 0) := (blk_cell BK212.out 1).trans rfl; have hcz26_2 : w20.cell? ⟨gb212,2,none⟩ = some (.int .i64 0) := (blk_cell BK212.out 2).trans rfl; have hcz26_3 : w20.cell? ⟨gb212,3,none⟩ = some (.string (⟨#[]⟩ : ByteArray)) := (blk_cell BK212.out 3).trans rfl; have hfz26_0 := blk_frozen BK212.out 0; have hfz26_1 := blk_frozen BK212.out 1; have hfz26_2 := blk_frozen BK212.out 2; have hfz26_3 := blk_frozen BK212.out 3) | ((with_reducible refine gate_callee (f := 13) rfl ?_); refine goesL_ (some 31) rfl rfl Tryz.func13 (by kernel_rfl) rfl #[.int .i64 a4,.int .i64 3] rfl (by (try simp only [List.map_toArray,List.map_cons,List.map_nil]); first | done | rfl | (simp only [List.length_drop,List.length_take]; rfl)) ?_; (with_reducible refine (transhumancelaw2_within.calls a4 3 t213 _ A12.out).mono ?_); rintro e w' ⟨rfl,⟨nd,rfl⟩⟩; refine ⟨_,rfl,?_⟩))
  (try simp only [Act.put,List.setIfInBounds_toArray,List.set_cons_zero,List.set_cons_succ])
  go_cut [] (fun wc => ∃ (kq : Nat) (x212000_12 : Int) (x212001_12 : Int) (x212002_12 : Int) (x213000_12 : Int) (x213001_12 : Int) (x213002_12 : Int),Aside0 (transhumancelaw2_VerOrder.j0 kq t198 t199 t200 t201 x212000_12 x212001_12 x212002_12 t205 x213000_12 x213001_12 x213002_12 t209 = some r) ∧ Aside0 (kq ≤ k) ∧ Aside0 (wc.heap[gb210]? = some (.cells #[.int .i64 t198,.int .i64 t199,.int .i64 t200,.string t201] 25 (0,0))) ∧ Aside0 (wc.heap[gb211]? = some (.cells #[.int .i64 x212000_12,.int .i64 x212001_12,.int .i64 x212002_12,.string t205] 25 (0,0))) ∧ Aside0 (wc.heap[gb212]? = some (.cells #[.int .i64 x213000_12,.int .i64 x213001_12,.int .i64 x213002_12,.string t209] 25 (0,0))) ∧ Aside0 (Below w.heap.size w wc))
  case first =>
   have H := HC13.out
   clear HC13
   by_cases c27 : t213 = 0
   ·rw [if_pos c27] at H
    have c27b0 : (t213 == 0) = true := beq_iff_eq.mpr c27
    have c27b1 : (t213 != 0) = false := bne_eq_false_iff_eq.mpr c27
    clear c27
    (first | rw [c27b0] | (simp only [i64_w,i32_w]; rw [c27b0]) | skip)
    have H' := Aside0.mk H
    clear H
    try go_wp2
    have n0_ : Aside0 (((((((((((((w20.setCell ⟨gb210,0,none⟩ (.int .i64 t198)).setCell ⟨gb210,1,none⟩ (.int .i64 t199)).setCell ⟨gb210,2,none⟩ (.int .i64 t200)).setCell ⟨gb210,3,none⟩ (.string t201)).setCell ⟨gb211,0,none⟩ (.int .i64 t202)).setCell ⟨gb211,1,none⟩ (.int .i64 t203)).setCell ⟨gb211,2,none⟩ (.int .i64 t204)).setCell ⟨gb211,3,none⟩ (.string t205)).setCell ⟨gb212,0,none⟩ (.int .i64 t206)).setCell ⟨gb212,1,none⟩ (.int .i64 t207)).setCell ⟨gb212,2,none⟩ (.int .i64 t208)).setCell ⟨gb212,3,none⟩ (.string t209)).heap[gb210]? = some (.cells #[.int .i64 t198,.int .i64 t199,.int .i64 t200,.string t201] 25 (0,0))) := ⟨by (with_reducible repeat (first | refine blk_drewN ?_ _ | refine blk_drew ?_ | refine blk_alloc ?_ _)); refine blk_far ?_ NB210_212.out _; (with_reducible repeat (first | refine blk_drewN ?_ _ | refine blk_drew ?_ | refine blk_alloc ?_ _)); refine blk_far ?_ NB210_212.out _; (with_reducible repeat (first | refine blk_drewN ?_ _ | refine blk_drew ?_ | refine blk_alloc ?_ _)); refine blk_far ?_ NB210_212.out _; (with_reducible repeat (first | refine blk_drewN ?_ _ | refine blk_drew ?_ | refine blk_alloc ?_ _)); refine blk_far ?_ NB210_212.out _; (with_reducible repeat (first | refine blk_drewN ?_ _ | refine blk_drew ?_ | refine blk_alloc ?_ _)); refine blk_far ?_ NB210_211.out _; (with_reducible repeat (first | refine blk_drewN ?_ _ | refine blk_drew ?_ | refine blk_alloc ?_ _)); refine blk_far ?_ NB210_211.out _; (with_reducible repeat (first | refine blk_drewN ?_ _ | refine blk_drew ?_ | refine blk_alloc ?_ _)); refine blk_far ?_ NB210_211.out _; (with_reducible repeat (first | refine blk_drewN ?_ _ | refine blk_drew ?_ | refine blk_alloc ?_ _)); refine blk_far ?_ NB210_211.out _; (with_reducible repeat (first | refine blk_drewN ?_ _ | refine blk_drew ?_ | refine blk_alloc ?_ _)); refine blk_put (cs := #[.int .i64 t198,.int .i64 t199,.int .i64 t200,.string (⟨#[]⟩ : ByteArray)]) ?_ 3 _ rfl; (with_reducible repeat (first | refine blk_drewN ?_ _ | refine blk_drew ?_ | refine blk_alloc ?_ _)); refine blk_put (cs := #[.int .i64 t198,.int .i64 t199,.int .i64 0,.string (⟨#[]⟩ : ByteArray)]) ?_ 2 _ rfl; (with_reducible repeat (first | refine blk_drewN ?_ _ | refine blk_drew ?_ | refine blk_alloc ?_ _)); refine blk_put (cs := #[.int .i64 t198,.int .i64 0,.int .i64 0,.string (⟨#[]⟩ : ByteArray)]) ?_ 1 _ rfl; (with_reducible repeat (first | refine blk_drewN ?_ _ | refine blk_drew ?_ | refine blk_alloc ?_ _)); refine blk_put (cs := #[.int .i64 0,.int .i64 0,.int .i64 0,.string (⟨#[]⟩ : ByteArray)]) ?_ 0 _ rfl; (with_reducible repeat (first | refine blk_drewN ?_ _ | refine blk_drew ?_ | refine blk_alloc ?_ _)); exact BK210.out⟩
    have n1_ : Aside0 (((((((((((((w20.setCell ⟨gb210,0,none⟩ (.int .i64 t198)).setCell ⟨gb210,1,none⟩ (.int .i64 t199)).setCell ⟨gb210,2,none⟩ (.int .i64 t200)).setCell ⟨gb210,3,none⟩ (.string t201)).setCell ⟨gb211,0,none⟩ (.int .i64 t202)).setCell ⟨gb211,1,none⟩ (.int .i64 t203)).setCell ⟨gb211,2,none⟩ (.int .i64 t204)).setCell ⟨gb211,3,none⟩ (.string t205)).setCell ⟨gb212,0,none⟩ (.int .i64 t206)).setCell ⟨gb212,1,none⟩ (.int .i64 t207)).setCell ⟨gb212,2,none⟩ (.int .i64 t208)).setCell ⟨gb212,3,none⟩ (.string t209)).heap[gb211]? = some (.cells #[.int .i64 t202,.int .i64 t203,.int .i64 t204,.string t205] 25 (0,0))) := ⟨by (with_reducible repeat (first | refine blk_drewN ?_ _ | refine blk_drew ?_ | refine blk_alloc ?_ _)); refine blk_far ?_ NB211_212.out _; (with_reducible repeat (first | refine blk_drewN ?_ _ | refine blk_drew ?_ | refine blk_alloc ?_ _)); refine blk_far ?_ NB211_212.out _; (with_reducible repeat (first | refine blk_drewN ?_ _ | refine blk_drew ?_ | refine blk_alloc ?_ _)); refine blk_far ?_ NB211_212.out _; (with_reducible repeat (first | refine blk_drewN ?_ _ | refine blk_drew ?_ | refine blk_alloc ?_ _)); refine blk_far ?_ NB211_212.out _; (with_reducible repeat (first | refine blk_drewN ?_ _ | refine blk_drew ?_ | refine blk_alloc ?_ _)); refine blk_put (cs := #[.int .i64 t202,.int .i64 t203,.int .i64 t204,.string (⟨#[]⟩ : ByteArray)]) ?_ 3 _ rfl; (with_reducible repeat (first | refine blk_drewN ?_ _ | refine blk_drew ?_ | refine blk_alloc ?_ _)); refine blk_put (cs := #[.int .i64 t202,.int .i64 t203,.int .i64 0,.string (⟨#[]⟩ : ByteArray)]) ?_ 2 _ rfl; (with_reducible repeat (first | refine blk_drewN ?_ _ | refine blk_drew ?_ | refine blk_alloc ?_ _)); refine blk_put (cs := #[.int .i64 t202,.int .i64 0,.int .i64 0,.string (⟨#[]⟩ : ByteArray)]) ?_ 1 _ rfl; (with_reducible repeat (first | refine blk_drewN ?_ _ | refine blk_drew ?_ | refine blk_alloc ?_ _)); refine blk_put (cs := #[.int .i64 0,.int .i64 0,.int .i64 0,.string (⟨#[]⟩ : ByteArray)]) ?_ 0 _ rfl; (with_reducible repeat (first | refine blk_drewN ?_ _ | refine blk_drew ?_ | refine blk_alloc ?_ _)); refine blk_far ?_ NB211_210.out _; (with_reducible repeat (first | refine blk_drewN ?_ _ | refine blk_drew ?_ | refine blk_alloc ?_ _)); refine blk_far ?_ NB211_210.out _; (with_reducible repeat (first | refine blk_drewN ?_ _ | refine blk_drew ?_ | refine blk_alloc ?_ _)); refine blk_far ?_ NB211_210.out _; (with_reducible repeat (first | refine blk_drewN ?_ _ | refine blk_drew ?_ | refine blk_alloc ?_ _)); refine blk_far ?_ NB211_210.out _; (with_reducible repeat (first | refine blk_drewN ?_ _ | refine blk_drew ?_ | refine blk_alloc ?_ _)); exact BK211.out⟩
    have n2_ : Aside0 (((((((((((((w20.setCell ⟨gb210,0,none⟩ (.int .i64 t198)).setCell ⟨gb210,1,none⟩ (.int .i64 t199)).setCell ⟨gb210,2,none⟩ (.int .i64 t200)).setCell ⟨gb210,3,none⟩ (.string t201)).setCell ⟨gb211,0,none⟩ (.int .i64 t202)).setCell ⟨gb211,1,none⟩ (.int .i64 t203)).setCell ⟨gb211,2,none⟩ (.int .i64 t204)).setCell ⟨gb211,3,none⟩ (.string t205)).setCell ⟨gb212,0,none⟩ (.int .i64 t206)).setCell ⟨gb212,1,none⟩ (.int .i64 t207)).setCell ⟨gb212,2,none⟩ (.int .i64 t208)).setCell ⟨gb212,3,none⟩ (.string t209)).heap[gb212]? = some (.cells #[.int .i64 t206,.int .i64 t207,.int .i64 t208,.string t209] 25 (0,0))) := ⟨by (with_reducible repeat (first | refine blk_drewN ?_ _ | refine blk_drew ?_ | refine blk_alloc ?_ _)); refine blk_put (cs := #[.int .i64 t206,.int .i64 t207,.int .i64 t208,.string (⟨#[]⟩ : ByteArray)]) ?_ 3 _ rfl; (with_reducible repeat (first | refine blk_drewN ?_ _ | refine blk_drew ?_ | refine blk_alloc ?_ _)); refine blk_put (cs := #[.int .i64 t206,.int .i64 t207,.int .i64 0,.string (⟨#[]⟩ : ByteArray)]) ?_ 2 _ rfl; (with_reducible repeat (first | refine blk_drewN ?_ _ | refine blk_drew ?_ | refine blk_alloc ?_ _)); refine blk_put (cs := #[.int .i64 t206,.int .i64 0,.int .i64 0,.string (⟨#[]⟩ : ByteArray)]) ?_ 1 _ rfl; (with_reducible repeat (first | refine blk_drewN ?_ _ | refine blk_drew ?_ | refine blk_alloc ?_ _)); refine blk_put (cs := #[.int .i64 0,.int .i64 0,.int .i64 0,.string (⟨#[]⟩ : ByteArray)]) ?_ 0 _ rfl; (with_reducible repeat (first | refine blk_drewN ?_ _ | refine blk_drew ?_ | refine blk_alloc ?_ _)); refine blk_far ?_ NB212_211.out _; (with_reducible repeat (first | refine blk_drewN ?_ _ | refine blk_drew ?_ | refine blk_alloc ?_ _)); refine blk_far ?_ NB212_211.out _; (with_reducible repeat (first | refine blk_drewN ?_ _ | refine blk_drew ?_ | refine blk_alloc ?_ _)); refine blk_far ?_ NB212_211.out _; (with_reducible repeat (first | refine blk_drewN ?_ _ | refine blk_drew ?_ | refine blk_alloc ?_ _)); refine blk_far ?_ NB212_211.out _; (with_reducible repeat (first | refine blk_drewN ?_ _ | refine blk_drew ?_ | refine blk_alloc ?_ _)); refine blk_far ?_ NB212_210.out _; (with_reducible repeat (first | refine blk_drewN ?_ _ | refine blk_drew ?_ | refine blk_alloc ?_ _)); refine blk_far ?_ NB212_210.out _; (with_reducible repeat (first | refine blk_drewN ?_ _ | refine blk_drew ?_ | refine blk_alloc ?_ _)); refine blk_far ?_ NB212_210.out _; (with_reducible repeat (first | refine blk_drewN ?_ _ | refine blk_drew ?_ | refine blk_alloc ?_ _)); refine blk_far ?_ NB212_210.out _; (with_reducible repeat (first | refine blk_drewN ?_ _ | refine blk_drew ?_ | refine blk_alloc ?_ _)); exact BK212.out⟩
    have n3_ : Aside0 (Below w.heap.size w ((((((((((((w20.setCell ⟨gb210,0,none⟩ (.int .i64 t198)).setCell ⟨gb210,1,none⟩ (.int .i64 t199)).setCell ⟨gb210,2,none⟩ (.int .i64 t200)).setCell ⟨gb210,3,none⟩ (.string t201)).setCell ⟨gb211,0,none⟩ (.int .i64 t202)).setCell ⟨gb211,1,none⟩ (.int .i64 t203)).setCell ⟨gb211,2,none⟩ (.int .i64 t204)).setCell ⟨gb211,3,none⟩ (.string t205)).setCell ⟨gb212,0,none⟩ (.int .i64 t206)).setCell ⟨gb212,1,none⟩ (.int .i64 t207)).setCell ⟨gb212,2,none⟩ (.int .i64 t208)).setCell ⟨gb212,3,none⟩ (.string t209))) := ⟨by repeat (first | (with_reducible first | exact HB.out | apply below_alloc | apply pw_below_drewN | apply below_drew1 | refine below_set ?_ GE210.out | refine below_set ?_ GE211.out | refine below_set ?_ GE212.out) | exact HB.out)⟩
    (try clear BK210)
    (try clear BK211)
    (try clear BK212)
    (try clear HB)
    generalize ((((((((((((w20.setCell ⟨gb210,0,none⟩ (.int .i64 t198)).setCell ⟨gb210,1,none⟩ (.int .i64 t199)).setCell ⟨gb210,2,none⟩ (.int .i64 t200)).setCell ⟨gb210,3,none⟩ (.string t201)).setCell ⟨gb211,0,none⟩ (.int .i64 t202)).setCell ⟨gb211,1,none⟩ (.int .i64 t203)).setCell ⟨gb211,2,none⟩ (.int .i64 t204)).setCell ⟨gb211,3,none⟩ (.string t205)).setCell ⟨gb212,0,none⟩ (.int .i64 t206)).setCell ⟨gb212,1,none⟩ (.int .i64 t207)).setCell ⟨gb212,2,none⟩ (.int .i64 t208)).setCell ⟨gb212,3,none⟩ (.string t209)) = w28 at n0_ n1_ n2_ n3_ ⊢
    have BK210 := n0_
    have BK211 := n1_
    have BK212 := n2_
    have HB := n3_
    clear n0_ n1_ n2_ n3_
    have n0_ := Aside0.mk (blk_drew (blk_drewN BK210.out nd))
    have n1_ := Aside0.mk (blk_drew (blk_drewN BK211.out nd))
    have n2_ := Aside0.mk (blk_drew (blk_drewN BK212.out nd))
    have n3_ := Aside0.mk (below_drew1 (pw_below_drewN HB.out nd))
    clear BK210
    clear BK211
    clear BK212
    clear HB
    have BK210 := n0_
    have BK211 := n1_
    have BK212 := n2_
    have HB := n3_
    clear n0_ n1_ n2_ n3_
    refine start_ (n := 12) (S := fun w' => w'.cell? ⟨gb210,0,none⟩ = some (.int .i64 t198) ∧ w'.cell? ⟨gb210,1,none⟩ = some (.int .i64 t199) ∧ w'.cell? ⟨gb210,2,none⟩ = some (.int .i64 t200) ∧ w'.cell? ⟨gb210,3,none⟩ = some (.string t201)) (ds := []) #[false,false,false,false,false,false,false,false,false,false,false,false] (by kernel_rfl) rfl rfl ⟨(blk_cell BK210.out 0).trans rfl,(blk_cell BK210.out 1).trans rfl,(blk_cell BK210.out 2).trans rfl,(blk_cell BK210.out 3).trans rfl⟩ (fun hHeld => ?_); refine with_tabW transhumancelaw2_VerOrder.tab5 transhumancelaw2_VerOrder.bits5 (fun HT_ HW_ => ?_)
    generalize (w28.drewN nd).drew = w29 at BK210 BK211 BK212 HB hHeld ⊢
    refine pure_ (i := 0) (N := some 33) (v := ?_) (a' := ?_) #[true,false,false,false,false,false,false,false,false,false,false,false] rfl rfl (any_of HT_.out (by kernel_rfl)) (fun _ _ _ h => h) (Or.inl ⟨by rfl,?_⟩) ?_ ?_
    rotate_left
    ·intro w'
     go_simp
     with_reducible rfl
    rotate_left
    ·simp only [Act.put,List.setIfInBounds_toArray,List.set_cons_zero,List.set_cons_succ,i64_w,i32_w]
     rfl
    refine pure_ (i := 2) (N := some 35) (v := ?_) (a' := ?_) #[true,false,true,false,false,false,false,false,false,false,false,false] rfl rfl (any_of HT_.out (by kernel_rfl)) (fun _ _ _ h => h) (Or.inl ⟨by rfl,?_⟩) ?_ ?_
    rotate_left
    ·intro w'
     go_simp
     with_reducible rfl
    rotate_left
    ·simp only [Act.put,List.setIfInBounds_toArray,List.set_cons_zero,List.set_cons_succ,i64_w,i32_w]
     rfl
    refine pure_ (i := 4) (N := some 37) (v := ?_) (a' := ?_) #[true,false,true,false,true,false,false,false,false,false,false,false] rfl rfl (any_of HT_.out (by kernel_rfl)) (fun _ _ _ h => h) (Or.inl ⟨by rfl,?_⟩) ?_ ?_
    rotate_left
    ·intro w'
     go_simp
     with_reducible rfl
    rotate_left
    ·simp only [Act.put,List.setIfInBounds_toArray,List.set_cons_zero,List.set_cons_succ,i64_w,i32_w]
     rfl
    refine take_ (i := 1) (N := some 34) (v := ?_) (a' := ?_) #[true,true,true,false,true,false,false,false,false,false,false,false] rfl rfl (take_ofW HT_.out HW_.out (by kernel_rfl)) (fun _ _ _ h => h) (Or.inl ⟨by rfl,?_⟩) hHeld ?_ ?_
    rotate_left
    ·rintro w' ⟨s0,s1,s2,s3⟩
     go_simp
     with_reducible rfl
    rotate_left
    ·simp only [Act.put,List.setIfInBounds_toArray,List.set_cons_zero,List.set_cons_succ,i64_w,i32_w]
     rfl
    refine pure_ (i := 6) (N := some 39) (v := ?_) (a' := ?_) #[true,true,true,false,true,false,true,false,false,false,false,false] rfl rfl (any_of HT_.out (by kernel_rfl)) (fun _ _ _ h => h) (Or.inl ⟨by rfl,?_⟩) ?_ ?_
    rotate_left
    ·intro w'
     go_simp
     with_reducible rfl
    rotate_left
    ·simp only [Act.put,List.setIfInBounds_toArray,List.set_cons_zero,List.set_cons_succ,i64_w,i32_w]
     rfl
    refine take_ (i := 3) (N := some 36) (v := ?_) (a' := ?_) #[true,true,true,true,true,false,true,false,false,false,false,false] rfl rfl (take_ofW HT_.out HW_.out (by kernel_rfl)) (fun _ _ _ h => h) (Or.inl ⟨by rfl,?_⟩) hHeld ?_ ?_
    rotate_left
    ·rintro w' ⟨s0,s1,s2,s3⟩
     go_simp
     with_reducible rfl
    rotate_left
    ·simp only [Act.put,List.setIfInBounds_toArray,List.set_cons_zero,List.set_cons_succ,i64_w,i32_w]
     rfl
    refine take_ (i := 5) (N := some 38) (v := ?_) (a' := ?_) #[true,true,true,true,true,true,true,false,false,false,false,false] rfl rfl (take_ofW HT_.out HW_.out (by kernel_rfl)) (fun _ _ _ h => h) (Or.inl ⟨by rfl,?_⟩) hHeld ?_ ?_
    rotate_left
    ·rintro w' ⟨s0,s1,s2,s3⟩
     go_simp
     with_reducible rfl
    rotate_left
    ·simp only [Act.put,List.setIfInBounds_toArray,List.set_cons_zero,List.set_cons_succ,i64_w,i32_w]
     rfl
    refine one_ (i := 7) (N := none) #[true,true,true,true,true,true,true,true,false,false,false,false] rfl rfl (one_of HT_.out (by kernel_rfl)) (by decide) (fun K hK => ?_)
    have hs30 : w29.cell? ⟨gb211,0,none⟩ = some (.int .i64 t202) := (blk_cell BK211.out 0).trans rfl
    have hfs30 := blk_frozen BK211.out 0
    have hns30_0 := NB210_211.out
    have hns30_2 := NB212_211.out
    have hms30_0 := NB211_210.out
    have hms30_2 := NB211_212.out
    refine skip_ (w1 := ?_) (by rfl) rfl ?_ ?_
    rotate_left
    ·go_simp
     rfl
    refine hK.out _ _ ⟨((cell_far (p := ⟨gb211,_,none⟩) NB210_211.out _).trans (hHeld.1)),((cell_far (p := ⟨gb211,_,none⟩) NB210_211.out _).trans (hHeld.2.1)),((cell_far (p := ⟨gb211,_,none⟩) NB210_211.out _).trans (hHeld.2.2.1)),((cell_far (p := ⟨gb211,_,none⟩) NB210_211.out _).trans (hHeld.2.2.2))⟩ (fun hHeld => ?_)
    clear hK K
    refine pure_ (i := 8) (N := some 40) (v := ?_) (a' := ?_) #[true,true,true,true,true,true,true,true,true,false,false,false] rfl rfl (any_of HT_.out (by kernel_rfl)) (fun _ _ _ h => h) (Or.inl ⟨by rfl,?_⟩) ?_ ?_
    rotate_left
    ·intro w'
     go_simp
     with_reducible rfl
    rotate_left
    ·simp only [Act.put,List.setIfInBounds_toArray,List.set_cons_zero,List.set_cons_succ,i64_w,i32_w]
     rfl
    refine one_ (i := 9) (N := none) #[true,true,true,true,true,true,true,true,true,true,false,false] rfl rfl (one_of HT_.out (by kernel_rfl)) (by decide) (fun K hK => ?_)
    have hs31 : w29.cell? ⟨gb211,1,none⟩ = some (.int .i64 t203) := (blk_cell BK211.out 1).trans rfl
    have hfs31 := blk_frozen BK211.out 1
    have hns31_0 := NB210_211.out
    have hns31_2 := NB212_211.out
    have hms31_0 := NB211_210.out
    have hms31_2 := NB211_212.out
    refine skip_ (w1 := ?_) (by rfl) rfl ?_ ?_
    rotate_left
    ·go_simp
     rfl
    refine hK.out _ _ ⟨((cell_far (p := ⟨gb211,_,none⟩) NB210_211.out _).trans (hHeld.1)),((cell_far (p := ⟨gb211,_,none⟩) NB210_211.out _).trans (hHeld.2.1)),((cell_far (p := ⟨gb211,_,none⟩) NB210_211.out _).trans (hHeld.2.2.1)),((cell_far (p := ⟨gb211,_,none⟩) NB210_211.out _).trans (hHeld.2.2.2))⟩ (fun hHeld => ?_)
    clear hK K
    refine pure_ (i := 10) (N := some 41) (v := ?_) (a' := ?_) #[true,true,true,true,true,true,true,true,true,true,true,false] rfl rfl (any_of HT_.out (by kernel_rfl)) (fun _ _ _ h => h) (Or.inl ⟨by rfl,?_⟩) ?_ ?_
    rotate_left
    ·intro w'
     go_simp
     with_reducible rfl
    rotate_left
    ·simp only [Act.put,List.setIfInBounds_toArray,List.set_cons_zero,List.set_cons_succ,i64_w,i32_w]
     rfl
    refine one_ (i := 11) (N := none) #[true,true,true,true,true,true,true,true,true,true,true,true] rfl rfl (one_of HT_.out (by kernel_rfl)) (by decide) (fun K hK => ?_)
    have hs32 : w29.cell? ⟨gb211,2,none⟩ = some (.int .i64 t204) := (blk_cell BK211.out 2).trans rfl
    have hfs32 := blk_frozen BK211.out 2
    have hns32_0 := NB210_211.out
    have hns32_2 := NB212_211.out
    have hms32_0 := NB211_210.out
    have hms32_2 := NB211_212.out
    refine skip_ (w1 := ?_) (by rfl) rfl ?_ ?_
    rotate_left
    ·go_simp
     rfl
    refine hK.out _ _ ⟨((cell_far (p := ⟨gb211,_,none⟩) NB210_211.out _).trans (hHeld.1)),((cell_far (p := ⟨gb211,_,none⟩) NB210_211.out _).trans (hHeld.2.1)),((cell_far (p := ⟨gb211,_,none⟩) NB210_211.out _).trans (hHeld.2.2.1)),((cell_far (p := ⟨gb211,_,none⟩) NB210_211.out _).trans (hHeld.2.2.2))⟩ (fun hHeld => ?_)
    clear hK K
    refine done_ (done_of HT_.out (by kernel_rfl)) ?_
    try go_wp2
    have n0_ : Aside0 ((((w29.setCell ⟨gb211,0,none⟩ (.int .i64 t198)).setCell ⟨gb211,1,none⟩ (.int .i64 t199)).setCell ⟨gb211,2,none⟩ (.int .i64 t200)).heap[gb210]? = some (.cells #[.int .i64 t198,.int .i64 t199,.int .i64 t200,.string t201] 25 (0,0))) := ⟨by (with_reducible repeat (first | refine blk_drewN ?_ _ | refine blk_drew ?_ | refine blk_alloc ?_ _)); refine blk_far ?_ NB210_211.out _; (with_reducible repeat (first | refine blk_drewN ?_ _ | refine blk_drew ?_ | refine blk_alloc ?_ _)); refine blk_far ?_ NB210_211.out _; (with_reducible repeat (first | refine blk_drewN ?_ _ | refine blk_drew ?_ | refine blk_alloc ?_ _)); refine blk_far ?_ NB210_211.out _; (with_reducible repeat (first | refine blk_drewN ?_ _ | refine blk_drew ?_ | refine blk_alloc ?_ _)); exact BK210.out⟩
    have n1_ : Aside0 ((((w29.setCell ⟨gb211,0,none⟩ (.int .i64 t198)).setCell ⟨gb211,1,none⟩ (.int .i64 t199)).setCell ⟨gb211,2,none⟩ (.int .i64 t200)).heap[gb211]? = some (.cells #[.int .i64 t198,.int .i64 t199,.int .i64 t200,.string t205] 25 (0,0))) := ⟨by (with_reducible repeat (first | refine blk_drewN ?_ _ | refine blk_drew ?_ | refine blk_alloc ?_ _)); refine blk_put (cs := #[.int .i64 t198,.int .i64 t199,.int .i64 t204,.string t205]) ?_ 2 _ rfl; (with_reducible repeat (first | refine blk_drewN ?_ _ | refine blk_drew ?_ | refine blk_alloc ?_ _)); refine blk_put (cs := #[.int .i64 t198,.int .i64 t203,.int .i64 t204,.string t205]) ?_ 1 _ rfl; (with_reducible repeat (first | refine blk_drewN ?_ _ | refine blk_drew ?_ | refine blk_alloc ?_ _)); refine blk_put (cs := #[.int .i64 t202,.int .i64 t203,.int .i64 t204,.string t205]) ?_ 0 _ rfl; (with_reducible repeat (first | refine blk_drewN ?_ _ | refine blk_drew ?_ | refine blk_alloc ?_ _)); exact BK211.out⟩
    have n2_ : Aside0 ((((w29.setCell ⟨gb211,0,none⟩ (.int .i64 t198)).setCell ⟨gb211,1,none⟩ (.int .i64 t199)).setCell ⟨gb211,2,none⟩ (.int .i64 t200)).heap[gb212]? = some (.cells #[.int .i64 t206,.int .i64 t207,.int .i64 t208,.string t209] 25 (0,0))) := ⟨by (with_reducible repeat (first | refine blk_drewN ?_ _ | refine blk_drew ?_ | refine blk_alloc ?_ _)); refine blk_far ?_ NB212_211.out _; (with_reducible repeat (first | refine blk_drewN ?_ _ | refine blk_drew ?_ | refine blk_alloc ?_ _)); refine blk_far ?_ NB212_211.out _; (with_reducible repeat (first | refine blk_drewN ?_ _ | refine blk_drew ?_ | refine blk_alloc ?_ _)); refine blk_far ?_ NB212_211.out _; (with_reducible repeat (first | refine blk_drewN ?_ _ | refine blk_drew ?_ | refine blk_alloc ?_ _)); exact BK212.out⟩
    have n3_ : Aside0 (Below w.heap.size w (((w29.setCell ⟨gb211,0,none⟩ (.int .i64 t198)).setCell ⟨gb211,1,none⟩ (.int .i64 t199)).setCell ⟨gb211,2,none⟩ (.int .i64 t200))) := ⟨by repeat (first | (with_reducible first | exact HB.out | apply below_alloc | apply pw_below_drewN | apply below_drew1 | refine below_set ?_ GE210.out | refine below_set ?_ GE211.out | refine below_set ?_ GE212.out) | exact HB.out)⟩
    (try clear BK210)
    (try clear BK211)
    (try clear BK212)
    (try clear HB)
    generalize (((w29.setCell ⟨gb211,0,none⟩ (.int .i64 t198)).setCell ⟨gb211,1,none⟩ (.int .i64 t199)).setCell ⟨gb211,2,none⟩ (.int .i64 t200)) = w33 at n0_ n1_ n2_ n3_ ⊢
    have BK210 := n0_
    have BK211 := n1_
    have BK212 := n2_
    have HB := n3_
    clear n0_ n1_ n2_ n3_
    have n0_ := Aside0.mk (blk_drew BK210.out)
    have n1_ := Aside0.mk (blk_drew BK211.out)
    have n2_ := Aside0.mk (blk_drew BK212.out)
    have n3_ := Aside0.mk (below_drew1 HB.out)
    clear BK210
    clear BK211
    clear BK212
    clear HB
    have BK210 := n0_
    have BK211 := n1_
    have BK212 := n2_
    have HB := n3_
    clear n0_ n1_ n2_ n3_
    refine start_ (n := 12) (S := fun w' => w'.cell? ⟨gb210,0,none⟩ = some (.int .i64 t198) ∧ w'.cell? ⟨gb210,1,none⟩ = some (.int .i64 t199) ∧ w'.cell? ⟨gb210,2,none⟩ = some (.int .i64 t200) ∧ w'.cell? ⟨gb210,3,none⟩ = some (.string t201)) (ds := []) #[false,false,false,false,false,false,false,false,false,false,false,false] (by kernel_rfl) rfl rfl ⟨(blk_cell BK210.out 0).trans rfl,(blk_cell BK210.out 1).trans rfl,(blk_cell BK210.out 2).trans rfl,(blk_cell BK210.out 3).trans rfl⟩ (fun hHeld => ?_); refine with_tabW transhumancelaw2_VerOrder.tab6 transhumancelaw2_VerOrder.bits6 (fun HT_ HW_ => ?_)
    generalize w33.drew = w34 at BK210 BK211 BK212 HB hHeld ⊢
    refine pure_ (i := 0) (N := some 42) (v := ?_) (a' := ?_) #[true,false,false,false,false,false,false,false,false,false,false,false] rfl rfl (any_of HT_.out (by kernel_rfl)) (fun _ _ _ h => h) (Or.inl ⟨by rfl,?_⟩) ?_ ?_
    rotate_left
    ·intro w'
     go_simp
     with_reducible rfl
    rotate_left
    ·simp only [Act.put,List.setIfInBounds_toArray,List.set_cons_zero,List.set_cons_succ,i64_w,i32_w]
     rfl
    refine pure_ (i := 2) (N := some 44) (v := ?_) (a' := ?_) #[true,false,true,false,false,false,false,false,false,false,false,false] rfl rfl (any_of HT_.out (by kernel_rfl)) (fun _ _ _ h => h) (Or.inl ⟨by rfl,?_⟩) ?_ ?_
    rotate_left
    ·intro w'
     go_simp
     with_reducible rfl
    rotate_left
    ·simp only [Act.put,List.setIfInBounds_toArray,List.set_cons_zero,List.set_cons_succ,i64_w,i32_w]
     rfl
    refine pure_ (i := 4) (N := some 46) (v := ?_) (a' := ?_) #[true,false,true,false,true,false,false,false,false,false,false,false] rfl rfl (any_of HT_.out (by kernel_rfl)) (fun _ _ _ h => h) (Or.inl ⟨by rfl,?_⟩) ?_ ?_
    rotate_left
    ·intro w'
     go_simp
     with_reducible rfl
    rotate_left
    ·simp only [Act.put,List.setIfInBounds_toArray,List.set_cons_zero,List.set_cons_succ,i64_w,i32_w]
     rfl
    refine take_ (i := 1) (N := some 43) (v := ?_) (a' := ?_) #[true,true,true,false,true,false,false,false,false,false,false,false] rfl rfl (take_ofW HT_.out HW_.out (by kernel_rfl)) (fun _ _ _ h => h) (Or.inl ⟨by rfl,?_⟩) hHeld ?_ ?_
    rotate_left
    ·rintro w' ⟨s0,s1,s2,s3⟩
     go_simp
     with_reducible rfl
    rotate_left
    ·simp only [Act.put,List.setIfInBounds_toArray,List.set_cons_zero,List.set_cons_succ,i64_w,i32_w]
     rfl
    refine pure_ (i := 6) (N := some 48) (v := ?_) (a' := ?_) #[true,true,true,false,true,false,true,false,false,false,false,false] rfl rfl (any_of HT_.out (by kernel_rfl)) (fun _ _ _ h => h) (Or.inl ⟨by rfl,?_⟩) ?_ ?_
    rotate_left
    ·intro w'
     go_simp
     with_reducible rfl
    rotate_left
    ·simp only [Act.put,List.setIfInBounds_toArray,List.set_cons_zero,List.set_cons_succ,i64_w,i32_w]
     rfl
    refine take_ (i := 3) (N := some 45) (v := ?_) (a' := ?_) #[true,true,true,true,true,false,true,false,false,false,false,false] rfl rfl (take_ofW HT_.out HW_.out (by kernel_rfl)) (fun _ _ _ h => h) (Or.inl ⟨by rfl,?_⟩) hHeld ?_ ?_
    rotate_left
    ·rintro w' ⟨s0,s1,s2,s3⟩
     go_simp
     with_reducible rfl
    rotate_left
    ·simp only [Act.put,List.setIfInBounds_toArray,List.set_cons_zero,List.set_cons_succ,i64_w,i32_w]
     rfl
    refine take_ (i := 5) (N := some 47) (v := ?_) (a' := ?_) #[true,true,true,true,true,true,true,false,false,false,false,false] rfl rfl (take_ofW HT_.out HW_.out (by kernel_rfl)) (fun _ _ _ h => h) (Or.inl ⟨by rfl,?_⟩) hHeld ?_ ?_
    rotate_left
    ·rintro w' ⟨s0,s1,s2,s3⟩
     go_simp
     with_reducible rfl
    rotate_left
    ·simp only [Act.put,List.setIfInBounds_toArray,List.set_cons_zero,List.set_cons_succ,i64_w,i32_w]
     rfl
    refine one_ (i := 7) (N := none) #[true,true,true,true,true,true,true,true,false,false,false,false] rfl rfl (one_of HT_.out (by kernel_rfl)) (by decide) (fun K hK => ?_)
    have hs35 : w34.cell? ⟨gb212,0,none⟩ = some (.int .i64 t206) := (blk_cell BK212.out 0).trans rfl
    have hfs35 := blk_frozen BK212.out 0
    have hns35_0 := NB210_212.out
    have hns35_1 := NB211_212.out
    have hms35_0 := NB212_210.out
    have hms35_1 := NB212_211.out
    refine skip_ (w1 := ?_) (by rfl) rfl ?_ ?_
    rotate_left
    ·go_simp
     rfl
    refine hK.out _ _ ⟨((cell_far (p := ⟨gb212,_,none⟩) NB210_212.out _).trans (hHeld.1)),((cell_far (p := ⟨gb212,_,none⟩) NB210_212.out _).trans (hHeld.2.1)),((cell_far (p := ⟨gb212,_,none⟩) NB210_212.out _).trans (hHeld.2.2.1)),((cell_far (p := ⟨gb212,_,none⟩) NB210_212.out _).trans (hHeld.2.2.2))⟩ (fun hHeld => ?_)
    clear hK K
    refine pure_ (i := 8) (N := some 49) (v := ?_) (a' := ?_) #[true,true,true,true,true,true,true,true,true,false,false,false] rfl rfl (any_of HT_.out (by kernel_rfl)) (fun _ _ _ h => h) (Or.inl ⟨by rfl,?_⟩) ?_ ?_
    rotate_left
    ·intro w'
     go_simp
     with_reducible rfl
    rotate_left
    ·simp only [Act.put,List.setIfInBounds_toArray,List.set_cons_zero,List.set_cons_succ,i64_w,i32_w]
     rfl
    refine one_ (i := 9) (N := none) #[true,true,true,true,true,true,true,true,true,true,false,false] rfl rfl (one_of HT_.out (by kernel_rfl)) (by decide) (fun K hK => ?_)
    have hs36 : w34.cell? ⟨gb212,1,none⟩ = some (.int .i64 t207) := (blk_cell BK212.out 1).trans rfl
    have hfs36 := blk_frozen BK212.out 1
    have hns36_0 := NB210_212.out
    have hns36_1 := NB211_212.out
    have hms36_0 := NB212_210.out
    have hms36_1 := NB212_211.out
    refine skip_ (w1 := ?_) (by rfl) rfl ?_ ?_
    rotate_left
    ·go_simp
     rfl
    refine hK.out _ _ ⟨((cell_far (p := ⟨gb212,_,none⟩) NB210_212.out _).trans (hHeld.1)),((cell_far (p := ⟨gb212,_,none⟩) NB210_212.out _).trans (hHeld.2.1)),((cell_far (p := ⟨gb212,_,none⟩) NB210_212.out _).trans (hHeld.2.2.1)),((cell_far (p := ⟨gb212,_,none⟩) NB210_212.out _).trans (hHeld.2.2.2))⟩ (fun hHeld => ?_)
    clear hK K
    refine pure_ (i := 10) (N := some 50) (v := ?_) (a' := ?_) #[true,true,true,true,true,true,true,true,true,true,true,false] rfl rfl (any_of HT_.out (by kernel_rfl)) (fun _ _ _ h => h) (Or.inl ⟨by rfl,?_⟩) ?_ ?_
    rotate_left
    ·intro w'
     go_simp
     with_reducible rfl
    rotate_left
    ·simp only [Act.put,List.setIfInBounds_toArray,List.set_cons_zero,List.set_cons_succ,i64_w,i32_w]
     rfl
    refine one_ (i := 11) (N := none) #[true,true,true,true,true,true,true,true,true,true,true,true] rfl rfl (one_of HT_.out (by kernel_rfl)) (by decide) (fun K hK => ?_)
    have hs37 : w34.cell? ⟨gb212,2,none⟩ = some (.int .i64 t208) := (blk_cell BK212.out 2).trans rfl
    have hfs37 := blk_frozen BK212.out 2
    have hns37_0 := NB210_212.out
    have hns37_1 := NB211_212.out
    have hms37_0 := NB212_210.out
    have hms37_1 := NB212_211.out
    refine skip_ (w1 := ?_) (by rfl) rfl ?_ ?_
    rotate_left
    ·go_simp
     rfl
    refine hK.out _ _ ⟨((cell_far (p := ⟨gb212,_,none⟩) NB210_212.out _).trans (hHeld.1)),((cell_far (p := ⟨gb212,_,none⟩) NB210_212.out _).trans (hHeld.2.1)),((cell_far (p := ⟨gb212,_,none⟩) NB210_212.out _).trans (hHeld.2.2.1)),((cell_far (p := ⟨gb212,_,none⟩) NB210_212.out _).trans (hHeld.2.2.2))⟩ (fun hHeld => ?_)
    clear hK K
    refine done_ (done_of HT_.out (by kernel_rfl)) ?_
    try go_wp2
    go_meet
    case rel => exact ⟨_,(t198),(t199),(t200),(t198),(t199),(t200),H',⟨by first | omega | exact Nat.le_refl _⟩,⟨by (with_reducible repeat (first | refine blk_drewN ?_ _ | refine blk_drew ?_ | refine blk_alloc ?_ _)); refine blk_far ?_ NB210_212.out _; (with_reducible repeat (first | refine blk_drewN ?_ _ | refine blk_drew ?_ | refine blk_alloc ?_ _)); refine blk_far ?_ NB210_212.out _; (with_reducible repeat (first | refine blk_drewN ?_ _ | refine blk_drew ?_ | refine blk_alloc ?_ _)); refine blk_far ?_ NB210_212.out _; (with_reducible repeat (first | refine blk_drewN ?_ _ | refine blk_drew ?_ | refine blk_alloc ?_ _)); exact BK210.out⟩,⟨by (with_reducible repeat (first | refine blk_drewN ?_ _ | refine blk_drew ?_ | refine blk_alloc ?_ _)); refine blk_far ?_ NB211_212.out _; (with_reducible repeat (first | refine blk_drewN ?_ _ | refine blk_drew ?_ | refine blk_alloc ?_ _)); refine blk_far ?_ NB211_212.out _; (with_reducible repeat (first | refine blk_drewN ?_ _ | refine blk_drew ?_ | refine blk_alloc ?_ _)); refine blk_far ?_ NB211_212.out _; (with_reducible repeat (first | refine blk_drewN ?_ _ | refine blk_drew ?_ | refine blk_alloc ?_ _)); exact BK211.out⟩,⟨by (with_reducible repeat (first | refine blk_drewN ?_ _ | refine blk_drew ?_ | refine blk_alloc ?_ _)); refine blk_put (cs := #[.int .i64 t198,.int .i64 t199,.int .i64 t208,.string t209]) ?_ 2 _ rfl; (with_reducible repeat (first | refine blk_drewN ?_ _ | refine blk_drew ?_ | refine blk_alloc ?_ _)); refine blk_put (cs := #[.int .i64 t198,.int .i64 t207,.int .i64 t208,.string t209]) ?_ 1 _ rfl; (with_reducible repeat (first | refine blk_drewN ?_ _ | refine blk_drew ?_ | refine blk_alloc ?_ _)); refine blk_put (cs := #[.int .i64 t206,.int .i64 t207,.int .i64 t208,.string t209]) ?_ 0 _ rfl; (with_reducible repeat (first | refine blk_drewN ?_ _ | refine blk_drew ?_ | refine blk_alloc ?_ _)); exact BK212.out⟩,⟨by repeat (first | (with_reducible first | exact HB.out | apply below_alloc | apply pw_below_drewN | apply below_drew1 | refine below_set ?_ GE210.out | refine below_set ?_ GE211.out | refine below_set ?_ GE212.out) | exact HB.out)⟩⟩
   ·rw [if_neg c27] at H
    have c27b0 : (t213 == 0) = false := beq_eq_false_iff_ne.mpr c27
    have c27b1 : (t213 != 0) = true := bne_iff_ne.mpr c27
    (first | rw [c27b0] | (simp only [i64_w,i32_w]; rw [c27b0]) | skip)
    have H' := Aside0.mk H
    clear H
    go_wp2
    go_meet
    case rel => exact ⟨_,(t202),(t203),(t204),(t206),(t207),(t208),H',⟨by first | omega | exact Nat.le_refl _⟩,⟨by (with_reducible repeat (first | refine blk_drewN ?_ _ | refine blk_drew ?_ | refine blk_alloc ?_ _)); refine blk_far ?_ NB210_212.out _; (with_reducible repeat (first | refine blk_drewN ?_ _ | refine blk_drew ?_ | refine blk_alloc ?_ _)); refine blk_far ?_ NB210_212.out _; (with_reducible repeat (first | refine blk_drewN ?_ _ | refine blk_drew ?_ | refine blk_alloc ?_ _)); refine blk_far ?_ NB210_212.out _; (with_reducible repeat (first | refine blk_drewN ?_ _ | refine blk_drew ?_ | refine blk_alloc ?_ _)); refine blk_far ?_ NB210_212.out _; (with_reducible repeat (first | refine blk_drewN ?_ _ | refine blk_drew ?_ | refine blk_alloc ?_ _)); refine blk_far ?_ NB210_211.out _; (with_reducible repeat (first | refine blk_drewN ?_ _ | refine blk_drew ?_ | refine blk_alloc ?_ _)); refine blk_far ?_ NB210_211.out _; (with_reducible repeat (first | refine blk_drewN ?_ _ | refine blk_drew ?_ | refine blk_alloc ?_ _)); refine blk_far ?_ NB210_211.out _; (with_reducible repeat (first | refine blk_drewN ?_ _ | refine blk_drew ?_ | refine blk_alloc ?_ _)); refine blk_far ?_ NB210_211.out _; (with_reducible repeat (first | refine blk_drewN ?_ _ | refine blk_drew ?_ | refine blk_alloc ?_ _)); refine blk_put (cs := #[.int .i64 t198,.int .i64 t199,.int .i64 t200,.string (⟨#[]⟩ : ByteArray)]) ?_ 3 _ rfl; (with_reducible repeat (first | refine blk_drewN ?_ _ | refine blk_drew ?_ | refine blk_alloc ?_ _)); refine blk_put (cs := #[.int .i64 t198,.int .i64 t199,.int .i64 0,.string (⟨#[]⟩ : ByteArray)]) ?_ 2 _ rfl; (with_reducible repeat (first | refine blk_drewN ?_ _ | refine blk_drew ?_ | refine blk_alloc ?_ _)); refine blk_put (cs := #[.int .i64 t198,.int .i64 0,.int .i64 0,.string (⟨#[]⟩ : ByteArray)]) ?_ 1 _ rfl; (with_reducible repeat (first | refine blk_drewN ?_ _ | refine blk_drew ?_ | refine blk_alloc ?_ _)); refine blk_put (cs := #[.int .i64 0,.int .i64 0,.int .i64 0,.string (⟨#[]⟩ : ByteArray)]) ?_ 0 _ rfl; (with_reducible repeat (first | refine blk_drewN ?_ _ | refine blk_drew ?_ | refine blk_alloc ?_ _)); exact BK210.out⟩,⟨by (with_reducible repeat (first | refine blk_drewN ?_ _ | refine blk_drew ?_ | refine blk_alloc ?_ _)); refine blk_far ?_ NB211_212.out _; (with_reducible repeat (first | refine blk_drewN ?_ _ | refine blk_drew ?_ | refine blk_alloc ?_ _)); refine blk_far ?_ NB211_212.out _; (with_reducible repeat (first | refine blk_drewN ?_ _ | refine blk_drew ?_ | refine blk_alloc ?_ _)); refine blk_far ?_ NB211_212.out _; (with_reducible repeat (first | refine blk_drewN ?_ _ | refine blk_drew ?_ | refine blk_alloc ?_ _)); refine blk_far ?_ NB211_212.out _; (with_reducible repeat (first | refine blk_drewN ?_ _ | refine blk_drew ?_ | refine blk_alloc ?_ _)); refine blk_put (cs := #[.int .i64 t202,.int .i64 t203,.int .i64 t204,.string (⟨#[]⟩ : ByteArray)]) ?_ 3 _ rfl; (with_reducible repeat (first | refine blk_drewN ?_ _ | refine blk_drew ?_ | refine blk_alloc ?_ _)); refine blk_put (cs := #[.int .i64 t202,.int .i64 t203,.int .i64 0,.string (⟨#[]⟩ : ByteArray)]) ?_ 2 _ rfl; (with_reducible repeat (first | refine blk_drewN ?_ _ | refine blk_drew ?_ | refine blk_alloc ?_ _)); refine blk_put (cs := #[.int .i64 t202,.int .i64 0,.int .i64 0,.string (⟨#[]⟩ : ByteArray)]) ?_ 1 _ rfl; (with_reducible repeat (first | refine blk_drewN ?_ _ | refine blk_drew ?_ | refine blk_alloc ?_ _)); refine blk_put (cs := #[.int .i64 0,.int .i64 0,.int .i64 0,.string (⟨#[]⟩ : ByteArray)]) ?_ 0 _ rfl; (with_reducible repeat (first | refine blk_drewN ?_ _ | refine blk_drew ?_ | refine blk_alloc ?_ _)); refine blk_far ?_ NB211_210.out _; (with_reducible repeat (first | refine blk_drewN ?_ _ | refine blk_drew ?_ | refine blk_alloc ?_ _)); refine blk_far ?_ NB211_210.out _; (with_reducible repeat (first | refine blk_drewN ?_ _ | refine blk_drew ?_ | refine blk_alloc ?_ _)); refine blk_far ?_ NB211_210.out _; (with_reducible repeat (first | refine blk_drewN ?_ _ | refine blk_drew ?_ | refine blk_alloc ?_ _)); refine blk_far ?_ NB211_210.out _; (with_reducible repeat (first | refine blk_drewN ?_ _ | refine blk_drew ?_ | refine blk_alloc ?_ _)); exact BK211.out⟩,⟨by (with_reducible repeat (first | refine blk_drewN ?_ _ | refine blk_drew ?_ | refine blk_alloc ?_ _)); refine blk_put (cs := #[.int .i64 t206,.int .i64 t207,.int .i64 t208,.string (⟨#[]⟩ : ByteArray)]) ?_ 3 _ rfl; (with_reducible repeat (first | refine blk_drewN ?_ _ | refine blk_drew ?_ | refine blk_alloc ?_ _)); refine blk_put (cs := #[.int .i64 t206,.int .i64 t207,.int .i64 0,.string (⟨#[]⟩ : ByteArray)]) ?_ 2 _ rfl; (with_reducible repeat (first | refine blk_drewN ?_ _ | refine blk_drew ?_ | refine blk_alloc ?_ _)); refine blk_put (cs := #[.int .i64 t206,.int .i64 0,.int .i64 0,.string (⟨#[]⟩ : ByteArray)]) ?_ 1 _ rfl; (with_reducible repeat (first | refine blk_drewN ?_ _ | refine blk_drew ?_ | refine blk_alloc ?_ _)); refine blk_put (cs := #[.int .i64 0,.int .i64 0,.int .i64 0,.string (⟨#[]⟩ : ByteArray)]) ?_ 0 _ rfl; (with_reducible repeat (first | refine blk_drewN ?_ _ | refine blk_drew ?_ | refine blk_alloc ?_ _)); refine blk_far ?_ NB212_211.out _; (with_reducible repeat (first | refine blk_drewN ?_ _ | refine blk_drew ?_ | refine blk_alloc ?_ _)); refine blk_far ?_ NB212_211.out _; (with_reducible repeat (first | refine blk_drewN ?_ _ | refine blk_drew ?_ | refine blk_alloc ?_ _)); refine blk_far ?_ NB212_211.out _; (with_reducible repeat (first | refine blk_drewN ?_ _ | refine blk_drew ?_ | refine blk_alloc ?_ _)); refine blk_far ?_ NB212_211.out _; (with_reducible repeat (first | refine blk_drewN ?_ _ | refine blk_drew ?_ | refine blk_alloc ?_ _)); refine blk_far ?_ NB212_210.out _; (with_reducible repeat (first | refine blk_drewN ?_ _ | refine blk_drew ?_ | refine blk_alloc ?_ _)); refine blk_far ?_ NB212_210.out _; (with_reducible repeat (first | refine blk_drewN ?_ _ | refine blk_drew ?_ | refine blk_alloc ?_ _)); refine blk_far ?_ NB212_210.out _; (with_reducible repeat (first | refine blk_drewN ?_ _ | refine blk_drew ?_ | refine blk_alloc ?_ _)); refine blk_far ?_ NB212_210.out _; (with_reducible repeat (first | refine blk_drewN ?_ _ | refine blk_drew ?_ | refine blk_alloc ?_ _)); exact BK212.out⟩,⟨by repeat (first | (with_reducible first | exact HB.out | apply below_alloc | apply pw_below_drewN | apply below_drew1 | refine below_set ?_ GE210.out | refine below_set ?_ GE211.out | refine below_set ?_ GE212.out) | exact HB.out)⟩⟩
  case rest =>
   clear HC13
   try clear c1
   try clear c2
   try clear p2
   try clear c5
   try clear c8
   try clear c10
   try clear c12
   try clear c13
   try clear c21
   try clear c22
   try clear c24
   try clear c27
   try clear c27b0
   try clear c27b1
   try clear hcz23_0
   try clear hcz23_1
   try clear hcz23_2
   try clear hcz23_3
   try clear hcz25_0
   try clear hcz25_1
   try clear hcz25_2
   try clear hcz25_3
   try clear hcz26_0
   try clear hcz26_1
   try clear hcz26_2
   try clear hcz26_3
   try clear hfz23_0
   try clear hfz23_1
   try clear hfz23_2
   try clear hfz23_3
   try clear hfz25_0
   try clear hfz25_1
   try clear hfz25_2
   try clear hfz25_3
   try clear hfz26_0
   try clear hfz26_1
   try clear hfz26_2
   try clear hfz26_3
   obtain ⟨kq,x212000_12,x212001_12,x212002_12,x213000_12,x213001_12,x213002_12,HA,HJ12,BK210,BK211,BK212,HB⟩ := hcut
   cases kq with
   | zero => exact absurd HA.out (by simp [transhumancelaw2_VerOrder.j0])
   | succ kj12 =>
    have H := HA.out
    clear HA
    simp only [transhumancelaw2_VerOrder.j0] at H
    replace H := Option.bind_eq_some_iff.mp H
    obtain ⟨t214,A380,H⟩ := H
    replace H : ((ver_Cmp.f kj12 x212000_12 x212001_12 x212002_12 t205 x213000_12 x213001_12 x213002_12 t209).bind fun t215 => ((ver_Cmp.f kj12 t198 t199 t200 t201 x213000_12 x213001_12 x213002_12 t209).bind fun t216 => ((transhumanceref2_Cmp.f kj12 t198 t199 t200 t201 x212000_12 x212001_12 x212002_12 t205).bind fun t217 => (if t214 = t217 then ((transhumanceref2_Cmp.f kj12 x212000_12 x212001_12 x212002_12 t205 x213000_12 x213001_12 x213002_12 t209).bind fun t218 => (if t215 = t218 then ((transhumanceref2_Cmp.f kj12 t198 t199 t200 t201 x213000_12 x213001_12 x213002_12 t209).bind fun t219 => (if t216 = t219 then ((ver_Cmp.f kj12 x212000_12 x212001_12 x212002_12 t205 t198 t199 t200 t201).bind fun t220 => (if t220 = (wrap64 (-t214)) then (if ((t214 == 0) != (t198 == x212000_12 && (t199 == x212001_12 && (t200 == x212002_12 && (t201.toList == t205.toList))))) = true then (some false) else (if t214 ≤ 0 then (if t215 ≤ 0 then (some (decide (t216 ≤ 0))) else (some true)) else (some true))) else (some false))) else (some false))) else (some false))) else (some false))))) = some r := H
    have A38 := Aside0.mk A380
    clear A380
    replace H := Option.bind_eq_some_iff.mp H
    obtain ⟨t215,A390,H⟩ := H
    replace H : ((ver_Cmp.f kj12 t198 t199 t200 t201 x213000_12 x213001_12 x213002_12 t209).bind fun t216 => ((transhumanceref2_Cmp.f kj12 t198 t199 t200 t201 x212000_12 x212001_12 x212002_12 t205).bind fun t217 => (if t214 = t217 then ((transhumanceref2_Cmp.f kj12 x212000_12 x212001_12 x212002_12 t205 x213000_12 x213001_12 x213002_12 t209).bind fun t218 => (if t215 = t218 then ((transhumanceref2_Cmp.f kj12 t198 t199 t200 t201 x213000_12 x213001_12 x213002_12 t209).bind fun t219 => (if t216 = t219 then ((ver_Cmp.f kj12 x212000_12 x212001_12 x212002_12 t205 t198 t199 t200 t201).bind fun t220 => (if t220 = (wrap64 (-t214)) then (if ((t214 == 0) != (t198 == x212000_12 && (t199 == x212001_12 && (t200 == x212002_12 && (t201.toList == t205.toList))))) = true then (some false) else (if t214 ≤ 0 then (if t215 ≤ 0 then (some (decide (t216 ≤ 0))) else (some true)) else (some true))) else (some false))) else (some false))) else (some false))) else (some false)))) = some r := H
    have A39 := Aside0.mk A390
    clear A390
    replace H := Option.bind_eq_some_iff.mp H
    obtain ⟨t216,A400,H⟩ := H
    replace H : ((transhumanceref2_Cmp.f kj12 t198 t199 t200 t201 x212000_12 x212001_12 x212002_12 t205).bind fun t217 => (if t214 = t217 then ((transhumanceref2_Cmp.f kj12 x212000_12 x212001_12 x212002_12 t205 x213000_12 x213001_12 x213002_12 t209).bind fun t218 => (if t215 = t218 then ((transhumanceref2_Cmp.f kj12 t198 t199 t200 t201 x213000_12 x213001_12 x213002_12 t209).bind fun t219 => (if t216 = t219 then ((ver_Cmp.f kj12 x212000_12 x212001_12 x212002_12 t205 t198 t199 t200 t201).bind fun t220 => (if t220 = (wrap64 (-t214)) then (if ((t214 == 0) != (t198 == x212000_12 && (t199 == x212001_12 && (t200 == x212002_12 && (t201.toList == t205.toList))))) = true then (some false) else (if t214 ≤ 0 then (if t215 ≤ 0 then (some (decide (t216 ≤ 0))) else (some true)) else (some true))) else (some false))) else (some false))) else (some false))) else (some false))) = some r := H
    have A40 := Aside0.mk A400
    clear A400
    replace H := Option.bind_eq_some_iff.mp H
    obtain ⟨t217,A410,H⟩ := H
    replace H : (if t214 = t217 then ((transhumanceref2_Cmp.f kj12 x212000_12 x212001_12 x212002_12 t205 x213000_12 x213001_12 x213002_12 t209).bind fun t218 => (if t215 = t218 then ((transhumanceref2_Cmp.f kj12 t198 t199 t200 t201 x213000_12 x213001_12 x213002_12 t209).bind fun t219 => (if t216 = t219 then ((ver_Cmp.f kj12 x212000_12 x212001_12 x212002_12 t205 t198 t199 t200 t201).bind fun t220 => (if t220 = (wrap64 (-t214)) then (if ((t214 == 0) != (t198 == x212000_12 && (t199 == x212001_12 && (t200 == x212002_12 && (t201.toList == t205.toList))))) = true then (some false) else (if t214 ≤ 0 then (if t215 ≤ 0 then (some (decide (t216 ≤ 0))) else (some true)) else (some true))) else (some false))) else (some false))) else (some false))) else (some false)) = some r := H
    have A41 := Aside0.mk A410
    clear A410
    by_cases c42 : t214 = t217
    ·rw [if_pos c42] at H
     have c42b0 : (t214 == t217) = true := beq_iff_eq.mpr c42
     have c42b1 : (t214 != t217) = false := bne_eq_false_iff_eq.mpr c42
     clear c42
     replace H := Option.bind_eq_some_iff.mp H
     obtain ⟨t218,A430,H⟩ := H
     replace H : (if t215 = t218 then ((transhumanceref2_Cmp.f kj12 t198 t199 t200 t201 x213000_12 x213001_12 x213002_12 t209).bind fun t219 => (if t216 = t219 then ((ver_Cmp.f kj12 x212000_12 x212001_12 x212002_12 t205 t198 t199 t200 t201).bind fun t220 => (if t220 = (wrap64 (-t214)) then (if ((t214 == 0) != (t198 == x212000_12 && (t199 == x212001_12 && (t200 == x212002_12 && (t201.toList == t205.toList))))) = true then (some false) else (if t214 ≤ 0 then (if t215 ≤ 0 then (some (decide (t216 ≤ 0))) else (some true)) else (some true))) else (some false))) else (some false))) else (some false)) = some r := H
     have A43 := Aside0.mk A430
     clear A430
     by_cases c44 : t215 = t218
     ·rw [if_pos c44] at H
      have c44b0 : (t215 == t218) = true := beq_iff_eq.mpr c44
      have c44b1 : (t215 != t218) = false := bne_eq_false_iff_eq.mpr c44
      clear c44
      replace H := Option.bind_eq_some_iff.mp H
      obtain ⟨t219,A450,H⟩ := H
      replace H : (if t216 = t219 then ((ver_Cmp.f kj12 x212000_12 x212001_12 x212002_12 t205 t198 t199 t200 t201).bind fun t220 => (if t220 = (wrap64 (-t214)) then (if ((t214 == 0) != (t198 == x212000_12 && (t199 == x212001_12 && (t200 == x212002_12 && (t201.toList == t205.toList))))) = true then (some false) else (if t214 ≤ 0 then (if t215 ≤ 0 then (some (decide (t216 ≤ 0))) else (some true)) else (some true))) else (some false))) else (some false)) = some r := H
      have A45 := Aside0.mk A450
      clear A450
      by_cases c46 : t216 = t219
      ·rw [if_pos c46] at H
       have c46b0 : (t216 == t219) = true := beq_iff_eq.mpr c46
       have c46b1 : (t216 != t219) = false := bne_eq_false_iff_eq.mpr c46
       clear c46
       replace H := Option.bind_eq_some_iff.mp H
       obtain ⟨t220,A470,H⟩ := H
       replace H : (if t220 = (wrap64 (-t214)) then (if ((t214 == 0) != (t198 == x212000_12 && (t199 == x212001_12 && (t200 == x212002_12 && (t201.toList == t205.toList))))) = true then (some false) else (if t214 ≤ 0 then (if t215 ≤ 0 then (some (decide (t216 ≤ 0))) else (some true)) else (some true))) else (some false)) = some r := H
       have A47 := Aside0.mk A470
       clear A470
       by_cases c48 : t220 = (wrap64 (-t214))
       ·rw [if_pos c48] at H
        have c48b0 : (t220 == (wrap64 (-t214))) = true := beq_iff_eq.mpr c48
        have c48b1 : (t220 != (wrap64 (-t214))) = false := bne_eq_false_iff_eq.mpr c48
        clear c48
        by_cases c49 : ((t214 == 0) != (t198 == x212000_12 && (t199 == x212001_12 && (t200 == x212002_12 && (t201.toList == t205.toList))))) = true
        ·rw [if_pos c49] at H
         have c49b0 : ((t214 == 0) != (t198 == x212000_12 && (t199 == x212001_12 && (t200 == x212002_12 && (t201.toList == t205.toList))))) = true := c49
         (try (have c49b1 : decide ((t214 == 0) = (t198 == x212000_12 && (t199 == x212001_12 && (t200 == x212002_12 && (t201.toList == t205.toList))))) = false := by simpa using c49))
         (try (have c49b2 : ((t214 == 0) == (t198 == x212000_12 && (t199 == x212001_12 && (t200 == x212002_12 && (t201.toList == t205.toList))))) = false := by simpa using c49))
         (try (have c49b3 : ¬ ((t214 == 0) = (t198 == x212000_12 && (t199 == x212001_12 && (t200 == x212002_12 && (t201.toList == t205.toList))))) := by simpa using c49))
         clear c49
         obtain rfl := Option.some.inj H
         try go_wp2
         have n0_ := Aside0.mk (blk_drew BK210.out)
         have n1_ := Aside0.mk (blk_drew BK211.out)
         have n2_ := Aside0.mk (blk_drew BK212.out)
         have n3_ := Aside0.mk (below_drew1 HB.out)
         clear BK210
         clear BK211
         clear BK212
         clear HB
         have BK210 := n0_
         have BK211 := n1_
         have BK212 := n2_
         have HB := n3_
         clear n0_ n1_ n2_ n3_
         refine start_ (n := 12) (S := fun w' => w'.cell? ⟨gb210,0,none⟩ = some (.int .i64 t198) ∧ w'.cell? ⟨gb210,1,none⟩ = some (.int .i64 t199) ∧ w'.cell? ⟨gb210,2,none⟩ = some (.int .i64 t200) ∧ w'.cell? ⟨gb210,3,none⟩ = some (.string t201) ∧ w'.cell? ⟨gb211,0,none⟩ = some (.int .i64 x212000_12) ∧ w'.cell? ⟨gb211,1,none⟩ = some (.int .i64 x212001_12) ∧ w'.cell? ⟨gb211,2,none⟩ = some (.int .i64 x212002_12) ∧ w'.cell? ⟨gb211,3,none⟩ = some (.string t205) ∧ w'.cell? ⟨gb212,0,none⟩ = some (.int .i64 x213000_12) ∧ w'.cell? ⟨gb212,1,none⟩ = some (.int .i64 x213001_12) ∧ w'.cell? ⟨gb212,2,none⟩ = some (.int .i64 x213002_12) ∧ w'.cell? ⟨gb212,3,none⟩ = some (.string t209)) (ds := []) #[false,false,false,false,false,false,false,false,false,false,false,false] (by kernel_rfl) rfl rfl ⟨(blk_cell BK210.out 0).trans rfl,(blk_cell BK210.out 1).trans rfl,(blk_cell BK210.out 2).trans rfl,(blk_cell BK210.out 3).trans rfl,(blk_cell BK211.out 0).trans rfl,(blk_cell BK211.out 1).trans rfl,(blk_cell BK211.out 2).trans rfl,(blk_cell BK211.out 3).trans rfl,(blk_cell BK212.out 0).trans rfl,(blk_cell BK212.out 1).trans rfl,(blk_cell BK212.out 2).trans rfl,(blk_cell BK212.out 3).trans rfl⟩ (fun hHeld => ?_); refine with_tabW transhumancelaw2_VerOrder.tab7 transhumancelaw2_VerOrder.bits7 (fun HT_ HW_ => ?_)
         generalize wc.drew = w50 at BK210 BK211 BK212 HB hHeld ⊢
         refine take_ (i := 0) (N := some 51) (v := ?_) (a' := ?_) #[true,false,false,false,false,false,false,false,false,false,false,false] rfl rfl (take_ofW HT_.out HW_.out (by kernel_rfl)) (fun _ _ _ h => h) (Or.inl ⟨by rfl,?_⟩) hHeld ?_ ?_
         rotate_left
         ·rintro w' ⟨s0,s1,s2,s3,s4,s5,s6,s7,s8,s9,s10,s11⟩
          go_simp
          with_reducible rfl
         rotate_left
         ·simp only [Act.put,List.setIfInBounds_toArray,List.set_cons_zero,List.set_cons_succ,i64_w,i32_w]
          rfl
         refine take_ (i := 1) (N := some 52) (v := ?_) (a' := ?_) #[true,true,false,false,false,false,false,false,false,false,false,false] rfl rfl (take_ofW HT_.out HW_.out (by kernel_rfl)) (fun _ _ _ h => h) (Or.inl ⟨by rfl,?_⟩) hHeld ?_ ?_
         rotate_left
         ·rintro w' ⟨s0,s1,s2,s3,s4,s5,s6,s7,s8,s9,s10,s11⟩
          go_simp
          with_reducible rfl
         rotate_left
         ·simp only [Act.put,List.setIfInBounds_toArray,List.set_cons_zero,List.set_cons_succ,i64_w,i32_w]
          rfl
         refine take_ (i := 3) (N := some 54) (v := ?_) (a' := ?_) #[true,true,false,true,false,false,false,false,false,false,false,false] rfl rfl (take_ofW HT_.out HW_.out (by kernel_rfl)) (fun _ _ _ h => h) (Or.inl ⟨by rfl,?_⟩) hHeld ?_ ?_
         rotate_left
         ·rintro w' ⟨s0,s1,s2,s3,s4,s5,s6,s7,s8,s9,s10,s11⟩
          go_simp
          with_reducible rfl
         rotate_left
         ·simp only [Act.put,List.setIfInBounds_toArray,List.set_cons_zero,List.set_cons_succ,i64_w,i32_w]
          rfl
         refine take_ (i := 4) (N := some 55) (v := ?_) (a' := ?_) #[true,true,false,true,true,false,false,false,false,false,false,false] rfl rfl (take_ofW HT_.out HW_.out (by kernel_rfl)) (fun _ _ _ h => h) (Or.inl ⟨by rfl,?_⟩) hHeld ?_ ?_
         rotate_left
         ·rintro w' ⟨s0,s1,s2,s3,s4,s5,s6,s7,s8,s9,s10,s11⟩
          go_simp
          with_reducible rfl
         rotate_left
         ·simp only [Act.put,List.setIfInBounds_toArray,List.set_cons_zero,List.set_cons_succ,i64_w,i32_w]
          rfl
         refine take_ (i := 6) (N := some 57) (v := ?_) (a' := ?_) #[true,true,false,true,true,false,true,false,false,false,false,false] rfl rfl (take_ofW HT_.out HW_.out (by kernel_rfl)) (fun _ _ _ h => h) (Or.inl ⟨by rfl,?_⟩) hHeld ?_ ?_
         rotate_left
         ·rintro w' ⟨s0,s1,s2,s3,s4,s5,s6,s7,s8,s9,s10,s11⟩
          go_simp
          with_reducible rfl
         rotate_left
         ·simp only [Act.put,List.setIfInBounds_toArray,List.set_cons_zero,List.set_cons_succ,i64_w,i32_w]
          rfl
         refine take_ (i := 7) (N := some 58) (v := ?_) (a' := ?_) #[true,true,false,true,true,false,true,true,false,false,false,false] rfl rfl (take_ofW HT_.out HW_.out (by kernel_rfl)) (fun _ _ _ h => h) (Or.inl ⟨by rfl,?_⟩) hHeld ?_ ?_
         rotate_left
         ·rintro w' ⟨s0,s1,s2,s3,s4,s5,s6,s7,s8,s9,s10,s11⟩
          go_simp
          with_reducible rfl
         rotate_left
         ·simp only [Act.put,List.setIfInBounds_toArray,List.set_cons_zero,List.set_cons_succ,i64_w,i32_w]
          rfl
         refine one_ (i := 2) (N := some 53) #[true,true,true,true,true,false,true,true,false,false,false,false] rfl rfl (one_of HT_.out (by kernel_rfl)) (by decide) (fun K hK => ?_)
         refine goes_ Tryz.func19 (by kernel_rfl) rfl #[.agg #[.int .i64 t198,.int .i64 t199,.int .i64 t200,.string t201],.agg #[.int .i64 x212000_12,.int .i64 x212001_12,.int .i64 x212002_12,.string t205]] (by rfl) rfl rfl (by (try simp only [List.map_toArray,List.map_cons,List.map_nil]); first | done | rfl | (simp only [List.length_drop,List.length_take]; rfl)) ?_
         with_reducible refine (ver_Cmp.calls kj12 t198 t199 t200 t201 x212000_12 x212001_12 x212002_12 t205 t214 _ ?side1 A38.out).mono ?_
         (case side1 => exact GL.below0 hG (by repeat (first | (with_reducible first | exact HB.out | apply below_alloc | apply pw_below_drewN | apply below_drew1 | refine below_set ?_ GE210.out | refine below_set ?_ GE211.out | refine below_set ?_ GE212.out) | exact HB.out)))
         rintro e w51 ⟨rfl,hb⟩
         refine ⟨_,rfl,?_⟩
         have n0_ := Aside0.mk (blk_below (g := gb210) (o := .cells #[.int .i64 t198,.int .i64 t199,.int .i64 t200,.string t201] 25 (0,0)) (by (with_reducible repeat (first | refine blk_drewN ?_ _ | refine blk_drew ?_ | refine blk_alloc ?_ _)); exact BK210.out) hb)
         have n1_ := Aside0.mk (blk_below (g := gb211) (o := .cells #[.int .i64 x212000_12,.int .i64 x212001_12,.int .i64 x212002_12,.string t205] 25 (0,0)) (by (with_reducible repeat (first | refine blk_drewN ?_ _ | refine blk_drew ?_ | refine blk_alloc ?_ _)); exact BK211.out) hb)
         have n2_ := Aside0.mk (blk_below (g := gb212) (o := .cells #[.int .i64 x213000_12,.int .i64 x213001_12,.int .i64 x213002_12,.string t209] 25 (0,0)) (by (with_reducible repeat (first | refine blk_drewN ?_ _ | refine blk_drew ?_ | refine blk_alloc ?_ _)); exact BK212.out) hb)
         have n3_ := Aside0.mk (below_step (by repeat (first | (with_reducible first | exact HB.out | apply below_alloc | apply pw_below_drewN | apply below_drew1 | refine below_set ?_ GE210.out | refine below_set ?_ GE211.out | refine below_set ?_ GE212.out) | exact HB.out)) hb)
         clear BK210
         clear BK211
         clear BK212
         clear HB
         have BK210 := n0_
         have BK211 := n1_
         have BK212 := n2_
         have HB := n3_
         clear n0_ n1_ n2_ n3_
         (try clear hb)
         (try clear hb2)
         (try clear hk)
         (try clear hi)
         refine hK.out _ _ ⟨(blk_cell BK210.out 0).trans rfl,(blk_cell BK210.out 1).trans rfl,(blk_cell BK210.out 2).trans rfl,(blk_cell BK210.out 3).trans rfl,(blk_cell BK211.out 0).trans rfl,(blk_cell BK211.out 1).trans rfl,(blk_cell BK211.out 2).trans rfl,(blk_cell BK211.out 3).trans rfl,(blk_cell BK212.out 0).trans rfl,(blk_cell BK212.out 1).trans rfl,(blk_cell BK212.out 2).trans rfl,(blk_cell BK212.out 3).trans rfl⟩ (fun hHeld => ?_)
         clear hK K
         refine norm_ (a' := ?_) ?_ ?_
         rotate_left
         ·show Act.put _ (some 53) _ = _
          simp only [Act.put,List.setIfInBounds_toArray,List.set_cons_zero,List.set_cons_succ,i64_w,i32_w]
          rfl
         refine one_ (i := 5) (N := some 56) #[true,true,true,true,true,true,true,true,false,false,false,false] rfl rfl (one_of HT_.out (by kernel_rfl)) (by decide) (fun K hK => ?_)
         refine goes_ Tryz.func19 (by kernel_rfl) rfl #[.agg #[.int .i64 x212000_12,.int .i64 x212001_12,.int .i64 x212002_12,.string t205],.agg #[.int .i64 x213000_12,.int .i64 x213001_12,.int .i64 x213002_12,.string t209]] (by rfl) rfl rfl (by (try simp only [List.map_toArray,List.map_cons,List.map_nil]); first | done | rfl | (simp only [List.length_drop,List.length_take]; rfl)) ?_
         with_reducible refine (ver_Cmp.calls kj12 x212000_12 x212001_12 x212002_12 t205 x213000_12 x213001_12 x213002_12 t209 t215 _ ?side1 A39.out).mono ?_
         (case side1 => exact GL.below0 hG (by repeat (first | (with_reducible first | exact HB.out | apply below_alloc | apply pw_below_drewN | apply below_drew1 | refine below_set ?_ GE210.out | refine below_set ?_ GE211.out | refine below_set ?_ GE212.out) | exact HB.out)))
         rintro e w52 ⟨rfl,hb⟩
         refine ⟨_,rfl,?_⟩
         have n0_ := Aside0.mk (blk_below (g := gb210) (o := .cells #[.int .i64 t198,.int .i64 t199,.int .i64 t200,.string t201] 25 (0,0)) (by (with_reducible repeat (first | refine blk_drewN ?_ _ | refine blk_drew ?_ | refine blk_alloc ?_ _)); exact BK210.out) hb)
         have n1_ := Aside0.mk (blk_below (g := gb211) (o := .cells #[.int .i64 x212000_12,.int .i64 x212001_12,.int .i64 x212002_12,.string t205] 25 (0,0)) (by (with_reducible repeat (first | refine blk_drewN ?_ _ | refine blk_drew ?_ | refine blk_alloc ?_ _)); exact BK211.out) hb)
         have n2_ := Aside0.mk (blk_below (g := gb212) (o := .cells #[.int .i64 x213000_12,.int .i64 x213001_12,.int .i64 x213002_12,.string t209] 25 (0,0)) (by (with_reducible repeat (first | refine blk_drewN ?_ _ | refine blk_drew ?_ | refine blk_alloc ?_ _)); exact BK212.out) hb)
         have n3_ := Aside0.mk (below_step (by repeat (first | (with_reducible first | exact HB.out | apply below_alloc | apply pw_below_drewN | apply below_drew1 | refine below_set ?_ GE210.out | refine below_set ?_ GE211.out | refine below_set ?_ GE212.out) | exact HB.out)) hb)
         clear BK210
         clear BK211
         clear BK212
         clear HB
         have BK210 := n0_
         have BK211 := n1_
         have BK212 := n2_
         have HB := n3_
         clear n0_ n1_ n2_ n3_
         (try clear hb)
         (try clear hb2)
         (try clear hk)
         (try clear hi)
         refine hK.out _ _ ⟨(blk_cell BK210.out 0).trans rfl,(blk_cell BK210.out 1).trans rfl,(blk_cell BK210.out 2).trans rfl,(blk_cell BK210.out 3).trans rfl,(blk_cell BK211.out 0).trans rfl,(blk_cell BK211.out 1).trans rfl,(blk_cell BK211.out 2).trans rfl,(blk_cell BK211.out 3).trans rfl,(blk_cell BK212.out 0).trans rfl,(blk_cell BK212.out 1).trans rfl,(blk_cell BK212.out 2).trans rfl,(blk_cell BK212.out 3).trans rfl⟩ (fun hHeld => ?_)
         clear hK K
         refine norm_ (a' := ?_) ?_ ?_
         rotate_left
         ·show Act.put _ (some 56) _ = _
          simp only [Act.put,List.setIfInBounds_toArray,List.set_cons_zero,List.set_cons_succ,i64_w,i32_w]
          rfl
         refine one_ (i := 8) (N := some 59) #[true,true,true,true,true,true,true,true,true,false,false,false] rfl rfl (one_of HT_.out (by kernel_rfl)) (by decide) (fun K hK => ?_)
         refine goes_ Tryz.func19 (by kernel_rfl) rfl #[.agg #[.int .i64 t198,.int .i64 t199,.int .i64 t200,.string t201],.agg #[.int .i64 x213000_12,.int .i64 x213001_12,.int .i64 x213002_12,.string t209]] (by rfl) rfl rfl (by (try simp only [List.map_toArray,List.map_cons,List.map_nil]); first | done | rfl | (simp only [List.length_drop,List.length_take]; rfl)) ?_
         with_reducible refine (ver_Cmp.calls kj12 t198 t199 t200 t201 x213000_12 x213001_12 x213002_12 t209 t216 _ ?side1 A40.out).mono ?_
         (case side1 => exact GL.below0 hG (by repeat (first | (with_reducible first | exact HB.out | apply below_alloc | apply pw_below_drewN | apply below_drew1 | refine below_set ?_ GE210.out | refine below_set ?_ GE211.out | refine below_set ?_ GE212.out) | exact HB.out)))
         rintro e w53 ⟨rfl,hb⟩
         refine ⟨_,rfl,?_⟩
         have n0_ := Aside0.mk (blk_below (g := gb210) (o := .cells #[.int .i64 t198,.int .i64 t199,.int .i64 t200,.string t201] 25 (0,0)) (by (with_reducible repeat (first | refine blk_drewN ?_ _ | refine blk_drew ?_ | refine blk_alloc ?_ _)); exact BK210.out) hb)
         have n1_ := Aside0.mk (blk_below (g := gb211) (o := .cells #[.int .i64 x212000_12,.int .i64 x212001_12,.int .i64 x212002_12,.string t205] 25 (0,0)) (by (with_reducible repeat (first | refine blk_drewN ?_ _ | refine blk_drew ?_ | refine blk_alloc ?_ _)); exact BK211.out) hb)
         have n2_ := Aside0.mk (blk_below (g := gb212) (o := .cells #[.int .i64 x213000_12,.int .i64 x213001_12,.int .i64 x213002_12,.string t209] 25 (0,0)) (by (with_reducible repeat (first | refine blk_drewN ?_ _ | refine blk_drew ?_ | refine blk_alloc ?_ _)); exact BK212.out) hb)
         have n3_ := Aside0.mk (below_step (by repeat (first | (with_reducible first | exact HB.out | apply below_alloc | apply pw_below_drewN | apply below_drew1 | refine below_set ?_ GE210.out | refine below_set ?_ GE211.out | refine below_set ?_ GE212.out) | exact HB.out)) hb)
         clear BK210
         clear BK211
         clear BK212
         clear HB
         have BK210 := n0_
         have BK211 := n1_
         have BK212 := n2_
         have HB := n3_
         clear n0_ n1_ n2_ n3_
         (try clear hb)
         (try clear hb2)
         (try clear hk)
         (try clear hi)
         refine hK.out _ _ ⟨(blk_cell BK210.out 0).trans rfl,(blk_cell BK210.out 1).trans rfl,(blk_cell BK210.out 2).trans rfl,(blk_cell BK210.out 3).trans rfl,(blk_cell BK211.out 0).trans rfl,(blk_cell BK211.out 1).trans rfl,(blk_cell BK211.out 2).trans rfl,(blk_cell BK211.out 3).trans rfl,(blk_cell BK212.out 0).trans rfl,(blk_cell BK212.out 1).trans rfl,(blk_cell BK212.out 2).trans rfl,(blk_cell BK212.out 3).trans rfl⟩ (fun hHeld => ?_)
         clear hK K
         refine norm_ (a' := ?_) ?_ ?_
         rotate_left
         ·show Act.put _ (some 59) _ = _
          simp only [Act.put,List.setIfInBounds_toArray,List.set_cons_zero,List.set_cons_succ,i64_w,i32_w]
          rfl
         refine pure_ (i := 9) (N := some 16) (v := ?_) (a' := ?_) #[true,true,true,true,true,true,true,true,true,true,false,false] rfl rfl (any_of HT_.out (by kernel_rfl)) (fun _ _ _ h => h) (Or.inl ⟨by rfl,?_⟩) ?_ ?_
         rotate_left
         ·intro w'
          go_simp
          with_reducible rfl
         rotate_left
         ·simp only [Act.put,List.setIfInBounds_toArray,List.set_cons_zero,List.set_cons_succ,i64_w,i32_w]
          rfl
         refine pure_ (i := 10) (N := some 17) (v := ?_) (a' := ?_) #[true,true,true,true,true,true,true,true,true,true,true,false] rfl rfl (any_of HT_.out (by kernel_rfl)) (fun _ _ _ h => h) (Or.inl ⟨by rfl,?_⟩) ?_ ?_
         rotate_left
         ·intro w'
          go_simp
          with_reducible rfl
         rotate_left
         ·simp only [Act.put,List.setIfInBounds_toArray,List.set_cons_zero,List.set_cons_succ,i64_w,i32_w]
          rfl
         refine pure_ (i := 11) (N := some 18) (v := ?_) (a' := ?_) #[true,true,true,true,true,true,true,true,true,true,true,true] rfl rfl (any_of HT_.out (by kernel_rfl)) (fun _ _ _ h => h) (Or.inl ⟨by rfl,?_⟩) ?_ ?_
         rotate_left
         ·intro w'
          go_simp
          with_reducible rfl
         rotate_left
         ·simp only [Act.put,List.setIfInBounds_toArray,List.set_cons_zero,List.set_cons_succ,i64_w,i32_w]
          rfl
         refine done_ (done_of HT_.out (by kernel_rfl)) ?_
         have hnb54 := NB210_211.out
         have hnc54 := NB211_210.out
         have hnb55 := NB210_212.out
         have hnc55 := NB212_210.out
         have hcz56_0 : w53.cell? ⟨gb210,0,none⟩ = some (.int .i64 t198) := (blk_cell BK210.out 0).trans rfl
         have hcz56_1 : w53.cell? ⟨gb210,1,none⟩ = some (.int .i64 t199) := (blk_cell BK210.out 1).trans rfl
         have hcz56_2 : w53.cell? ⟨gb210,2,none⟩ = some (.int .i64 t200) := (blk_cell BK210.out 2).trans rfl
         have hcz56_3 : w53.cell? ⟨gb210,3,none⟩ = some (.string t201) := (blk_cell BK210.out 3).trans rfl
         have hfz56_0 := blk_frozen BK210.out 0
         have hfz56_1 := blk_frozen BK210.out 1
         have hfz56_2 := blk_frozen BK210.out 2
         have hfz56_3 := blk_frozen BK210.out 3
         have hnb57 := NB211_212.out
         have hnc57 := NB212_211.out
         have hcz58_0 : w53.cell? ⟨gb211,0,none⟩ = some (.int .i64 x212000_12) := (blk_cell BK211.out 0).trans rfl
         have hcz58_1 : w53.cell? ⟨gb211,1,none⟩ = some (.int .i64 x212001_12) := (blk_cell BK211.out 1).trans rfl
         have hcz58_2 : w53.cell? ⟨gb211,2,none⟩ = some (.int .i64 x212002_12) := (blk_cell BK211.out 2).trans rfl
         have hcz58_3 : w53.cell? ⟨gb211,3,none⟩ = some (.string t205) := (blk_cell BK211.out 3).trans rfl
         have hfz58_0 := blk_frozen BK211.out 0
         have hfz58_1 := blk_frozen BK211.out 1
         have hfz58_2 := blk_frozen BK211.out 2
         have hfz58_3 := blk_frozen BK211.out 3
         try go_wp2_with (first | ((with_reducible refine gate_callee (f := 20) rfl ?_); refine goesL_ (some 63) rfl rfl Tryz.func20 (by kernel_rfl) rfl #[.agg #[.int .i64 t198,.int .i64 t199,.int .i64 t200,.string t201],.agg #[.int .i64 x212000_12,.int .i64 x212001_12,.int .i64 x212002_12,.string t205]] rfl (by (try simp only [List.map_toArray,List.map_cons,List.map_nil]); first | done | rfl | (simp only [List.length_drop,List.length_take]; rfl)) ?_; (with_reducible refine (transhumanceref2_Cmp.calls kj12 t198 t199 t200 t201 x212000_12 x212001_12 x212002_12 t205 t217 _ A41.out).mono ?_); rintro e w59 ⟨rfl,hb⟩; refine ⟨_,rfl,?_⟩; have n0_ := Aside0.mk (blk_below (g := gb210) (o := .cells #[.int .i64 t198,.int .i64 t199,.int .i64 t200,.string t201] 25 (0,0)) (by (with_reducible repeat (first | refine blk_drewN ?_ _ | refine blk_drew ?_ | refine blk_alloc ?_ _)); exact BK210.out) hb); have n1_ := Aside0.mk (blk_below (g := gb211) (o := .cells #[.int .i64 x212000_12,.int .i64 x212001_12,.int .i64 x212002_12,.string t205] 25 (0,0)) (by (with_reducible repeat (first | refine blk_drewN ?_ _ | refine blk_drew ?_ | refine blk_alloc ?_ _)); exact BK211.out) hb); have n2_ := Aside0.mk (blk_below (g := gb212) (o := .cells #[.int .i64 x213000_12,.int .i64 x213001_12,.int .i64 x213002_12,.string t209] 25 (0,0)) (by (with_reducible repeat (first | refine blk_drewN ?_ _ | refine blk_drew ?_ | refine blk_alloc ?_ _)); exact BK212.out) hb); have n3_ := Aside0.mk (below_step (by repeat (first | (with_reducible first | exact HB.out | apply below_alloc | apply pw_below_drewN | apply below_drew1 | refine below_set ?_ GE210.out | refine below_set ?_ GE211.out | refine below_set ?_ GE212.out) | exact HB.out)) hb); clear BK210; clear BK211; clear BK212; clear HB; have BK210 := n0_; have BK211 := n1_; have BK212 := n2_; have HB := n3_; clear n0_ n1_ n2_ n3_; (try clear hb); (try clear hb2); (try clear hk); (try clear hi); have hcz60_0 : w59.cell? ⟨gb211,0,none⟩ = some (.int .i64 x212000_12) := (blk_cell BK211.out 0).trans rfl; have hcz60_1 : w59.cell? ⟨gb211,1,none⟩ = some (.int .i64 x212001_12) := (blk_cell BK211.out 1).trans rfl; have hcz60_2 : w59.cell? ⟨gb211,2,none⟩ = some (.int .i64 x212002_12) := (blk_cell BK211.out 2).trans rfl; have hcz60_3 : w59.cell? ⟨gb211,3,none⟩ = some (.string t205) := (blk_cell BK211.out 3).trans rfl; have hfz60_0 := blk_frozen BK211.out 0; have hfz60_1 := blk_frozen BK211.out 1; have hfz60_2 := blk_frozen BK211.out 2; have hfz60_3 := blk_frozen BK211.out 3; have hcz61_0 : w59.cell? ⟨gb212,0,none⟩ = some (.int .i64 x213000_12) := (blk_cell BK212.out 0).trans rfl; have hcz61_1 : w59.cell? ⟨gb212,1,none⟩ = some (.int .i64 x213001_12) := (blk_cell BK212.out 1).trans rfl; have hcz61_2 : w59.cell? ⟨gb212,2,none⟩ = some (.int .i64 x213002_12) := (blk_cell BK212.out 2).trans rfl; have hcz61_3 : w59.cell? ⟨gb212,3,none⟩ = some (.string t209) := (blk_cell BK212.out 3).trans rfl; have hfz61_0 := blk_frozen BK212.out 0; have hfz61_1 := blk_frozen BK212.out 1; have hfz61_2 := blk_frozen BK212.out 2; have hfz61_3 := blk_frozen BK212.out 3) | (go_at_call 20; (with_reducible refine (transhumanceref2_Cmp.calls kj12 x212000_12 x212001_12 x212002_12 t205 x213000_12 x213001_12 x213002_12 t209 t218 _ A43.out).mono ?_); rintro e w62 ⟨rfl,hb⟩; have n0_ := Aside0.mk (blk_below (g := gb210) (o := .cells #[.int .i64 t198,.int .i64 t199,.int .i64 t200,.string t201] 25 (0,0)) (by (with_reducible repeat (first | refine blk_drewN ?_ _ | refine blk_drew ?_ | refine blk_alloc ?_ _)); exact BK210.out) hb); have n1_ := Aside0.mk (blk_below (g := gb211) (o := .cells #[.int .i64 x212000_12,.int .i64 x212001_12,.int .i64 x212002_12,.string t205] 25 (0,0)) (by (with_reducible repeat (first | refine blk_drewN ?_ _ | refine blk_drew ?_ | refine blk_alloc ?_ _)); exact BK211.out) hb); have n2_ := Aside0.mk (blk_below (g := gb212) (o := .cells #[.int .i64 x213000_12,.int .i64 x213001_12,.int .i64 x213002_12,.string t209] 25 (0,0)) (by (with_reducible repeat (first | refine blk_drewN ?_ _ | refine blk_drew ?_ | refine blk_alloc ?_ _)); exact BK212.out) hb); have n3_ := Aside0.mk (below_step (by repeat (first | (with_reducible first | exact HB.out | apply below_alloc | apply pw_below_drewN | apply below_drew1 | refine below_set ?_ GE210.out | refine below_set ?_ GE211.out | refine below_set ?_ GE212.out) | exact HB.out)) hb); clear BK210; clear BK211; clear BK212; clear HB; have BK210 := n0_; have BK211 := n1_; have BK212 := n2_; have HB := n3_; clear n0_ n1_ n2_ n3_; (try clear hb); (try clear hb2); (try clear hk); (try clear hi); have hcz63_0 : w62.cell? ⟨gb210,0,none⟩ = some (.int .i64 t198) := (blk_cell BK210.out 0).trans rfl; have hcz63_1 : w62.cell? ⟨gb210,1,none⟩ = some (.int .i64 t199) := (blk_cell BK210.out 1).trans rfl; have hcz63_2 : w62.cell? ⟨gb210,2,none⟩ = some (.int .i64 t200) := (blk_cell BK210.out 2).trans rfl; have hcz63_3 : w62.cell? ⟨gb210,3,none⟩ = some (.string t201) := (blk_cell BK210.out 3).trans rfl; have hfz63_0 := blk_frozen BK210.out 0; have hfz63_1 := blk_frozen BK210.out 1; have hfz63_2 := blk_frozen BK210.out 2; have hfz63_3 := blk_frozen BK210.out 3; have hcz64_0 : w62.cell? ⟨gb212,0,none⟩ = some (.int .i64 x213000_12) := (blk_cell BK212.out 0).trans rfl; have hcz64_1 : w62.cell? ⟨gb212,1,none⟩ = some (.int .i64 x213001_12) := (blk_cell BK212.out 1).trans rfl; have hcz64_2 : w62.cell? ⟨gb212,2,none⟩ = some (.int .i64 x213002_12) := (blk_cell BK212.out 2).trans rfl; have hcz64_3 : w62.cell? ⟨gb212,3,none⟩ = some (.string t209) := (blk_cell BK212.out 3).trans rfl; have hfz64_0 := blk_frozen BK212.out 0; have hfz64_1 := blk_frozen BK212.out 1; have hfz64_2 := blk_frozen BK212.out 2; have hfz64_3 := blk_frozen BK212.out 3) | (go_at_call 20; (with_reducible refine (transhumanceref2_Cmp.calls kj12 t198 t199 t200 t201 x213000_12 x213001_12 x213002_12 t209 t219 _ A45.out).mono ?_); rintro e w65 ⟨rfl,hb⟩; have n0_ := Aside0.mk (blk_below (g := gb210) (o := .cells #[.int .i64 t198,.int .i64 t199,.int .i64 t200,.string t201] 25 (0,0)) (by (with_reducible repeat (first | refine blk_drewN ?_ _ | refine blk_drew ?_ | refine blk_alloc ?_ _)); exact BK210.out) hb); have n1_ := Aside0.mk (blk_below (g := gb211) (o := .cells #[.int .i64 x212000_12,.int .i64 x212001_12,.int .i64 x212002_12,.string t205] 25 (0,0)) (by (with_reducible repeat (first | refine blk_drewN ?_ _ | refine blk_drew ?_ | refine blk_alloc ?_ _)); exact BK211.out) hb); have n2_ := Aside0.mk (blk_below (g := gb212) (o := .cells #[.int .i64 x213000_12,.int .i64 x213001_12,.int .i64 x213002_12,.string t209] 25 (0,0)) (by (with_reducible repeat (first | refine blk_drewN ?_ _ | refine blk_drew ?_ | refine blk_alloc ?_ _)); exact BK212.out) hb); have n3_ := Aside0.mk (below_step (by repeat (first | (with_reducible first | exact HB.out | apply below_alloc | apply pw_below_drewN | apply below_drew1 | refine below_set ?_ GE210.out | refine below_set ?_ GE211.out | refine below_set ?_ GE212.out) | exact HB.out)) hb); clear BK210; clear BK211; clear BK212; clear HB; have BK210 := n0_; have BK211 := n1_; have BK212 := n2_; have HB := n3_; clear n0_ n1_ n2_ n3_; (try clear hb); (try clear hb2); (try clear hk); (try clear hi); have hcz66_0 : w65.cell? ⟨gb211,0,none⟩ = some (.int .i64 x212000_12) := (blk_cell BK211.out 0).trans rfl; have hcz66_1 : w65.cell? ⟨gb211,1,none⟩ = some (.int .i64 x212001_12) := (blk_cell BK211.out 1).trans rfl; have hcz66_2 : w65.cell? ⟨gb211,2,none⟩ = some (.int .i64 x212002_12) := (blk_cell BK211.out 2).trans rfl; have hcz66_3 : w65.cell? ⟨gb211,3,none⟩ = some (.string t205) := (blk_cell BK211.out 3).trans rfl; have hfz66_0 := blk_frozen BK211.out 0; have hfz66_1 := blk_frozen BK211.out 1; have hfz66_2 := blk_frozen BK211.out 2; have hfz66_3 := blk_frozen BK211.out 3; have hcz67_0 : w65.cell? ⟨gb210,0,none⟩ = some (.int .i64 t198) := (blk_cell BK210.out 0).trans rfl; have hcz67_1 : w65.cell? ⟨gb210,1,none⟩ = some (.int .i64 t199) := (blk_cell BK210.out 1).trans rfl; have hcz67_2 : w65.cell? ⟨gb210,2,none⟩ = some (.int .i64 t200) := (blk_cell BK210.out 2).trans rfl; have hcz67_3 : w65.cell? ⟨gb210,3,none⟩ = some (.string t201) := (blk_cell BK210.out 3).trans rfl; have hfz67_0 := blk_frozen BK210.out 0; have hfz67_1 := blk_frozen BK210.out 1; have hfz67_2 := blk_frozen BK210.out 2; have hfz67_3 := blk_frozen BK210.out 3) | (go_at_call 19; (with_reducible refine (ver_Cmp.calls kj12 x212000_12 x212001_12 x212002_12 t205 t198 t199 t200 t201 t220 _ ?side1 A47.out).mono ?_); (case side1 => exact GL.below0 hG (by repeat (first | (with_reducible first | exact HB.out | apply below_alloc | apply pw_below_drewN | apply below_drew1 | refine below_set ?_ GE210.out | refine below_set ?_ GE211.out | refine below_set ?_ GE212.out) | exact HB.out))); rintro e w68 ⟨rfl,hb⟩; have n0_ := Aside0.mk (blk_below (g := gb210) (o := .cells #[.int .i64 t198,.int .i64 t199,.int .i64 t200,.string t201] 25 (0,0)) (by (with_reducible repeat (first | refine blk_drewN ?_ _ | refine blk_drew ?_ | refine blk_alloc ?_ _)); exact BK210.out) hb); have n1_ := Aside0.mk (blk_below (g := gb211) (o := .cells #[.int .i64 x212000_12,.int .i64 x212001_12,.int .i64 x212002_12,.string t205] 25 (0,0)) (by (with_reducible repeat (first | refine blk_drewN ?_ _ | refine blk_drew ?_ | refine blk_alloc ?_ _)); exact BK211.out) hb); have n2_ := Aside0.mk (blk_below (g := gb212) (o := .cells #[.int .i64 x213000_12,.int .i64 x213001_12,.int .i64 x213002_12,.string t209] 25 (0,0)) (by (with_reducible repeat (first | refine blk_drewN ?_ _ | refine blk_drew ?_ | refine blk_alloc ?_ _)); exact BK212.out) hb); have n3_ := Aside0.mk (below_step (by repeat (first | (with_reducible first | exact HB.out | apply below_alloc | apply pw_below_drewN | apply below_drew1 | refine below_set ?_ GE210.out | refine below_set ?_ GE211.out | refine below_set ?_ GE212.out) | exact HB.out)) hb); clear BK210; clear BK211; clear BK212; clear HB; have BK210 := n0_; have BK211 := n1_; have BK212 := n2_; have HB := n3_; clear n0_ n1_ n2_ n3_; (try clear hb); (try clear hb2); (try clear hk); (try clear hi); have hcz69_0 : w68.cell? ⟨gb210,0,none⟩ = some (.int .i64 t198) := (blk_cell BK210.out 0).trans rfl; have hcz69_1 : w68.cell? ⟨gb210,1,none⟩ = some (.int .i64 t199) := (blk_cell BK210.out 1).trans rfl; have hcz69_2 : w68.cell? ⟨gb210,2,none⟩ = some (.int .i64 t200) := (blk_cell BK210.out 2).trans rfl; have hcz69_3 : w68.cell? ⟨gb210,3,none⟩ = some (.string t201) := (blk_cell BK210.out 3).trans rfl; have hfz69_0 := blk_frozen BK210.out 0; have hfz69_1 := blk_frozen BK210.out 1; have hfz69_2 := blk_frozen BK210.out 2; have hfz69_3 := blk_frozen BK210.out 3; have hcz70_0 : w68.cell? ⟨gb211,0,none⟩ = some (.int .i64 x212000_12) := (blk_cell BK211.out 0).trans rfl; have hcz70_1 : w68.cell? ⟨gb211,1,none⟩ = some (.int .i64 x212001_12) := (blk_cell BK211.out 1).trans rfl; have hcz70_2 : w68.cell? ⟨gb211,2,none⟩ = some (.int .i64 x212002_12) := (blk_cell BK211.out 2).trans rfl; have hcz70_3 : w68.cell? ⟨gb211,3,none⟩ = some (.string t205) := (blk_cell BK211.out 3).trans rfl; have hfz70_0 := blk_frozen BK211.out 0; have hfz70_1 := blk_frozen BK211.out 1; have hfz70_2 := blk_frozen BK211.out 2; have hfz70_3 := blk_frozen BK211.out 3))
         go_ret
         exact ⟨by first | rfl | (simp [errW_none,errW_some] <;> rfl) | (simp [*,errW_none,errW_some] <;> rfl),by repeat (first | (with_reducible first | exact HB.out | apply below_alloc | apply pw_below_drewN | apply below_drew1 | refine below_set ?_ GE210.out | refine below_set ?_ GE211.out | refine below_set ?_ GE212.out) | exact HB.out)⟩
        ·rw [if_neg c49] at H
         have c49b0 : ((t214 == 0) != (t198 == x212000_12 && (t199 == x212001_12 && (t200 == x212002_12 && (t201.toList == t205.toList))))) = false := by simpa using c49
         (try (have c49b1 : decide ((t214 == 0) = (t198 == x212000_12 && (t199 == x212001_12 && (t200 == x212002_12 && (t201.toList == t205.toList))))) = true := by simpa using c49))
         (try (have c49b2 : ((t214 == 0) == (t198 == x212000_12 && (t199 == x212001_12 && (t200 == x212002_12 && (t201.toList == t205.toList))))) = true := by simpa using c49))
         clear c49
         by_cases c71 : t214 ≤ 0
         ·rw [if_pos c71] at H
          have c71b0 : decide (t214 ≤ 0) = true := decide_eq_true c71
          clear c71
          by_cases c72 : t215 ≤ 0
          ·rw [if_pos c72] at H
           have c72b0 : decide (t215 ≤ 0) = true := decide_eq_true c72
           clear c72
           obtain rfl := Option.some.inj H
           try go_wp2
           have n0_ := Aside0.mk (blk_drew BK210.out)
           have n1_ := Aside0.mk (blk_drew BK211.out)
           have n2_ := Aside0.mk (blk_drew BK212.out)
           have n3_ := Aside0.mk (below_drew1 HB.out)
           clear BK210
           clear BK211
           clear BK212
           clear HB
           have BK210 := n0_
           have BK211 := n1_
           have BK212 := n2_
           have HB := n3_
           clear n0_ n1_ n2_ n3_
           refine start_ (n := 12) (S := fun w' => w'.cell? ⟨gb210,0,none⟩ = some (.int .i64 t198) ∧ w'.cell? ⟨gb210,1,none⟩ = some (.int .i64 t199) ∧ w'.cell? ⟨gb210,2,none⟩ = some (.int .i64 t200) ∧ w'.cell? ⟨gb210,3,none⟩ = some (.string t201) ∧ w'.cell? ⟨gb211,0,none⟩ = some (.int .i64 x212000_12) ∧ w'.cell? ⟨gb211,1,none⟩ = some (.int .i64 x212001_12) ∧ w'.cell? ⟨gb211,2,none⟩ = some (.int .i64 x212002_12) ∧ w'.cell? ⟨gb211,3,none⟩ = some (.string t205) ∧ w'.cell? ⟨gb212,0,none⟩ = some (.int .i64 x213000_12) ∧ w'.cell? ⟨gb212,1,none⟩ = some (.int .i64 x213001_12) ∧ w'.cell? ⟨gb212,2,none⟩ = some (.int .i64 x213002_12) ∧ w'.cell? ⟨gb212,3,none⟩ = some (.string t209)) (ds := []) #[false,false,false,false,false,false,false,false,false,false,false,false] (by kernel_rfl) rfl rfl ⟨(blk_cell BK210.out 0).trans rfl,(blk_cell BK210.out 1).trans rfl,(blk_cell BK210.out 2).trans rfl,(blk_cell BK210.out 3).trans rfl,(blk_cell BK211.out 0).trans rfl,(blk_cell BK211.out 1).trans rfl,(blk_cell BK211.out 2).trans rfl,(blk_cell BK211.out 3).trans rfl,(blk_cell BK212.out 0).trans rfl,(blk_cell BK212.out 1).trans rfl,(blk_cell BK212.out 2).trans rfl,(blk_cell BK212.out 3).trans rfl⟩ (fun hHeld => ?_); refine with_tabW transhumancelaw2_VerOrder.tab7 transhumancelaw2_VerOrder.bits7 (fun HT_ HW_ => ?_)
           generalize wc.drew = w73 at BK210 BK211 BK212 HB hHeld ⊢
           refine take_ (i := 0) (N := some 51) (v := ?_) (a' := ?_) #[true,false,false,false,false,false,false,false,false,false,false,false] rfl rfl (take_ofW HT_.out HW_.out (by kernel_rfl)) (fun _ _ _ h => h) (Or.inl ⟨by rfl,?_⟩) hHeld ?_ ?_
           rotate_left
           ·rintro w' ⟨s0,s1,s2,s3,s4,s5,s6,s7,s8,s9,s10,s11⟩
            go_simp
            with_reducible rfl
           rotate_left
           ·simp only [Act.put,List.setIfInBounds_toArray,List.set_cons_zero,List.set_cons_succ,i64_w,i32_w]
            rfl
           refine take_ (i := 1) (N := some 52) (v := ?_) (a' := ?_) #[true,true,false,false,false,false,false,false,false,false,false,false] rfl rfl (take_ofW HT_.out HW_.out (by kernel_rfl)) (fun _ _ _ h => h) (Or.inl ⟨by rfl,?_⟩) hHeld ?_ ?_
           rotate_left
           ·rintro w' ⟨s0,s1,s2,s3,s4,s5,s6,s7,s8,s9,s10,s11⟩
            go_simp
            with_reducible rfl
           rotate_left
           ·simp only [Act.put,List.setIfInBounds_toArray,List.set_cons_zero,List.set_cons_succ,i64_w,i32_w]
            rfl
           refine take_ (i := 3) (N := some 54) (v := ?_) (a' := ?_) #[true,true,false,true,false,false,false,false,false,false,false,false] rfl rfl (take_ofW HT_.out HW_.out (by kernel_rfl)) (fun _ _ _ h => h) (Or.inl ⟨by rfl,?_⟩) hHeld ?_ ?_
           rotate_left
           ·rintro w' ⟨s0,s1,s2,s3,s4,s5,s6,s7,s8,s9,s10,s11⟩
            go_simp
            with_reducible rfl
           rotate_left
           ·simp only [Act.put,List.setIfInBounds_toArray,List.set_cons_zero,List.set_cons_succ,i64_w,i32_w]
            rfl
           refine take_ (i := 4) (N := some 55) (v := ?_) (a' := ?_) #[true,true,false,true,true,false,false,false,false,false,false,false] rfl rfl (take_ofW HT_.out HW_.out (by kernel_rfl)) (fun _ _ _ h => h) (Or.inl ⟨by rfl,?_⟩) hHeld ?_ ?_
           rotate_left
           ·rintro w' ⟨s0,s1,s2,s3,s4,s5,s6,s7,s8,s9,s10,s11⟩
            go_simp
            with_reducible rfl
           rotate_left
           ·simp only [Act.put,List.setIfInBounds_toArray,List.set_cons_zero,List.set_cons_succ,i64_w,i32_w]
            rfl
           refine take_ (i := 6) (N := some 57) (v := ?_) (a' := ?_) #[true,true,false,true,true,false,true,false,false,false,false,false] rfl rfl (take_ofW HT_.out HW_.out (by kernel_rfl)) (fun _ _ _ h => h) (Or.inl ⟨by rfl,?_⟩) hHeld ?_ ?_
           rotate_left
           ·rintro w' ⟨s0,s1,s2,s3,s4,s5,s6,s7,s8,s9,s10,s11⟩
            go_simp
            with_reducible rfl
           rotate_left
           ·simp only [Act.put,List.setIfInBounds_toArray,List.set_cons_zero,List.set_cons_succ,i64_w,i32_w]
            rfl
           refine take_ (i := 7) (N := some 58) (v := ?_) (a' := ?_) #[true,true,false,true,true,false,true,true,false,false,false,false] rfl rfl (take_ofW HT_.out HW_.out (by kernel_rfl)) (fun _ _ _ h => h) (Or.inl ⟨by rfl,?_⟩) hHeld ?_ ?_
           rotate_left
           ·rintro w' ⟨s0,s1,s2,s3,s4,s5,s6,s7,s8,s9,s10,s11⟩
            go_simp
            with_reducible rfl
           rotate_left
           ·simp only [Act.put,List.setIfInBounds_toArray,List.set_cons_zero,List.set_cons_succ,i64_w,i32_w]
            rfl
           refine one_ (i := 2) (N := some 53) #[true,true,true,true,true,false,true,true,false,false,false,false] rfl rfl (one_of HT_.out (by kernel_rfl)) (by decide) (fun K hK => ?_)
           refine goes_ Tryz.func19 (by kernel_rfl) rfl #[.agg #[.int .i64 t198,.int .i64 t199,.int .i64 t200,.string t201],.agg #[.int .i64 x212000_12,.int .i64 x212001_12,.int .i64 x212002_12,.string t205]] (by rfl) rfl rfl (by (try simp only [List.map_toArray,List.map_cons,List.map_nil]); first | done | rfl | (simp only [List.length_drop,List.length_take]; rfl)) ?_
           with_reducible refine (ver_Cmp.calls kj12 t198 t199 t200 t201 x212000_12 x212001_12 x212002_12 t205 t214 _ ?side1 A38.out).mono ?_
           (case side1 => exact GL.below0 hG (by repeat (first | (with_reducible first | exact HB.out | apply below_alloc | apply pw_below_drewN | apply below_drew1 | refine below_set ?_ GE210.out | refine below_set ?_ GE211.out | refine below_set ?_ GE212.out) | exact HB.out)))
           rintro e w74 ⟨rfl,hb⟩
           refine ⟨_,rfl,?_⟩
           have n0_ := Aside0.mk (blk_below (g := gb210) (o := .cells #[.int .i64 t198,.int .i64 t199,.int .i64 t200,.string t201] 25 (0,0)) (by (with_reducible repeat (first | refine blk_drewN ?_ _ | refine blk_drew ?_ | refine blk_alloc ?_ _)); exact BK210.out) hb)
           have n1_ := Aside0.mk (blk_below (g := gb211) (o := .cells #[.int .i64 x212000_12,.int .i64 x212001_12,.int .i64 x212002_12,.string t205] 25 (0,0)) (by (with_reducible repeat (first | refine blk_drewN ?_ _ | refine blk_drew ?_ | refine blk_alloc ?_ _)); exact BK211.out) hb)
           have n2_ := Aside0.mk (blk_below (g := gb212) (o := .cells #[.int .i64 x213000_12,.int .i64 x213001_12,.int .i64 x213002_12,.string t209] 25 (0,0)) (by (with_reducible repeat (first | refine blk_drewN ?_ _ | refine blk_drew ?_ | refine blk_alloc ?_ _)); exact BK212.out) hb)
           have n3_ := Aside0.mk (below_step (by repeat (first | (with_reducible first | exact HB.out | apply below_alloc | apply pw_below_drewN | apply below_drew1 | refine below_set ?_ GE210.out | refine below_set ?_ GE211.out | refine below_set ?_ GE212.out) | exact HB.out)) hb)
           clear BK210
           clear BK211
           clear BK212
           clear HB
           have BK210 := n0_
           have BK211 := n1_
           have BK212 := n2_
           have HB := n3_
           clear n0_ n1_ n2_ n3_
           (try clear hb)
           (try clear hb2)
           (try clear hk)
           (try clear hi)
           refine hK.out _ _ ⟨(blk_cell BK210.out 0).trans rfl,(blk_cell BK210.out 1).trans rfl,(blk_cell BK210.out 2).trans rfl,(blk_cell BK210.out 3).trans rfl,(blk_cell BK211.out 0).trans rfl,(blk_cell BK211.out 1).trans rfl,(blk_cell BK211.out 2).trans rfl,(blk_cell BK211.out 3).trans rfl,(blk_cell BK212.out 0).trans rfl,(blk_cell BK212.out 1).trans rfl,(blk_cell BK212.out 2).trans rfl,(blk_cell BK212.out 3).trans rfl⟩ (fun hHeld => ?_)
           clear hK K
           refine norm_ (a' := ?_) ?_ ?_
           rotate_left
           ·show Act.put _ (some 53) _ = _
            simp only [Act.put,List.setIfInBounds_toArray,List.set_cons_zero,List.set_cons_succ,i64_w,i32_w]
            rfl
           refine one_ (i := 5) (N := some 56) #[true,true,true,true,true,true,true,true,false,false,false,false] rfl rfl (one_of HT_.out (by kernel_rfl)) (by decide) (fun K hK => ?_)
           refine goes_ Tryz.func19 (by kernel_rfl) rfl #[.agg #[.int .i64 x212000_12,.int .i64 x212001_12,.int .i64 x212002_12,.string t205],.agg #[.int .i64 x213000_12,.int .i64 x213001_12,.int .i64 x213002_12,.string t209]] (by rfl) rfl rfl (by (try simp only [List.map_toArray,List.map_cons,List.map_nil]); first | done | rfl | (simp only [List.length_drop,List.length_take]; rfl)) ?_
           with_reducible refine (ver_Cmp.calls kj12 x212000_12 x212001_12 x212002_12 t205 x213000_12 x213001_12 x213002_12 t209 t215 _ ?side1 A39.out).mono ?_
           (case side1 => exact GL.below0 hG (by repeat (first | (with_reducible first | exact HB.out | apply below_alloc | apply pw_below_drewN | apply below_drew1 | refine below_set ?_ GE210.out | refine below_set ?_ GE211.out | refine below_set ?_ GE212.out) | exact HB.out)))
           rintro e w75 ⟨rfl,hb⟩
           refine ⟨_,rfl,?_⟩
           have n0_ := Aside0.mk (blk_below (g := gb210) (o := .cells #[.int .i64 t198,.int .i64 t199,.int .i64 t200,.string t201] 25 (0,0)) (by (with_reducible repeat (first | refine blk_drewN ?_ _ | refine blk_drew ?_ | refine blk_alloc ?_ _)); exact BK210.out) hb)
           have n1_ := Aside0.mk (blk_below (g := gb211) (o := .cells #[.int .i64 x212000_12,.int .i64 x212001_12,.int .i64 x212002_12,.string t205] 25 (0,0)) (by (with_reducible repeat (first | refine blk_drewN ?_ _ | refine blk_drew ?_ | refine blk_alloc ?_ _)); exact BK211.out) hb)
           have n2_ := Aside0.mk (blk_below (g := gb212) (o := .cells #[.int .i64 x213000_12,.int .i64 x213001_12,.int .i64 x213002_12,.string t209] 25 (0,0)) (by (with_reducible repeat (first | refine blk_drewN ?_ _ | refine blk_drew ?_ | refine blk_alloc ?_ _)); exact BK212.out) hb)
           have n3_ := Aside0.mk (below_step (by repeat (first | (with_reducible first | exact HB.out | apply below_alloc | apply pw_below_drewN | apply below_drew1 | refine below_set ?_ GE210.out | refine below_set ?_ GE211.out | refine below_set ?_ GE212.out) | exact HB.out)) hb)
           clear BK210
           clear BK211
           clear BK212
           clear HB
           have BK210 := n0_
           have BK211 := n1_
           have BK212 := n2_
           have HB := n3_
           clear n0_ n1_ n2_ n3_
           (try clear hb)
           (try clear hb2)
           (try clear hk)
           (try clear hi)
           refine hK.out _ _ ⟨(blk_cell BK210.out 0).trans rfl,(blk_cell BK210.out 1).trans rfl,(blk_cell BK210.out 2).trans rfl,(blk_cell BK210.out 3).trans rfl,(blk_cell BK211.out 0).trans rfl,(blk_cell BK211.out 1).trans rfl,(blk_cell BK211.out 2).trans rfl,(blk_cell BK211.out 3).trans rfl,(blk_cell BK212.out 0).trans rfl,(blk_cell BK212.out 1).trans rfl,(blk_cell BK212.out 2).trans rfl,(blk_cell BK212.out 3).trans rfl⟩ (fun hHeld => ?_)
           clear hK K
           refine norm_ (a' := ?_) ?_ ?_
           rotate_left
           ·show Act.put _ (some 56) _ = _
            simp only [Act.put,List.setIfInBounds_toArray,List.set_cons_zero,List.set_cons_succ,i64_w,i32_w]
            rfl
           refine one_ (i := 8) (N := some 59) #[true,true,true,true,true,true,true,true,true,false,false,false] rfl rfl (one_of HT_.out (by kernel_rfl)) (by decide) (fun K hK => ?_)
           refine goes_ Tryz.func19 (by kernel_rfl) rfl #[.agg #[.int .i64 t198,.int .i64 t199,.int .i64 t200,.string t201],.agg #[.int .i64 x213000_12,.int .i64 x213001_12,.int .i64 x213002_12,.string t209]] (by rfl) rfl rfl (by (try simp only [List.map_toArray,List.map_cons,List.map_nil]); first | done | rfl | (simp only [List.length_drop,List.length_take]; rfl)) ?_
           with_reducible refine (ver_Cmp.calls kj12 t198 t199 t200 t201 x213000_12 x213001_12 x213002_12 t209 t216 _ ?side1 A40.out).mono ?_
           (case side1 => exact GL.below0 hG (by repeat (first | (with_reducible first | exact HB.out | apply below_alloc | apply pw_below_drewN | apply below_drew1 | refine below_set ?_ GE210.out | refine below_set ?_ GE211.out | refine below_set ?_ GE212.out) | exact HB.out)))
           rintro e w76 ⟨rfl,hb⟩
           refine ⟨_,rfl,?_⟩
           have n0_ := Aside0.mk (blk_below (g := gb210) (o := .cells #[.int .i64 t198,.int .i64 t199,.int .i64 t200,.string t201] 25 (0,0)) (by (with_reducible repeat (first | refine blk_drewN ?_ _ | refine blk_drew ?_ | refine blk_alloc ?_ _)); exact BK210.out) hb)
           have n1_ := Aside0.mk (blk_below (g := gb211) (o := .cells #[.int .i64 x212000_12,.int .i64 x212001_12,.int .i64 x212002_12,.string t205] 25 (0,0)) (by (with_reducible repeat (first | refine blk_drewN ?_ _ | refine blk_drew ?_ | refine blk_alloc ?_ _)); exact BK211.out) hb)
           have n2_ := Aside0.mk (blk_below (g := gb212) (o := .cells #[.int .i64 x213000_12,.int .i64 x213001_12,.int .i64 x213002_12,.string t209] 25 (0,0)) (by (with_reducible repeat (first | refine blk_drewN ?_ _ | refine blk_drew ?_ | refine blk_alloc ?_ _)); exact BK212.out) hb)
           have n3_ := Aside0.mk (below_step (by repeat (first | (with_reducible first | exact HB.out | apply below_alloc | apply pw_below_drewN | apply below_drew1 | refine below_set ?_ GE210.out | refine below_set ?_ GE211.out | refine below_set ?_ GE212.out) | exact HB.out)) hb)
           clear BK210
           clear BK211
           clear BK212
           clear HB
           have BK210 := n0_
           have BK211 := n1_
           have BK212 := n2_
           have HB := n3_
           clear n0_ n1_ n2_ n3_
           (try clear hb)
           (try clear hb2)
           (try clear hk)
           (try clear hi)
           refine hK.out _ _ ⟨(blk_cell BK210.out 0).trans rfl,(blk_cell BK210.out 1).trans rfl,(blk_cell BK210.out 2).trans rfl,(blk_cell BK210.out 3).trans rfl,(blk_cell BK211.out 0).trans rfl,(blk_cell BK211.out 1).trans rfl,(blk_cell BK211.out 2).trans rfl,(blk_cell BK211.out 3).trans rfl,(blk_cell BK212.out 0).trans rfl,(blk_cell BK212.out 1).trans rfl,(blk_cell BK212.out 2).trans rfl,(blk_cell BK212.out 3).trans rfl⟩ (fun hHeld => ?_)
           clear hK K
           refine norm_ (a' := ?_) ?_ ?_
           rotate_left
           ·show Act.put _ (some 59) _ = _
            simp only [Act.put,List.setIfInBounds_toArray,List.set_cons_zero,List.set_cons_succ,i64_w,i32_w]
            rfl
           refine pure_ (i := 9) (N := some 16) (v := ?_) (a' := ?_) #[true,true,true,true,true,true,true,true,true,true,false,false] rfl rfl (any_of HT_.out (by kernel_rfl)) (fun _ _ _ h => h) (Or.inl ⟨by rfl,?_⟩) ?_ ?_
           rotate_left
           ·intro w'
            go_simp
            with_reducible rfl
           rotate_left
           ·simp only [Act.put,List.setIfInBounds_toArray,List.set_cons_zero,List.set_cons_succ,i64_w,i32_w]
            rfl
           refine pure_ (i := 10) (N := some 17) (v := ?_) (a' := ?_) #[true,true,true,true,true,true,true,true,true,true,true,false] rfl rfl (any_of HT_.out (by kernel_rfl)) (fun _ _ _ h => h) (Or.inl ⟨by rfl,?_⟩) ?_ ?_
           rotate_left
           ·intro w'
            go_simp
            with_reducible rfl
           rotate_left
           ·simp only [Act.put,List.setIfInBounds_toArray,List.set_cons_zero,List.set_cons_succ,i64_w,i32_w]
            rfl
           refine pure_ (i := 11) (N := some 18) (v := ?_) (a' := ?_) #[true,true,true,true,true,true,true,true,true,true,true,true] rfl rfl (any_of HT_.out (by kernel_rfl)) (fun _ _ _ h => h) (Or.inl ⟨by rfl,?_⟩) ?_ ?_
           rotate_left
           ·intro w'
            go_simp
            with_reducible rfl
           rotate_left
           ·simp only [Act.put,List.setIfInBounds_toArray,List.set_cons_zero,List.set_cons_succ,i64_w,i32_w]
            rfl
           refine done_ (done_of HT_.out (by kernel_rfl)) ?_
           have hnb77 := NB210_211.out
           have hnc77 := NB211_210.out
           have hnb78 := NB210_212.out
           have hnc78 := NB212_210.out
           have hcz79_0 : w76.cell? ⟨gb210,0,none⟩ = some (.int .i64 t198) := (blk_cell BK210.out 0).trans rfl
           have hcz79_1 : w76.cell? ⟨gb210,1,none⟩ = some (.int .i64 t199) := (blk_cell BK210.out 1).trans rfl
           have hcz79_2 : w76.cell? ⟨gb210,2,none⟩ = some (.int .i64 t200) := (blk_cell BK210.out 2).trans rfl
           have hcz79_3 : w76.cell? ⟨gb210,3,none⟩ = some (.string t201) := (blk_cell BK210.out 3).trans rfl
           have hfz79_0 := blk_frozen BK210.out 0
           have hfz79_1 := blk_frozen BK210.out 1
           have hfz79_2 := blk_frozen BK210.out 2
           have hfz79_3 := blk_frozen BK210.out 3
           have hnb80 := NB211_212.out
           have hnc80 := NB212_211.out
           have hcz81_0 : w76.cell? ⟨gb211,0,none⟩ = some (.int .i64 x212000_12) := (blk_cell BK211.out 0).trans rfl
           have hcz81_1 : w76.cell? ⟨gb211,1,none⟩ = some (.int .i64 x212001_12) := (blk_cell BK211.out 1).trans rfl
           have hcz81_2 : w76.cell? ⟨gb211,2,none⟩ = some (.int .i64 x212002_12) := (blk_cell BK211.out 2).trans rfl
           have hcz81_3 : w76.cell? ⟨gb211,3,none⟩ = some (.string t205) := (blk_cell BK211.out 3).trans rfl
           have hfz81_0 := blk_frozen BK211.out 0
           have hfz81_1 := blk_frozen BK211.out 1
           have hfz81_2 := blk_frozen BK211.out 2
           have hfz81_3 := blk_frozen BK211.out 3
           try go_wp2_with (first | ((with_reducible refine gate_callee (f := 20) rfl ?_); refine goesL_ (some 63) rfl rfl Tryz.func20 (by kernel_rfl) rfl #[.agg #[.int .i64 t198,.int .i64 t199,.int .i64 t200,.string t201],.agg #[.int .i64 x212000_12,.int .i64 x212001_12,.int .i64 x212002_12,.string t205]] rfl (by (try simp only [List.map_toArray,List.map_cons,List.map_nil]); first | done | rfl | (simp only [List.length_drop,List.length_take]; rfl)) ?_; (with_reducible refine (transhumanceref2_Cmp.calls kj12 t198 t199 t200 t201 x212000_12 x212001_12 x212002_12 t205 t217 _ A41.out).mono ?_); rintro e w82 ⟨rfl,hb⟩; refine ⟨_,rfl,?_⟩; have n0_ := Aside0.mk (blk_below (g := gb210) (o := .cells #[.int .i64 t198,.int .i64 t199,.int .i64 t200,.string t201] 25 (0,0)) (by (with_reducible repeat (first | refine blk_drewN ?_ _ | refine blk_drew ?_ | refine blk_alloc ?_ _)); exact BK210.out) hb); have n1_ := Aside0.mk (blk_below (g := gb211) (o := .cells #[.int .i64 x212000_12,.int .i64 x212001_12,.int .i64 x212002_12,.string t205] 25 (0,0)) (by (with_reducible repeat (first | refine blk_drewN ?_ _ | refine blk_drew ?_ | refine blk_alloc ?_ _)); exact BK211.out) hb); have n2_ := Aside0.mk (blk_below (g := gb212) (o := .cells #[.int .i64 x213000_12,.int .i64 x213001_12,.int .i64 x213002_12,.string t209] 25 (0,0)) (by (with_reducible repeat (first | refine blk_drewN ?_ _ | refine blk_drew ?_ | refine blk_alloc ?_ _)); exact BK212.out) hb); have n3_ := Aside0.mk (below_step (by repeat (first | (with_reducible first | exact HB.out | apply below_alloc | apply pw_below_drewN | apply below_drew1 | refine below_set ?_ GE210.out | refine below_set ?_ GE211.out | refine below_set ?_ GE212.out) | exact HB.out)) hb); clear BK210; clear BK211; clear BK212; clear HB; have BK210 := n0_; have BK211 := n1_; have BK212 := n2_; have HB := n3_; clear n0_ n1_ n2_ n3_; (try clear hb); (try clear hb2); (try clear hk); (try clear hi); have hcz83_0 : w82.cell? ⟨gb211,0,none⟩ = some (.int .i64 x212000_12) := (blk_cell BK211.out 0).trans rfl; have hcz83_1 : w82.cell? ⟨gb211,1,none⟩ = some (.int .i64 x212001_12) := (blk_cell BK211.out 1).trans rfl; have hcz83_2 : w82.cell? ⟨gb211,2,none⟩ = some (.int .i64 x212002_12) := (blk_cell BK211.out 2).trans rfl; have hcz83_3 : w82.cell? ⟨gb211,3,none⟩ = some (.string t205) := (blk_cell BK211.out 3).trans rfl; have hfz83_0 := blk_frozen BK211.out 0; have hfz83_1 := blk_frozen BK211.out 1; have hfz83_2 := blk_frozen BK211.out 2; have hfz83_3 := blk_frozen BK211.out 3; have hcz84_0 : w82.cell? ⟨gb212,0,none⟩ = some (.int .i64 x213000_12) := (blk_cell BK212.out 0).trans rfl; have hcz84_1 : w82.cell? ⟨gb212,1,none⟩ = some (.int .i64 x213001_12) := (blk_cell BK212.out 1).trans rfl; have hcz84_2 : w82.cell? ⟨gb212,2,none⟩ = some (.int .i64 x213002_12) := (blk_cell BK212.out 2).trans rfl; have hcz84_3 : w82.cell? ⟨gb212,3,none⟩ = some (.string t209) := (blk_cell BK212.out 3).trans rfl; have hfz84_0 := blk_frozen BK212.out 0; have hfz84_1 := blk_frozen BK212.out 1; have hfz84_2 := blk_frozen BK212.out 2; have hfz84_3 := blk_frozen BK212.out 3) | (go_at_call 20; (with_reducible refine (transhumanceref2_Cmp.calls kj12 x212000_12 x212001_12 x212002_12 t205 x213000_12 x213001_12 x213002_12 t209 t218 _ A43.out).mono ?_); rintro e w85 ⟨rfl,hb⟩; have n0_ := Aside0.mk (blk_below (g := gb210) (o := .cells #[.int .i64 t198,.int .i64 t199,.int .i64 t200,.string t201] 25 (0,0)) (by (with_reducible repeat (first | refine blk_drewN ?_ _ | refine blk_drew ?_ | refine blk_alloc ?_ _)); exact BK210.out) hb); have n1_ := Aside0.mk (blk_below (g := gb211) (o := .cells #[.int .i64 x212000_12,.int .i64 x212001_12,.int .i64 x212002_12,.string t205] 25 (0,0)) (by (with_reducible repeat (first | refine blk_drewN ?_ _ | refine blk_drew ?_ | refine blk_alloc ?_ _)); exact BK211.out) hb); have n2_ := Aside0.mk (blk_below (g := gb212) (o := .cells #[.int .i64 x213000_12,.int .i64 x213001_12,.int .i64 x213002_12,.string t209] 25 (0,0)) (by (with_reducible repeat (first | refine blk_drewN ?_ _ | refine blk_drew ?_ | refine blk_alloc ?_ _)); exact BK212.out) hb); have n3_ := Aside0.mk (below_step (by repeat (first | (with_reducible first | exact HB.out | apply below_alloc | apply pw_below_drewN | apply below_drew1 | refine below_set ?_ GE210.out | refine below_set ?_ GE211.out | refine below_set ?_ GE212.out) | exact HB.out)) hb); clear BK210; clear BK211; clear BK212; clear HB; have BK210 := n0_; have BK211 := n1_; have BK212 := n2_; have HB := n3_; clear n0_ n1_ n2_ n3_; (try clear hb); (try clear hb2); (try clear hk); (try clear hi); have hcz86_0 : w85.cell? ⟨gb210,0,none⟩ = some (.int .i64 t198) := (blk_cell BK210.out 0).trans rfl; have hcz86_1 : w85.cell? ⟨gb210,1,none⟩ = some (.int .i64 t199) := (blk_cell BK210.out 1).trans rfl; have hcz86_2 : w85.cell? ⟨gb210,2,none⟩ = some (.int .i64 t200) := (blk_cell BK210.out 2).trans rfl; have hcz86_3 : w85.cell? ⟨gb210,3,none⟩ = some (.string t201) := (blk_cell BK210.out 3).trans rfl; have hfz86_0 := blk_frozen BK210.out 0; have hfz86_1 := blk_frozen BK210.out 1; have hfz86_2 := blk_frozen BK210.out 2; have hfz86_3 := blk_frozen BK210.out 3; have hcz87_0 : w85.cell? ⟨gb212,0,none⟩ = some (.int .i64 x213000_12) := (blk_cell BK212.out 0).trans rfl; have hcz87_1 : w85.cell? ⟨gb212,1,none⟩ = some (.int .i64 x213001_12) := (blk_cell BK212.out 1).trans rfl; have hcz87_2 : w85.cell? ⟨gb212,2,none⟩ = some (.int .i64 x213002_12) := (blk_cell BK212.out 2).trans rfl; have hcz87_3 : w85.cell? ⟨gb212,3,none⟩ = some (.string t209) := (blk_cell BK212.out 3).trans rfl; have hfz87_0 := blk_frozen BK212.out 0; have hfz87_1 := blk_frozen BK212.out 1; have hfz87_2 := blk_frozen BK212.out 2; have hfz87_3 := blk_frozen BK212.out 3) | (go_at_call 20; (with_reducible refine (transhumanceref2_Cmp.calls kj12 t198 t199 t200 t201 x213000_12 x213001_12 x213002_12 t209 t219 _ A45.out).mono ?_); rintro e w88 ⟨rfl,hb⟩; have n0_ := Aside0.mk (blk_below (g := gb210) (o := .cells #[.int .i64 t198,.int .i64 t199,.int .i64 t200,.string t201] 25 (0,0)) (by (with_reducible repeat (first | refine blk_drewN ?_ _ | refine blk_drew ?_ | refine blk_alloc ?_ _)); exact BK210.out) hb); have n1_ := Aside0.mk (blk_below (g := gb211) (o := .cells #[.int .i64 x212000_12,.int .i64 x212001_12,.int .i64 x212002_12,.string t205] 25 (0,0)) (by (with_reducible repeat (first | refine blk_drewN ?_ _ | refine blk_drew ?_ | refine blk_alloc ?_ _)); exact BK211.out) hb); have n2_ := Aside0.mk (blk_below (g := gb212) (o := .cells #[.int .i64 x213000_12,.int .i64 x213001_12,.int .i64 x213002_12,.string t209] 25 (0,0)) (by (with_reducible repeat (first | refine blk_drewN ?_ _ | refine blk_drew ?_ | refine blk_alloc ?_ _)); exact BK212.out) hb); have n3_ := Aside0.mk (below_step (by repeat (first | (with_reducible first | exact HB.out | apply below_alloc | apply pw_below_drewN | apply below_drew1 | refine below_set ?_ GE210.out | refine below_set ?_ GE211.out | refine below_set ?_ GE212.out) | exact HB.out)) hb); clear BK210; clear BK211; clear BK212; clear HB; have BK210 := n0_; have BK211 := n1_; have BK212 := n2_; have HB := n3_; clear n0_ n1_ n2_ n3_; (try clear hb); (try clear hb2); (try clear hk); (try clear hi); have hcz89_0 : w88.cell? ⟨gb211,0,none⟩ = some (.int .i64 x212000_12) := (blk_cell BK211.out 0).trans rfl; have hcz89_1 : w88.cell? ⟨gb211,1,none⟩ = some (.int .i64 x212001_12) := (blk_cell BK211.out 1).trans rfl; have hcz89_2 : w88.cell? ⟨gb211,2,none⟩ = some (.int .i64 x212002_12) := (blk_cell BK211.out 2).trans rfl; have hcz89_3 : w88.cell? ⟨gb211,3,none⟩ = some (.string t205) := (blk_cell BK211.out 3).trans rfl; have hfz89_0 := blk_frozen BK211.out 0; have hfz89_1 := blk_frozen BK211.out 1; have hfz89_2 := blk_frozen BK211.out 2; have hfz89_3 := blk_frozen BK211.out 3; have hcz90_0 : w88.cell? ⟨gb210,0,none⟩ = some (.int .i64 t198) := (blk_cell BK210.out 0).trans rfl; have hcz90_1 : w88.cell? ⟨gb210,1,none⟩ = some (.int .i64 t199) := (blk_cell BK210.out 1).trans rfl; have hcz90_2 : w88.cell? ⟨gb210,2,none⟩ = some (.int .i64 t200) := (blk_cell BK210.out 2).trans rfl; have hcz90_3 : w88.cell? ⟨gb210,3,none⟩ = some (.string t201) := (blk_cell BK210.out 3).trans rfl; have hfz90_0 := blk_frozen BK210.out 0; have hfz90_1 := blk_frozen BK210.out 1; have hfz90_2 := blk_frozen BK210.out 2; have hfz90_3 := blk_frozen BK210.out 3) | (go_at_call 19; (with_reducible refine (ver_Cmp.calls kj12 x212000_12 x212001_12 x212002_12 t205 t198 t199 t200 t201 t220 _ ?side1 A47.out).mono ?_); (case side1 => exact GL.below0 hG (by repeat (first | (with_reducible first | exact HB.out | apply below_alloc | apply pw_below_drewN | apply below_drew1 | refine below_set ?_ GE210.out | refine below_set ?_ GE211.out | refine below_set ?_ GE212.out) | exact HB.out))); rintro e w91 ⟨rfl,hb⟩; have n0_ := Aside0.mk (blk_below (g := gb210) (o := .cells #[.int .i64 t198,.int .i64 t199,.int .i64 t200,.string t201] 25 (0,0)) (by (with_reducible repeat (first | refine blk_drewN ?_ _ | refine blk_drew ?_ | refine blk_alloc ?_ _)); exact BK210.out) hb); have n1_ := Aside0.mk (blk_below (g := gb211) (o := .cells #[.int .i64 x212000_12,.int .i64 x212001_12,.int .i64 x212002_12,.string t205] 25 (0,0)) (by (with_reducible repeat (first | refine blk_drewN ?_ _ | refine blk_drew ?_ | refine blk_alloc ?_ _)); exact BK211.out) hb); have n2_ := Aside0.mk (blk_below (g := gb212) (o := .cells #[.int .i64 x213000_12,.int .i64 x213001_12,.int .i64 x213002_12,.string t209] 25 (0,0)) (by (with_reducible repeat (first | refine blk_drewN ?_ _ | refine blk_drew ?_ | refine blk_alloc ?_ _)); exact BK212.out) hb); have n3_ := Aside0.mk (below_step (by repeat (first | (with_reducible first | exact HB.out | apply below_alloc | apply pw_below_drewN | apply below_drew1 | refine below_set ?_ GE210.out | refine below_set ?_ GE211.out | refine below_set ?_ GE212.out) | exact HB.out)) hb); clear BK210; clear BK211; clear BK212; clear HB; have BK210 := n0_; have BK211 := n1_; have BK212 := n2_; have HB := n3_; clear n0_ n1_ n2_ n3_; (try clear hb); (try clear hb2); (try clear hk); (try clear hi); have hcz92_0 : w91.cell? ⟨gb210,0,none⟩ = some (.int .i64 t198) := (blk_cell BK210.out 0).trans rfl; have hcz92_1 : w91.cell? ⟨gb210,1,none⟩ = some (.int .i64 t199) := (blk_cell BK210.out 1).trans rfl; have hcz92_2 : w91.cell? ⟨gb210,2,none⟩ = some (.int .i64 t200) := (blk_cell BK210.out 2).trans rfl; have hcz92_3 : w91.cell? ⟨gb210,3,none⟩ = some (.string t201) := (blk_cell BK210.out 3).trans rfl; have hfz92_0 := blk_frozen BK210.out 0; have hfz92_1 := blk_frozen BK210.out 1; have hfz92_2 := blk_frozen BK210.out 2; have hfz92_3 := blk_frozen BK210.out 3; have hcz93_0 : w91.cell? ⟨gb211,0,none⟩ = some (.int .i64 x212000_12) := (blk_cell BK211.out 0).trans rfl; have hcz93_1 : w91.cell? ⟨gb211,1,none⟩ = some (.int .i64 x212001_12) := (blk_cell BK211.out 1).trans rfl; have hcz93_2 : w91.cell? ⟨gb211,2,none⟩ = some (.int .i64 x212002_12) := (blk_cell BK211.out 2).trans rfl; have hcz93_3 : w91.cell? ⟨gb211,3,none⟩ = some (.string t205) := (blk_cell BK211.out 3).trans rfl; have hfz93_0 := blk_frozen BK211.out 0; have hfz93_1 := blk_frozen BK211.out 1; have hfz93_2 := blk_frozen BK211.out 2; have hfz93_3 := blk_frozen BK211.out 3))
           go_ret
           exact ⟨by first | rfl | (simp [errW_none,errW_some] <;> rfl) | (simp [*,errW_none,errW_some] <;> rfl),by repeat (first | (with_reducible first | exact HB.out | apply below_alloc | apply pw_below_drewN | apply below_drew1 | refine below_set ?_ GE210.out | refine below_set ?_ GE211.out | refine below_set ?_ GE212.out) | exact HB.out)⟩
          ·rw [if_neg c72] at H
           have c72b0 : decide (t215 ≤ 0) = false := decide_eq_false c72
           clear c72
           obtain rfl := Option.some.inj H
           try go_wp2
           have n0_ := Aside0.mk (blk_drew BK210.out)
           have n1_ := Aside0.mk (blk_drew BK211.out)
           have n2_ := Aside0.mk (blk_drew BK212.out)
           have n3_ := Aside0.mk (below_drew1 HB.out)
           clear BK210
           clear BK211
           clear BK212
           clear HB
           have BK210 := n0_
           have BK211 := n1_
           have BK212 := n2_
           have HB := n3_
           clear n0_ n1_ n2_ n3_
           refine start_ (n := 12) (S := fun w' => w'.cell? ⟨gb210,0,none⟩ = some (.int .i64 t198) ∧ w'.cell? ⟨gb210,1,none⟩ = some (.int .i64 t199) ∧ w'.cell? ⟨gb210,2,none⟩ = some (.int .i64 t200) ∧ w'.cell? ⟨gb210,3,none⟩ = some (.string t201) ∧ w'.cell? ⟨gb211,0,none⟩ = some (.int .i64 x212000_12) ∧ w'.cell? ⟨gb211,1,none⟩ = some (.int .i64 x212001_12) ∧ w'.cell? ⟨gb211,2,none⟩ = some (.int .i64 x212002_12) ∧ w'.cell? ⟨gb211,3,none⟩ = some (.string t205) ∧ w'.cell? ⟨gb212,0,none⟩ = some (.int .i64 x213000_12) ∧ w'.cell? ⟨gb212,1,none⟩ = some (.int .i64 x213001_12) ∧ w'.cell? ⟨gb212,2,none⟩ = some (.int .i64 x213002_12) ∧ w'.cell? ⟨gb212,3,none⟩ = some (.string t209)) (ds := []) #[false,false,false,false,false,false,false,false,false,false,false,false] (by kernel_rfl) rfl rfl ⟨(blk_cell BK210.out 0).trans rfl,(blk_cell BK210.out 1).trans rfl,(blk_cell BK210.out 2).trans rfl,(blk_cell BK210.out 3).trans rfl,(blk_cell BK211.out 0).trans rfl,(blk_cell BK211.out 1).trans rfl,(blk_cell BK211.out 2).trans rfl,(blk_cell BK211.out 3).trans rfl,(blk_cell BK212.out 0).trans rfl,(blk_cell BK212.out 1).trans rfl,(blk_cell BK212.out 2).trans rfl,(blk_cell BK212.out 3).trans rfl⟩ (fun hHeld => ?_); refine with_tabW transhumancelaw2_VerOrder.tab7 transhumancelaw2_VerOrder.bits7 (fun HT_ HW_ => ?_)
           generalize wc.drew = w94 at BK210 BK211 BK212 HB hHeld ⊢
           refine take_ (i := 0) (N := some 51) (v := ?_) (a' := ?_) #[true,false,false,false,false,false,false,false,false,false,false,false] rfl rfl (take_ofW HT_.out HW_.out (by kernel_rfl)) (fun _ _ _ h => h) (Or.inl ⟨by rfl,?_⟩) hHeld ?_ ?_
           rotate_left
           ·rintro w' ⟨s0,s1,s2,s3,s4,s5,s6,s7,s8,s9,s10,s11⟩
            go_simp
            with_reducible rfl
           rotate_left
           ·simp only [Act.put,List.setIfInBounds_toArray,List.set_cons_zero,List.set_cons_succ,i64_w,i32_w]
            rfl
           refine take_ (i := 1) (N := some 52) (v := ?_) (a' := ?_) #[true,true,false,false,false,false,false,false,false,false,false,false] rfl rfl (take_ofW HT_.out HW_.out (by kernel_rfl)) (fun _ _ _ h => h) (Or.inl ⟨by rfl,?_⟩) hHeld ?_ ?_
           rotate_left
           ·rintro w' ⟨s0,s1,s2,s3,s4,s5,s6,s7,s8,s9,s10,s11⟩
            go_simp
            with_reducible rfl
           rotate_left
           ·simp only [Act.put,List.setIfInBounds_toArray,List.set_cons_zero,List.set_cons_succ,i64_w,i32_w]
            rfl
           refine take_ (i := 3) (N := some 54) (v := ?_) (a' := ?_) #[true,true,false,true,false,false,false,false,false,false,false,false] rfl rfl (take_ofW HT_.out HW_.out (by kernel_rfl)) (fun _ _ _ h => h) (Or.inl ⟨by rfl,?_⟩) hHeld ?_ ?_
           rotate_left
           ·rintro w' ⟨s0,s1,s2,s3,s4,s5,s6,s7,s8,s9,s10,s11⟩
            go_simp
            with_reducible rfl
           rotate_left
           ·simp only [Act.put,List.setIfInBounds_toArray,List.set_cons_zero,List.set_cons_succ,i64_w,i32_w]
            rfl
           refine take_ (i := 4) (N := some 55) (v := ?_) (a' := ?_) #[true,true,false,true,true,false,false,false,false,false,false,false] rfl rfl (take_ofW HT_.out HW_.out (by kernel_rfl)) (fun _ _ _ h => h) (Or.inl ⟨by rfl,?_⟩) hHeld ?_ ?_
           rotate_left
           ·rintro w' ⟨s0,s1,s2,s3,s4,s5,s6,s7,s8,s9,s10,s11⟩
            go_simp
            with_reducible rfl
           rotate_left
           ·simp only [Act.put,List.setIfInBounds_toArray,List.set_cons_zero,List.set_cons_succ,i64_w,i32_w]
            rfl
           refine take_ (i := 6) (N := some 57) (v := ?_) (a' := ?_) #[true,true,false,true,true,false,true,false,false,false,false,false] rfl rfl (take_ofW HT_.out HW_.out (by kernel_rfl)) (fun _ _ _ h => h) (Or.inl ⟨by rfl,?_⟩) hHeld ?_ ?_
           rotate_left
           ·rintro w' ⟨s0,s1,s2,s3,s4,s5,s6,s7,s8,s9,s10,s11⟩
            go_simp
            with_reducible rfl
           rotate_left
           ·simp only [Act.put,List.setIfInBounds_toArray,List.set_cons_zero,List.set_cons_succ,i64_w,i32_w]
            rfl
           refine take_ (i := 7) (N := some 58) (v := ?_) (a' := ?_) #[true,true,false,true,true,false,true,true,false,false,false,false] rfl rfl (take_ofW HT_.out HW_.out (by kernel_rfl)) (fun _ _ _ h => h) (Or.inl ⟨by rfl,?_⟩) hHeld ?_ ?_
           rotate_left
           ·rintro w' ⟨s0,s1,s2,s3,s4,s5,s6,s7,s8,s9,s10,s11⟩
            go_simp
            with_reducible rfl
           rotate_left
           ·simp only [Act.put,List.setIfInBounds_toArray,List.set_cons_zero,List.set_cons_succ,i64_w,i32_w]
            rfl
           refine one_ (i := 2) (N := some 53) #[true,true,true,true,true,false,true,true,false,false,false,false] rfl rfl (one_of HT_.out (by kernel_rfl)) (by decide) (fun K hK => ?_)
           refine goes_ Tryz.func19 (by kernel_rfl) rfl #[.agg #[.int .i64 t198,.int .i64 t199,.int .i64 t200,.string t201],.agg #[.int .i64 x212000_12,.int .i64 x212001_12,.int .i64 x212002_12,.string t205]] (by rfl) rfl rfl (by (try simp only [List.map_toArray,List.map_cons,List.map_nil]); first | done | rfl | (simp only [List.length_drop,List.length_take]; rfl)) ?_
           with_reducible refine (ver_Cmp.calls kj12 t198 t199 t200 t201 x212000_12 x212001_12 x212002_12 t205 t214 _ ?side1 A38.out).mono ?_
           (case side1 => exact GL.below0 hG (by repeat (first | (with_reducible first | exact HB.out | apply below_alloc | apply pw_below_drewN | apply below_drew1 | refine below_set ?_ GE210.out | refine below_set ?_ GE211.out | refine below_set ?_ GE212.out) | exact HB.out)))
           rintro e w95 ⟨rfl,hb⟩
           refine ⟨_,rfl,?_⟩
           have n0_ := Aside0.mk (blk_below (g := gb210) (o := .cells #[.int .i64 t198,.int .i64 t199,.int .i64 t200,.string t201] 25 (0,0)) (by (with_reducible repeat (first | refine blk_drewN ?_ _ | refine blk_drew ?_ | refine blk_alloc ?_ _)); exact BK210.out) hb)
           have n1_ := Aside0.mk (blk_below (g := gb211) (o := .cells #[.int .i64 x212000_12,.int .i64 x212001_12,.int .i64 x212002_12,.string t205] 25 (0,0)) (by (with_reducible repeat (first | refine blk_drewN ?_ _ | refine blk_drew ?_ | refine blk_alloc ?_ _)); exact BK211.out) hb)
           have n2_ := Aside0.mk (blk_below (g := gb212) (o := .cells #[.int .i64 x213000_12,.int .i64 x213001_12,.int .i64 x213002_12,.string t209] 25 (0,0)) (by (with_reducible repeat (first | refine blk_drewN ?_ _ | refine blk_drew ?_ | refine blk_alloc ?_ _)); exact BK212.out) hb)
           have n3_ := Aside0.mk (below_step (by repeat (first | (with_reducible first | exact HB.out | apply below_alloc | apply pw_below_drewN | apply below_drew1 | refine below_set ?_ GE210.out | refine below_set ?_ GE211.out | refine below_set ?_ GE212.out) | exact HB.out)) hb)
           clear BK210
           clear BK211
           clear BK212
           clear HB
           have BK210 := n0_
           have BK211 := n1_
           have BK212 := n2_
           have HB := n3_
           clear n0_ n1_ n2_ n3_
           (try clear hb)
           (try clear hb2)
           (try clear hk)
           (try clear hi)
           refine hK.out _ _ ⟨(blk_cell BK210.out 0).trans rfl,(blk_cell BK210.out 1).trans rfl,(blk_cell BK210.out 2).trans rfl,(blk_cell BK210.out 3).trans rfl,(blk_cell BK211.out 0).trans rfl,(blk_cell BK211.out 1).trans rfl,(blk_cell BK211.out 2).trans rfl,(blk_cell BK211.out 3).trans rfl,(blk_cell BK212.out 0).trans rfl,(blk_cell BK212.out 1).trans rfl,(blk_cell BK212.out 2).trans rfl,(blk_cell BK212.out 3).trans rfl⟩ (fun hHeld => ?_)
           clear hK K
           refine norm_ (a' := ?_) ?_ ?_
           rotate_left
           ·show Act.put _ (some 53) _ = _
            simp only [Act.put,List.setIfInBounds_toArray,List.set_cons_zero,List.set_cons_succ,i64_w,i32_w]
            rfl
           refine one_ (i := 5) (N := some 56) #[true,true,true,true,true,true,true,true,false,false,false,false] rfl rfl (one_of HT_.out (by kernel_rfl)) (by decide) (fun K hK => ?_)
           refine goes_ Tryz.func19 (by kernel_rfl) rfl #[.agg #[.int .i64 x212000_12,.int .i64 x212001_12,.int .i64 x212002_12,.string t205],.agg #[.int .i64 x213000_12,.int .i64 x213001_12,.int .i64 x213002_12,.string t209]] (by rfl) rfl rfl (by (try simp only [List.map_toArray,List.map_cons,List.map_nil]); first | done | rfl | (simp only [List.length_drop,List.length_take]; rfl)) ?_
           with_reducible refine (ver_Cmp.calls kj12 x212000_12 x212001_12 x212002_12 t205 x213000_12 x213001_12 x213002_12 t209 t215 _ ?side1 A39.out).mono ?_
           (case side1 => exact GL.below0 hG (by repeat (first | (with_reducible first | exact HB.out | apply below_alloc | apply pw_below_drewN | apply below_drew1 | refine below_set ?_ GE210.out | refine below_set ?_ GE211.out | refine below_set ?_ GE212.out) | exact HB.out)))
           rintro e w96 ⟨rfl,hb⟩
           refine ⟨_,rfl,?_⟩
           have n0_ := Aside0.mk (blk_below (g := gb210) (o := .cells #[.int .i64 t198,.int .i64 t199,.int .i64 t200,.string t201] 25 (0,0)) (by (with_reducible repeat (first | refine blk_drewN ?_ _ | refine blk_drew ?_ | refine blk_alloc ?_ _)); exact BK210.out) hb)
           have n1_ := Aside0.mk (blk_below (g := gb211) (o := .cells #[.int .i64 x212000_12,.int .i64 x212001_12,.int .i64 x212002_12,.string t205] 25 (0,0)) (by (with_reducible repeat (first | refine blk_drewN ?_ _ | refine blk_drew ?_ | refine blk_alloc ?_ _)); exact BK211.out) hb)
           have n2_ := Aside0.mk (blk_below (g := gb212) (o := .cells #[.int .i64 x213000_12,.int .i64 x213001_12,.int .i64 x213002_12,.string t209] 25 (0,0)) (by (with_reducible repeat (first | refine blk_drewN ?_ _ | refine blk_drew ?_ | refine blk_alloc ?_ _)); exact BK212.out) hb)
           have n3_ := Aside0.mk (below_step (by repeat (first | (with_reducible first | exact HB.out | apply below_alloc | apply pw_below_drewN | apply below_drew1 | refine below_set ?_ GE210.out | refine below_set ?_ GE211.out | refine below_set ?_ GE212.out) | exact HB.out)) hb)
           clear BK210
           clear BK211
           clear BK212
           clear HB
           have BK210 := n0_
           have BK211 := n1_
           have BK212 := n2_
           have HB := n3_
           clear n0_ n1_ n2_ n3_
           (try clear hb)
           (try clear hb2)
           (try clear hk)
           (try clear hi)
           refine hK.out _ _ ⟨(blk_cell BK210.out 0).trans rfl,(blk_cell BK210.out 1).trans rfl,(blk_cell BK210.out 2).trans rfl,(blk_cell BK210.out 3).trans rfl,(blk_cell BK211.out 0).trans rfl,(blk_cell BK211.out 1).trans rfl,(blk_cell BK211.out 2).trans rfl,(blk_cell BK211.out 3).trans rfl,(blk_cell BK212.out 0).trans rfl,(blk_cell BK212.out 1).trans rfl,(blk_cell BK212.out 2).trans rfl,(blk_cell BK212.out 3).trans rfl⟩ (fun hHeld => ?_)
           clear hK K
           refine norm_ (a' := ?_) ?_ ?_
           rotate_left
           ·show Act.put _ (some 56) _ = _
            simp only [Act.put,List.setIfInBounds_toArray,List.set_cons_zero,List.set_cons_succ,i64_w,i32_w]
            rfl
           refine one_ (i := 8) (N := some 59) #[true,true,true,true,true,true,true,true,true,false,false,false] rfl rfl (one_of HT_.out (by kernel_rfl)) (by decide) (fun K hK => ?_)
           refine goes_ Tryz.func19 (by kernel_rfl) rfl #[.agg #[.int .i64 t198,.int .i64 t199,.int .i64 t200,.string t201],.agg #[.int .i64 x213000_12,.int .i64 x213001_12,.int .i64 x213002_12,.string t209]] (by rfl) rfl rfl (by (try simp only [List.map_toArray,List.map_cons,List.map_nil]); first | done | rfl | (simp only [List.length_drop,List.length_take]; rfl)) ?_
           with_reducible refine (ver_Cmp.calls kj12 t198 t199 t200 t201 x213000_12 x213001_12 x213002_12 t209 t216 _ ?side1 A40.out).mono ?_
           (case side1 => exact GL.below0 hG (by repeat (first | (with_reducible first | exact HB.out | apply below_alloc | apply pw_below_drewN | apply below_drew1 | refine below_set ?_ GE210.out | refine below_set ?_ GE211.out | refine below_set ?_ GE212.out) | exact HB.out)))
           rintro e w97 ⟨rfl,hb⟩
           refine ⟨_,rfl,?_⟩
           have n0_ := Aside0.mk (blk_below (g := gb210) (o := .cells #[.int .i64 t198,.int .i64 t199,.int .i64 t200,.string t201] 25 (0,0)) (by (with_reducible repeat (first | refine blk_drewN ?_ _ | refine blk_drew ?_ | refine blk_alloc ?_ _)); exact BK210.out) hb)
           have n1_ := Aside0.mk (blk_below (g := gb211) (o := .cells #[.int .i64 x212000_12,.int .i64 x212001_12,.int .i64 x212002_12,.string t205] 25 (0,0)) (by (with_reducible repeat (first | refine blk_drewN ?_ _ | refine blk_drew ?_ | refine blk_alloc ?_ _)); exact BK211.out) hb)
           have n2_ := Aside0.mk (blk_below (g := gb212) (o := .cells #[.int .i64 x213000_12,.int .i64 x213001_12,.int .i64 x213002_12,.string t209] 25 (0,0)) (by (with_reducible repeat (first | refine blk_drewN ?_ _ | refine blk_drew ?_ | refine blk_alloc ?_ _)); exact BK212.out) hb)
           have n3_ := Aside0.mk (below_step (by repeat (first | (with_reducible first | exact HB.out | apply below_alloc | apply pw_below_drewN | apply below_drew1 | refine below_set ?_ GE210.out | refine below_set ?_ GE211.out | refine below_set ?_ GE212.out) | exact HB.out)) hb)
           clear BK210
           clear BK211
           clear BK212
           clear HB
           have BK210 := n0_
           have BK211 := n1_
           have BK212 := n2_
           have HB := n3_
           clear n0_ n1_ n2_ n3_
           (try clear hb)
           (try clear hb2)
           (try clear hk)
           (try clear hi)
           refine hK.out _ _ ⟨(blk_cell BK210.out 0).trans rfl,(blk_cell BK210.out 1).trans rfl,(blk_cell BK210.out 2).trans rfl,(blk_cell BK210.out 3).trans rfl,(blk_cell BK211.out 0).trans rfl,(blk_cell BK211.out 1).trans rfl,(blk_cell BK211.out 2).trans rfl,(blk_cell BK211.out 3).trans rfl,(blk_cell BK212.out 0).trans rfl,(blk_cell BK212.out 1).trans rfl,(blk_cell BK212.out 2).trans rfl,(blk_cell BK212.out 3).trans rfl⟩ (fun hHeld => ?_)
           clear hK K
           refine norm_ (a' := ?_) ?_ ?_
           rotate_left
           ·show Act.put _ (some 59) _ = _
            simp only [Act.put,List.setIfInBounds_toArray,List.set_cons_zero,List.set_cons_succ,i64_w,i32_w]
            rfl
           refine pure_ (i := 9) (N := some 16) (v := ?_) (a' := ?_) #[true,true,true,true,true,true,true,true,true,true,false,false] rfl rfl (any_of HT_.out (by kernel_rfl)) (fun _ _ _ h => h) (Or.inl ⟨by rfl,?_⟩) ?_ ?_
           rotate_left
           ·intro w'
            go_simp
            with_reducible rfl
           rotate_left
           ·simp only [Act.put,List.setIfInBounds_toArray,List.set_cons_zero,List.set_cons_succ,i64_w,i32_w]
            rfl
           refine pure_ (i := 10) (N := some 17) (v := ?_) (a' := ?_) #[true,true,true,true,true,true,true,true,true,true,true,false] rfl rfl (any_of HT_.out (by kernel_rfl)) (fun _ _ _ h => h) (Or.inl ⟨by rfl,?_⟩) ?_ ?_
           rotate_left
           ·intro w'
            go_simp
            with_reducible rfl
           rotate_left
           ·simp only [Act.put,List.setIfInBounds_toArray,List.set_cons_zero,List.set_cons_succ,i64_w,i32_w]
            rfl
           refine pure_ (i := 11) (N := some 18) (v := ?_) (a' := ?_) #[true,true,true,true,true,true,true,true,true,true,true,true] rfl rfl (any_of HT_.out (by kernel_rfl)) (fun _ _ _ h => h) (Or.inl ⟨by rfl,?_⟩) ?_ ?_
           rotate_left
           ·intro w'
            go_simp
            with_reducible rfl
           rotate_left
           ·simp only [Act.put,List.setIfInBounds_toArray,List.set_cons_zero,List.set_cons_succ,i64_w,i32_w]
            rfl
           refine done_ (done_of HT_.out (by kernel_rfl)) ?_
           have hnb98 := NB210_211.out
           have hnc98 := NB211_210.out
           have hnb99 := NB210_212.out
           have hnc99 := NB212_210.out
           have hcz100_0 : w97.cell? ⟨gb210,0,none⟩ = some (.int .i64 t198) := (blk_cell BK210.out 0).trans rfl
           have hcz100_1 : w97.cell? ⟨gb210,1,none⟩ = some (.int .i64 t199) := (blk_cell BK210.out 1).trans rfl
           have hcz100_2 : w97.cell? ⟨gb210,2,none⟩ = some (.int .i64 t200) := (blk_cell BK210.out 2).trans rfl
           have hcz100_3 : w97.cell? ⟨gb210,3,none⟩ = some (.string t201) := (blk_cell BK210.out 3).trans rfl
           have hfz100_0 := blk_frozen BK210.out 0
           have hfz100_1 := blk_frozen BK210.out 1
           have hfz100_2 := blk_frozen BK210.out 2
           have hfz100_3 := blk_frozen BK210.out 3
           have hnb101 := NB211_212.out
           have hnc101 := NB212_211.out
           have hcz102_0 : w97.cell? ⟨gb211,0,none⟩ = some (.int .i64 x212000_12) := (blk_cell BK211.out 0).trans rfl
           have hcz102_1 : w97.cell? ⟨gb211,1,none⟩ = some (.int .i64 x212001_12) := (blk_cell BK211.out 1).trans rfl
           have hcz102_2 : w97.cell? ⟨gb211,2,none⟩ = some (.int .i64 x212002_12) := (blk_cell BK211.out 2).trans rfl
           have hcz102_3 : w97.cell? ⟨gb211,3,none⟩ = some (.string t205) := (blk_cell BK211.out 3).trans rfl
           have hfz102_0 := blk_frozen BK211.out 0
           have hfz102_1 := blk_frozen BK211.out 1
           have hfz102_2 := blk_frozen BK211.out 2
           have hfz102_3 := blk_frozen BK211.out 3
           try go_wp2_with (first | ((with_reducible refine gate_callee (f := 20) rfl ?_); refine goesL_ (some 63) rfl rfl Tryz.func20 (by kernel_rfl) rfl #[.agg #[.int .i64 t198,.int .i64 t199,.int .i64 t200,.string t201],.agg #[.int .i64 x212000_12,.int .i64 x212001_12,.int .i64 x212002_12,.string t205]] rfl (by (try simp only [List.map_toArray,List.map_cons,List.map_nil]); first | done | rfl | (simp only [List.length_drop,List.length_take]; rfl)) ?_; (with_reducible refine (transhumanceref2_Cmp.calls kj12 t198 t199 t200 t201 x212000_12 x212001_12 x212002_12 t205 t217 _ A41.out).mono ?_); rintro e w103 ⟨rfl,hb⟩; refine ⟨_,rfl,?_⟩; have n0_ := Aside0.mk (blk_below (g := gb210) (o := .cells #[.int .i64 t198,.int .i64 t199,.int .i64 t200,.string t201] 25 (0,0)) (by (with_reducible repeat (first | refine blk_drewN ?_ _ | refine blk_drew ?_ | refine blk_alloc ?_ _)); exact BK210.out) hb); have n1_ := Aside0.mk (blk_below (g := gb211) (o := .cells #[.int .i64 x212000_12,.int .i64 x212001_12,.int .i64 x212002_12,.string t205] 25 (0,0)) (by (with_reducible repeat (first | refine blk_drewN ?_ _ | refine blk_drew ?_ | refine blk_alloc ?_ _)); exact BK211.out) hb); have n2_ := Aside0.mk (blk_below (g := gb212) (o := .cells #[.int .i64 x213000_12,.int .i64 x213001_12,.int .i64 x213002_12,.string t209] 25 (0,0)) (by (with_reducible repeat (first | refine blk_drewN ?_ _ | refine blk_drew ?_ | refine blk_alloc ?_ _)); exact BK212.out) hb); have n3_ := Aside0.mk (below_step (by repeat (first | (with_reducible first | exact HB.out | apply below_alloc | apply pw_below_drewN | apply below_drew1 | refine below_set ?_ GE210.out | refine below_set ?_ GE211.out | refine below_set ?_ GE212.out) | exact HB.out)) hb); clear BK210; clear BK211; clear BK212; clear HB; have BK210 := n0_; have BK211 := n1_; have BK212 := n2_; have HB := n3_; clear n0_ n1_ n2_ n3_; (try clear hb); (try clear hb2); (try clear hk); (try clear hi); have hcz104_0 : w103.cell? ⟨gb211,0,none⟩ = some (.int .i64 x212000_12) := (blk_cell BK211.out 0).trans rfl; have hcz104_1 : w103.cell? ⟨gb211,1,none⟩ = some (.int .i64 x212001_12) := (blk_cell BK211.out 1).trans rfl; have hcz104_2 : w103.cell? ⟨gb211,2,none⟩ = some (.int .i64 x212002_12) := (blk_cell BK211.out 2).trans rfl; have hcz104_3 : w103.cell? ⟨gb211,3,none⟩ = some (.string t205) := (blk_cell BK211.out 3).trans rfl; have hfz104_0 := blk_frozen BK211.out 0; have hfz104_1 := blk_frozen BK211.out 1; have hfz104_2 := blk_frozen BK211.out 2; have hfz104_3 := blk_frozen BK211.out 3; have hcz105_0 : w103.cell? ⟨gb212,0,none⟩ = some (.int .i64 x213000_12) := (blk_cell BK212.out 0).trans rfl; have hcz105_1 : w103.cell? ⟨gb212,1,none⟩ = some (.int .i64 x213001_12) := (blk_cell BK212.out 1).trans rfl; have hcz105_2 : w103.cell? ⟨gb212,2,none⟩ = some (.int .i64 x213002_12) := (blk_cell BK212.out 2).trans rfl; have hcz105_3 : w103.cell? ⟨gb212,3,none⟩ = some (.string t209) := (blk_cell BK212.out 3).trans rfl; have hfz105_0 := blk_frozen BK212.out 0; have hfz105_1 := blk_frozen BK212.out 1; have hfz105_2 := blk_frozen BK212.out 2; have hfz105_3 := blk_frozen BK212.out 3) | (go_at_call 20; (with_reducible refine (transhumanceref2_Cmp.calls kj12 x212000_12 x212001_12 x212002_12 t205 x213000_12 x213001_12 x213002_12 t209 t218 _ A43.out).mono ?_); rintro e w106 ⟨rfl,hb⟩; have n0_ := Aside0.mk (blk_below (g := gb210) (o := .cells #[.int .i64 t198,.int .i64 t199,.int .i64 t200,.string t201] 25 (0,0)) (by (with_reducible repeat (first | refine blk_drewN ?_ _ | refine blk_drew ?_ | refine blk_alloc ?_ _)); exact BK210.out) hb); have n1_ := Aside0.mk (blk_below (g := gb211) (o := .cells #[.int .i64 x212000_12,.int .i64 x212001_12,.int .i64 x212002_12,.string t205] 25 (0,0)) (by (with_reducible repeat (first | refine blk_drewN ?_ _ | refine blk_drew ?_ | refine blk_alloc ?_ _)); exact BK211.out) hb); have n2_ := Aside0.mk (blk_below (g := gb212) (o := .cells #[.int .i64 x213000_12,.int .i64 x213001_12,.int .i64 x213002_12,.string t209] 25 (0,0)) (by (with_reducible repeat (first | refine blk_drewN ?_ _ | refine blk_drew ?_ | refine blk_alloc ?_ _)); exact BK212.out) hb); have n3_ := Aside0.mk (below_step (by repeat (first | (with_reducible first | exact HB.out | apply below_alloc | apply pw_below_drewN | apply below_drew1 | refine below_set ?_ GE210.out | refine below_set ?_ GE211.out | refine below_set ?_ GE212.out) | exact HB.out)) hb); clear BK210; clear BK211; clear BK212; clear HB; have BK210 := n0_; have BK211 := n1_; have BK212 := n2_; have HB := n3_; clear n0_ n1_ n2_ n3_; (try clear hb); (try clear hb2); (try clear hk); (try clear hi); have hcz107_0 : w106.cell? ⟨gb210,0,none⟩ = some (.int .i64 t198) := (blk_cell BK210.out 0).trans rfl; have hcz107_1 : w106.cell? ⟨gb210,1,none⟩ = some (.int .i64 t199) := (blk_cell BK210.out 1).trans rfl; have hcz107_2 : w106.cell? ⟨gb210,2,none⟩ = some (.int .i64 t200) := (blk_cell BK210.out 2).trans rfl; have hcz107_3 : w106.cell? ⟨gb210,3,none⟩ = some (.string t201) := (blk_cell BK210.out 3).trans rfl; have hfz107_0 := blk_frozen BK210.out 0; have hfz107_1 := blk_frozen BK210.out 1; have hfz107_2 := blk_frozen BK210.out 2; have hfz107_3 := blk_frozen BK210.out 3; have hcz108_0 : w106.cell? ⟨gb212,0,none⟩ = some (.int .i64 x213000_12) := (blk_cell BK212.out 0).trans rfl; have hcz108_1 : w106.cell? ⟨gb212,1,none⟩ = some (.int .i64 x213001_12) := (blk_cell BK212.out 1).trans rfl; have hcz108_2 : w106.cell? ⟨gb212,2,none⟩ = some (.int .i64 x213002_12) := (blk_cell BK212.out 2).trans rfl; have hcz108_3 : w106.cell? ⟨gb212,3,none⟩ = some (.string t209) := (blk_cell BK212.out 3).trans rfl; have hfz108_0 := blk_frozen BK212.out 0; have hfz108_1 := blk_frozen BK212.out 1; have hfz108_2 := blk_frozen BK212.out 2; have hfz108_3 := blk_frozen BK212.out 3) | (go_at_call 20; (with_reducible refine (transhumanceref2_Cmp.calls kj12 t198 t199 t200 t201 x213000_12 x213001_12 x213002_12 t209 t219 _ A45.out).mono ?_); rintro e w109 ⟨rfl,hb⟩; have n0_ := Aside0.mk (blk_below (g := gb210) (o := .cells #[.int .i64 t198,.int .i64 t199,.int .i64 t200,.string t201] 25 (0,0)) (by (with_reducible repeat (first | refine blk_drewN ?_ _ | refine blk_drew ?_ | refine blk_alloc ?_ _)); exact BK210.out) hb); have n1_ := Aside0.mk (blk_below (g := gb211) (o := .cells #[.int .i64 x212000_12,.int .i64 x212001_12,.int .i64 x212002_12,.string t205] 25 (0,0)) (by (with_reducible repeat (first | refine blk_drewN ?_ _ | refine blk_drew ?_ | refine blk_alloc ?_ _)); exact BK211.out) hb); have n2_ := Aside0.mk (blk_below (g := gb212) (o := .cells #[.int .i64 x213000_12,.int .i64 x213001_12,.int .i64 x213002_12,.string t209] 25 (0,0)) (by (with_reducible repeat (first | refine blk_drewN ?_ _ | refine blk_drew ?_ | refine blk_alloc ?_ _)); exact BK212.out) hb); have n3_ := Aside0.mk (below_step (by repeat (first | (with_reducible first | exact HB.out | apply below_alloc | apply pw_below_drewN | apply below_drew1 | refine below_set ?_ GE210.out | refine below_set ?_ GE211.out | refine below_set ?_ GE212.out) | exact HB.out)) hb); clear BK210; clear BK211; clear BK212; clear HB; have BK210 := n0_; have BK211 := n1_; have BK212 := n2_; have HB := n3_; clear n0_ n1_ n2_ n3_; (try clear hb); (try clear hb2); (try clear hk); (try clear hi); have hcz110_0 : w109.cell? ⟨gb211,0,none⟩ = some (.int .i64 x212000_12) := (blk_cell BK211.out 0).trans rfl; have hcz110_1 : w109.cell? ⟨gb211,1,none⟩ = some (.int .i64 x212001_12) := (blk_cell BK211.out 1).trans rfl; have hcz110_2 : w109.cell? ⟨gb211,2,none⟩ = some (.int .i64 x212002_12) := (blk_cell BK211.out 2).trans rfl; have hcz110_3 : w109.cell? ⟨gb211,3,none⟩ = some (.string t205) := (blk_cell BK211.out 3).trans rfl; have hfz110_0 := blk_frozen BK211.out 0; have hfz110_1 := blk_frozen BK211.out 1; have hfz110_2 := blk_frozen BK211.out 2; have hfz110_3 := blk_frozen BK211.out 3; have hcz111_0 : w109.cell? ⟨gb210,0,none⟩ = some (.int .i64 t198) := (blk_cell BK210.out 0).trans rfl; have hcz111_1 : w109.cell? ⟨gb210,1,none⟩ = some (.int .i64 t199) := (blk_cell BK210.out 1).trans rfl; have hcz111_2 : w109.cell? ⟨gb210,2,none⟩ = some (.int .i64 t200) := (blk_cell BK210.out 2).trans rfl; have hcz111_3 : w109.cell? ⟨gb210,3,none⟩ = some (.string t201) := (blk_cell BK210.out 3).trans rfl; have hfz111_0 := blk_frozen BK210.out 0; have hfz111_1 := blk_frozen BK210.out 1; have hfz111_2 := blk_frozen BK210.out 2; have hfz111_3 := blk_frozen BK210.out 3) | (go_at_call 19; (with_reducible refine (ver_Cmp.calls kj12 x212000_12 x212001_12 x212002_12 t205 t198 t199 t200 t201 t220 _ ?side1 A47.out).mono ?_); (case side1 => exact GL.below0 hG (by repeat (first | (with_reducible first | exact HB.out | apply below_alloc | apply pw_below_drewN | apply below_drew1 | refine below_set ?_ GE210.out | refine below_set ?_ GE211.out | refine below_set ?_ GE212.out) | exact HB.out))); rintro e w112 ⟨rfl,hb⟩; have n0_ := Aside0.mk (blk_below (g := gb210) (o := .cells #[.int .i64 t198,.int .i64 t199,.int .i64 t200,.string t201] 25 (0,0)) (by (with_reducible repeat (first | refine blk_drewN ?_ _ | refine blk_drew ?_ | refine blk_alloc ?_ _)); exact BK210.out) hb); have n1_ := Aside0.mk (blk_below (g := gb211) (o := .cells #[.int .i64 x212000_12,.int .i64 x212001_12,.int .i64 x212002_12,.string t205] 25 (0,0)) (by (with_reducible repeat (first | refine blk_drewN ?_ _ | refine blk_drew ?_ | refine blk_alloc ?_ _)); exact BK211.out) hb); have n2_ := Aside0.mk (blk_below (g := gb212) (o := .cells #[.int .i64 x213000_12,.int .i64 x213001_12,.int .i64 x213002_12,.string t209] 25 (0,0)) (by (with_reducible repeat (first | refine blk_drewN ?_ _ | refine blk_drew ?_ | refine blk_alloc ?_ _)); exact BK212.out) hb); have n3_ := Aside0.mk (below_step (by repeat (first | (with_reducible first | exact HB.out | apply below_alloc | apply pw_below_drewN | apply below_drew1 | refine below_set ?_ GE210.out | refine below_set ?_ GE211.out | refine below_set ?_ GE212.out) | exact HB.out)) hb); clear BK210; clear BK211; clear BK212; clear HB; have BK210 := n0_; have BK211 := n1_; have BK212 := n2_; have HB := n3_; clear n0_ n1_ n2_ n3_; (try clear hb); (try clear hb2); (try clear hk); (try clear hi); have hcz113_0 : w112.cell? ⟨gb210,0,none⟩ = some (.int .i64 t198) := (blk_cell BK210.out 0).trans rfl; have hcz113_1 : w112.cell? ⟨gb210,1,none⟩ = some (.int .i64 t199) := (blk_cell BK210.out 1).trans rfl; have hcz113_2 : w112.cell? ⟨gb210,2,none⟩ = some (.int .i64 t200) := (blk_cell BK210.out 2).trans rfl; have hcz113_3 : w112.cell? ⟨gb210,3,none⟩ = some (.string t201) := (blk_cell BK210.out 3).trans rfl; have hfz113_0 := blk_frozen BK210.out 0; have hfz113_1 := blk_frozen BK210.out 1; have hfz113_2 := blk_frozen BK210.out 2; have hfz113_3 := blk_frozen BK210.out 3; have hcz114_0 : w112.cell? ⟨gb211,0,none⟩ = some (.int .i64 x212000_12) := (blk_cell BK211.out 0).trans rfl; have hcz114_1 : w112.cell? ⟨gb211,1,none⟩ = some (.int .i64 x212001_12) := (blk_cell BK211.out 1).trans rfl; have hcz114_2 : w112.cell? ⟨gb211,2,none⟩ = some (.int .i64 x212002_12) := (blk_cell BK211.out 2).trans rfl; have hcz114_3 : w112.cell? ⟨gb211,3,none⟩ = some (.string t205) := (blk_cell BK211.out 3).trans rfl; have hfz114_0 := blk_frozen BK211.out 0; have hfz114_1 := blk_frozen BK211.out 1; have hfz114_2 := blk_frozen BK211.out 2; have hfz114_3 := blk_frozen BK211.out 3))
           go_ret
           exact ⟨by first | rfl | (simp [errW_none,errW_some] <;> rfl) | (simp [*,errW_none,errW_some] <;> rfl),by repeat (first | (with_reducible first | exact HB.out | apply below_alloc | apply pw_below_drewN | apply below_drew1 | refine below_set ?_ GE210.out | refine below_set ?_ GE211.out | refine below_set ?_ GE212.out) | exact HB.out)⟩
         ·rw [if_neg c71] at H
          have c71b0 : decide (t214 ≤ 0) = false := decide_eq_false c71
          clear c71
          obtain rfl := Option.some.inj H
          try go_wp2
          have n0_ := Aside0.mk (blk_drew BK210.out)
          have n1_ := Aside0.mk (blk_drew BK211.out)
          have n2_ := Aside0.mk (blk_drew BK212.out)
          have n3_ := Aside0.mk (below_drew1 HB.out)
          clear BK210
          clear BK211
          clear BK212
          clear HB
          have BK210 := n0_
          have BK211 := n1_
          have BK212 := n2_
          have HB := n3_
          clear n0_ n1_ n2_ n3_
          refine start_ (n := 12) (S := fun w' => w'.cell? ⟨gb210,0,none⟩ = some (.int .i64 t198) ∧ w'.cell? ⟨gb210,1,none⟩ = some (.int .i64 t199) ∧ w'.cell? ⟨gb210,2,none⟩ = some (.int .i64 t200) ∧ w'.cell? ⟨gb210,3,none⟩ = some (.string t201) ∧ w'.cell? ⟨gb211,0,none⟩ = some (.int .i64 x212000_12) ∧ w'.cell? ⟨gb211,1,none⟩ = some (.int .i64 x212001_12) ∧ w'.cell? ⟨gb211,2,none⟩ = some (.int .i64 x212002_12) ∧ w'.cell? ⟨gb211,3,none⟩ = some (.string t205) ∧ w'.cell? ⟨gb212,0,none⟩ = some (.int .i64 x213000_12) ∧ w'.cell? ⟨gb212,1,none⟩ = some (.int .i64 x213001_12) ∧ w'.cell? ⟨gb212,2,none⟩ = some (.int .i64 x213002_12) ∧ w'.cell? ⟨gb212,3,none⟩ = some (.string t209)) (ds := []) #[false,false,false,false,false,false,false,false,false,false,false,false] (by kernel_rfl) rfl rfl ⟨(blk_cell BK210.out 0).trans rfl,(blk_cell BK210.out 1).trans rfl,(blk_cell BK210.out 2).trans rfl,(blk_cell BK210.out 3).trans rfl,(blk_cell BK211.out 0).trans rfl,(blk_cell BK211.out 1).trans rfl,(blk_cell BK211.out 2).trans rfl,(blk_cell BK211.out 3).trans rfl,(blk_cell BK212.out 0).trans rfl,(blk_cell BK212.out 1).trans rfl,(blk_cell BK212.out 2).trans rfl,(blk_cell BK212.out 3).trans rfl⟩ (fun hHeld => ?_); refine with_tabW transhumancelaw2_VerOrder.tab7 transhumancelaw2_VerOrder.bits7 (fun HT_ HW_ => ?_)
          generalize wc.drew = w115 at BK210 BK211 BK212 HB hHeld ⊢
          refine take_ (i := 0) (N := some 51) (v := ?_) (a' := ?_) #[true,false,false,false,false,false,false,false,false,false,false,false] rfl rfl (take_ofW HT_.out HW_.out (by kernel_rfl)) (fun _ _ _ h => h) (Or.inl ⟨by rfl,?_⟩) hHeld ?_ ?_
          rotate_left
          ·rintro w' ⟨s0,s1,s2,s3,s4,s5,s6,s7,s8,s9,s10,s11⟩
           go_simp
           with_reducible rfl
          rotate_left
          ·simp only [Act.put,List.setIfInBounds_toArray,List.set_cons_zero,List.set_cons_succ,i64_w,i32_w]
           rfl
          refine take_ (i := 1) (N := some 52) (v := ?_) (a' := ?_) #[true,true,false,false,false,false,false,false,false,false,false,false] rfl rfl (take_ofW HT_.out HW_.out (by kernel_rfl)) (fun _ _ _ h => h) (Or.inl ⟨by rfl,?_⟩) hHeld ?_ ?_
          rotate_left
          ·rintro w' ⟨s0,s1,s2,s3,s4,s5,s6,s7,s8,s9,s10,s11⟩
           go_simp
           with_reducible rfl
          rotate_left
          ·simp only [Act.put,List.setIfInBounds_toArray,List.set_cons_zero,List.set_cons_succ,i64_w,i32_w]
           rfl
          refine take_ (i := 3) (N := some 54) (v := ?_) (a' := ?_) #[true,true,false,true,false,false,false,false,false,false,false,false] rfl rfl (take_ofW HT_.out HW_.out (by kernel_rfl)) (fun _ _ _ h => h) (Or.inl ⟨by rfl,?_⟩) hHeld ?_ ?_
          rotate_left
          ·rintro w' ⟨s0,s1,s2,s3,s4,s5,s6,s7,s8,s9,s10,s11⟩
           go_simp
           with_reducible rfl
          rotate_left
          ·simp only [Act.put,List.setIfInBounds_toArray,List.set_cons_zero,List.set_cons_succ,i64_w,i32_w]
           rfl
          refine take_ (i := 4) (N := some 55) (v := ?_) (a' := ?_) #[true,true,false,true,true,false,false,false,false,false,false,false] rfl rfl (take_ofW HT_.out HW_.out (by kernel_rfl)) (fun _ _ _ h => h) (Or.inl ⟨by rfl,?_⟩) hHeld ?_ ?_
          rotate_left
          ·rintro w' ⟨s0,s1,s2,s3,s4,s5,s6,s7,s8,s9,s10,s11⟩
           go_simp
           with_reducible rfl
          rotate_left
          ·simp only [Act.put,List.setIfInBounds_toArray,List.set_cons_zero,List.set_cons_succ,i64_w,i32_w]
           rfl
          refine take_ (i := 6) (N := some 57) (v := ?_) (a' := ?_) #[true,true,false,true,true,false,true,false,false,false,false,false] rfl rfl (take_ofW HT_.out HW_.out (by kernel_rfl)) (fun _ _ _ h => h) (Or.inl ⟨by rfl,?_⟩) hHeld ?_ ?_
          rotate_left
          ·rintro w' ⟨s0,s1,s2,s3,s4,s5,s6,s7,s8,s9,s10,s11⟩
           go_simp
           with_reducible rfl
          rotate_left
          ·simp only [Act.put,List.setIfInBounds_toArray,List.set_cons_zero,List.set_cons_succ,i64_w,i32_w]
           rfl
          refine take_ (i := 7) (N := some 58) (v := ?_) (a' := ?_) #[true,true,false,true,true,false,true,true,false,false,false,false] rfl rfl (take_ofW HT_.out HW_.out (by kernel_rfl)) (fun _ _ _ h => h) (Or.inl ⟨by rfl,?_⟩) hHeld ?_ ?_
          rotate_left
          ·rintro w' ⟨s0,s1,s2,s3,s4,s5,s6,s7,s8,s9,s10,s11⟩
           go_simp
           with_reducible rfl
          rotate_left
          ·simp only [Act.put,List.setIfInBounds_toArray,List.set_cons_zero,List.set_cons_succ,i64_w,i32_w]
           rfl
          refine one_ (i := 2) (N := some 53) #[true,true,true,true,true,false,true,true,false,false,false,false] rfl rfl (one_of HT_.out (by kernel_rfl)) (by decide) (fun K hK => ?_)
          refine goes_ Tryz.func19 (by kernel_rfl) rfl #[.agg #[.int .i64 t198,.int .i64 t199,.int .i64 t200,.string t201],.agg #[.int .i64 x212000_12,.int .i64 x212001_12,.int .i64 x212002_12,.string t205]] (by rfl) rfl rfl (by (try simp only [List.map_toArray,List.map_cons,List.map_nil]); first | done | rfl | (simp only [List.length_drop,List.length_take]; rfl)) ?_
          with_reducible refine (ver_Cmp.calls kj12 t198 t199 t200 t201 x212000_12 x212001_12 x212002_12 t205 t214 _ ?side1 A38.out).mono ?_
          (case side1 => exact GL.below0 hG (by repeat (first | (with_reducible first | exact HB.out | apply below_alloc | apply pw_below_drewN | apply below_drew1 | refine below_set ?_ GE210.out | refine below_set ?_ GE211.out | refine below_set ?_ GE212.out) | exact HB.out)))
          rintro e w116 ⟨rfl,hb⟩
          refine ⟨_,rfl,?_⟩
          have n0_ := Aside0.mk (blk_below (g := gb210) (o := .cells #[.int .i64 t198,.int .i64 t199,.int .i64 t200,.string t201] 25 (0,0)) (by (with_reducible repeat (first | refine blk_drewN ?_ _ | refine blk_drew ?_ | refine blk_alloc ?_ _)); exact BK210.out) hb)
          have n1_ := Aside0.mk (blk_below (g := gb211) (o := .cells #[.int .i64 x212000_12,.int .i64 x212001_12,.int .i64 x212002_12,.string t205] 25 (0,0)) (by (with_reducible repeat (first | refine blk_drewN ?_ _ | refine blk_drew ?_ | refine blk_alloc ?_ _)); exact BK211.out) hb)
          have n2_ := Aside0.mk (blk_below (g := gb212) (o := .cells #[.int .i64 x213000_12,.int .i64 x213001_12,.int .i64 x213002_12,.string t209] 25 (0,0)) (by (with_reducible repeat (first | refine blk_drewN ?_ _ | refine blk_drew ?_ | refine blk_alloc ?_ _)); exact BK212.out) hb)
          have n3_ := Aside0.mk (below_step (by repeat (first | (with_reducible first | exact HB.out | apply below_alloc | apply pw_below_drewN | apply below_drew1 | refine below_set ?_ GE210.out | refine below_set ?_ GE211.out | refine below_set ?_ GE212.out) | exact HB.out)) hb)
          clear BK210
          clear BK211
          clear BK212
          clear HB
          have BK210 := n0_
          have BK211 := n1_
          have BK212 := n2_
          have HB := n3_
          clear n0_ n1_ n2_ n3_
          (try clear hb)
          (try clear hb2)
          (try clear hk)
          (try clear hi)
          refine hK.out _ _ ⟨(blk_cell BK210.out 0).trans rfl,(blk_cell BK210.out 1).trans rfl,(blk_cell BK210.out 2).trans rfl,(blk_cell BK210.out 3).trans rfl,(blk_cell BK211.out 0).trans rfl,(blk_cell BK211.out 1).trans rfl,(blk_cell BK211.out 2).trans rfl,(blk_cell BK211.out 3).trans rfl,(blk_cell BK212.out 0).trans rfl,(blk_cell BK212.out 1).trans rfl,(blk_cell BK212.out 2).trans rfl,(blk_cell BK212.out 3).trans rfl⟩ (fun hHeld => ?_)
          clear hK K
          refine norm_ (a' := ?_) ?_ ?_
          rotate_left
          ·show Act.put _ (some 53) _ = _
           simp only [Act.put,List.setIfInBounds_toArray,List.set_cons_zero,List.set_cons_succ,i64_w,i32_w]
           rfl
          refine one_ (i := 5) (N := some 56) #[true,true,true,true,true,true,true,true,false,false,false,false] rfl rfl (one_of HT_.out (by kernel_rfl)) (by decide) (fun K hK => ?_)
          refine goes_ Tryz.func19 (by kernel_rfl) rfl #[.agg #[.int .i64 x212000_12,.int .i64 x212001_12,.int .i64 x212002_12,.string t205],.agg #[.int .i64 x213000_12,.int .i64 x213001_12,.int .i64 x213002_12,.string t209]] (by rfl) rfl rfl (by (try simp only [List.map_toArray,List.map_cons,List.map_nil]); first | done | rfl | (simp only [List.length_drop,List.length_take]; rfl)) ?_
          with_reducible refine (ver_Cmp.calls kj12 x212000_12 x212001_12 x212002_12 t205 x213000_12 x213001_12 x213002_12 t209 t215 _ ?side1 A39.out).mono ?_
          (case side1 => exact GL.below0 hG (by repeat (first | (with_reducible first | exact HB.out | apply below_alloc | apply pw_below_drewN | apply below_drew1 | refine below_set ?_ GE210.out | refine below_set ?_ GE211.out | refine below_set ?_ GE212.out) | exact HB.out)))
          rintro e w117 ⟨rfl,hb⟩
          refine ⟨_,rfl,?_⟩
          have n0_ := Aside0.mk (blk_below (g := gb210) (o := .cells #[.int .i64 t198,.int .i64 t199,.int .i64 t200,.string t201] 25 (0,0)) (by (with_reducible repeat (first | refine blk_drewN ?_ _ | refine blk_drew ?_ | refine blk_alloc ?_ _)); exact BK210.out) hb)
          have n1_ := Aside0.mk (blk_below (g := gb211) (o := .cells #[.int .i64 x212000_12,.int .i64 x212001_12,.int .i64 x212002_12,.string t205] 25 (0,0)) (by (with_reducible repeat (first | refine blk_drewN ?_ _ | refine blk_drew ?_ | refine blk_alloc ?_ _)); exact BK211.out) hb)
          have n2_ := Aside0.mk (blk_below (g := gb212) (o := .cells #[.int .i64 x213000_12,.int .i64 x213001_12,.int .i64 x213002_12,.string t209] 25 (0,0)) (by (with_reducible repeat (first | refine blk_drewN ?_ _ | refine blk_drew ?_ | refine blk_alloc ?_ _)); exact BK212.out) hb)
          have n3_ := Aside0.mk (below_step (by repeat (first | (with_reducible first | exact HB.out | apply below_alloc | apply pw_below_drewN | apply below_drew1 | refine below_set ?_ GE210.out | refine below_set ?_ GE211.out | refine below_set ?_ GE212.out) | exact HB.out)) hb)
          clear BK210
          clear BK211
          clear BK212
          clear HB
          have BK210 := n0_
          have BK211 := n1_
          have BK212 := n2_
          have HB := n3_
          clear n0_ n1_ n2_ n3_
          (try clear hb)
          (try clear hb2)
          (try clear hk)
          (try clear hi)
          refine hK.out _ _ ⟨(blk_cell BK210.out 0).trans rfl,(blk_cell BK210.out 1).trans rfl,(blk_cell BK210.out 2).trans rfl,(blk_cell BK210.out 3).trans rfl,(blk_cell BK211.out 0).trans rfl,(blk_cell BK211.out 1).trans rfl,(blk_cell BK211.out 2).trans rfl,(blk_cell BK211.out 3).trans rfl,(blk_cell BK212.out 0).trans rfl,(blk_cell BK212.out 1).trans rfl,(blk_cell BK212.out 2).trans rfl,(blk_cell BK212.out 3).trans rfl⟩ (fun hHeld => ?_)
          clear hK K
          refine norm_ (a' := ?_) ?_ ?_
          rotate_left
          ·show Act.put _ (some 56) _ = _
           simp only [Act.put,List.setIfInBounds_toArray,List.set_cons_zero,List.set_cons_succ,i64_w,i32_w]
           rfl
          refine one_ (i := 8) (N := some 59) #[true,true,true,true,true,true,true,true,true,false,false,false] rfl rfl (one_of HT_.out (by kernel_rfl)) (by decide) (fun K hK => ?_)
          refine goes_ Tryz.func19 (by kernel_rfl) rfl #[.agg #[.int .i64 t198,.int .i64 t199,.int .i64 t200,.string t201],.agg #[.int .i64 x213000_12,.int .i64 x213001_12,.int .i64 x213002_12,.string t209]] (by rfl) rfl rfl (by (try simp only [List.map_toArray,List.map_cons,List.map_nil]); first | done | rfl | (simp only [List.length_drop,List.length_take]; rfl)) ?_
          with_reducible refine (ver_Cmp.calls kj12 t198 t199 t200 t201 x213000_12 x213001_12 x213002_12 t209 t216 _ ?side1 A40.out).mono ?_
          (case side1 => exact GL.below0 hG (by repeat (first | (with_reducible first | exact HB.out | apply below_alloc | apply pw_below_drewN | apply below_drew1 | refine below_set ?_ GE210.out | refine below_set ?_ GE211.out | refine below_set ?_ GE212.out) | exact HB.out)))
          rintro e w118 ⟨rfl,hb⟩
          refine ⟨_,rfl,?_⟩
          have n0_ := Aside0.mk (blk_below (g := gb210) (o := .cells #[.int .i64 t198,.int .i64 t199,.int .i64 t200,.string t201] 25 (0,0)) (by (with_reducible repeat (first | refine blk_drewN ?_ _ | refine blk_drew ?_ | refine blk_alloc ?_ _)); exact BK210.out) hb)
          have n1_ := Aside0.mk (blk_below (g := gb211) (o := .cells #[.int .i64 x212000_12,.int .i64 x212001_12,.int .i64 x212002_12,.string t205] 25 (0,0)) (by (with_reducible repeat (first | refine blk_drewN ?_ _ | refine blk_drew ?_ | refine blk_alloc ?_ _)); exact BK211.out) hb)
          have n2_ := Aside0.mk (blk_below (g := gb212) (o := .cells #[.int .i64 x213000_12,.int .i64 x213001_12,.int .i64 x213002_12,.string t209] 25 (0,0)) (by (with_reducible repeat (first | refine blk_drewN ?_ _ | refine blk_drew ?_ | refine blk_alloc ?_ _)); exact BK212.out) hb)
          have n3_ := Aside0.mk (below_step (by repeat (first | (with_reducible first | exact HB.out | apply below_alloc | apply pw_below_drewN | apply below_drew1 | refine below_set ?_ GE210.out | refine below_set ?_ GE211.out | refine below_set ?_ GE212.out) | exact HB.out)) hb)
          clear BK210
          clear BK211
          clear BK212
          clear HB
          have BK210 := n0_
          have BK211 := n1_
          have BK212 := n2_
          have HB := n3_
          clear n0_ n1_ n2_ n3_
          (try clear hb)
          (try clear hb2)
          (try clear hk)
          (try clear hi)
          refine hK.out _ _ ⟨(blk_cell BK210.out 0).trans rfl,(blk_cell BK210.out 1).trans rfl,(blk_cell BK210.out 2).trans rfl,(blk_cell BK210.out 3).trans rfl,(blk_cell BK211.out 0).trans rfl,(blk_cell BK211.out 1).trans rfl,(blk_cell BK211.out 2).trans rfl,(blk_cell BK211.out 3).trans rfl,(blk_cell BK212.out 0).trans rfl,(blk_cell BK212.out 1).trans rfl,(blk_cell BK212.out 2).trans rfl,(blk_cell BK212.out 3).trans rfl⟩ (fun hHeld => ?_)
          clear hK K
          refine norm_ (a' := ?_) ?_ ?_
          rotate_left
          ·show Act.put _ (some 59) _ = _
           simp only [Act.put,List.setIfInBounds_toArray,List.set_cons_zero,List.set_cons_succ,i64_w,i32_w]
           rfl
          refine pure_ (i := 9) (N := some 16) (v := ?_) (a' := ?_) #[true,true,true,true,true,true,true,true,true,true,false,false] rfl rfl (any_of HT_.out (by kernel_rfl)) (fun _ _ _ h => h) (Or.inl ⟨by rfl,?_⟩) ?_ ?_
          rotate_left
          ·intro w'
           go_simp
           with_reducible rfl
          rotate_left
          ·simp only [Act.put,List.setIfInBounds_toArray,List.set_cons_zero,List.set_cons_succ,i64_w,i32_w]
           rfl
          refine pure_ (i := 10) (N := some 17) (v := ?_) (a' := ?_) #[true,true,true,true,true,true,true,true,true,true,true,false] rfl rfl (any_of HT_.out (by kernel_rfl)) (fun _ _ _ h => h) (Or.inl ⟨by rfl,?_⟩) ?_ ?_
          rotate_left
          ·intro w'
           go_simp
           with_reducible rfl
          rotate_left
          ·simp only [Act.put,List.setIfInBounds_toArray,List.set_cons_zero,List.set_cons_succ,i64_w,i32_w]
           rfl
          refine pure_ (i := 11) (N := some 18) (v := ?_) (a' := ?_) #[true,true,true,true,true,true,true,true,true,true,true,true] rfl rfl (any_of HT_.out (by kernel_rfl)) (fun _ _ _ h => h) (Or.inl ⟨by rfl,?_⟩) ?_ ?_
          rotate_left
          ·intro w'
           go_simp
           with_reducible rfl
          rotate_left
          ·simp only [Act.put,List.setIfInBounds_toArray,List.set_cons_zero,List.set_cons_succ,i64_w,i32_w]
           rfl
          refine done_ (done_of HT_.out (by kernel_rfl)) ?_
          have hnb119 := NB210_211.out
          have hnc119 := NB211_210.out
          have hnb120 := NB210_212.out
          have hnc120 := NB212_210.out
          have hcz121_0 : w118.cell? ⟨gb210,0,none⟩ = some (.int .i64 t198) := (blk_cell BK210.out 0).trans rfl
          have hcz121_1 : w118.cell? ⟨gb210,1,none⟩ = some (.int .i64 t199) := (blk_cell BK210.out 1).trans rfl
          have hcz121_2 : w118.cell? ⟨gb210,2,none⟩ = some (.int .i64 t200) := (blk_cell BK210.out 2).trans rfl
          have hcz121_3 : w118.cell? ⟨gb210,3,none⟩ = some (.string t201) := (blk_cell BK210.out 3).trans rfl
          have hfz121_0 := blk_frozen BK210.out 0
          have hfz121_1 := blk_frozen BK210.out 1
          have hfz121_2 := blk_frozen BK210.out 2
          have hfz121_3 := blk_frozen BK210.out 3
          have hnb122 := NB211_212.out
          have hnc122 := NB212_211.out
          have hcz123_0 : w118.cell? ⟨gb211,0,none⟩ = some (.int .i64 x212000_12) := (blk_cell BK211.out 0).trans rfl
          have hcz123_1 : w118.cell? ⟨gb211,1,none⟩ = some (.int .i64 x212001_12) := (blk_cell BK211.out 1).trans rfl
          have hcz123_2 : w118.cell? ⟨gb211,2,none⟩ = some (.int .i64 x212002_12) := (blk_cell BK211.out 2).trans rfl
          have hcz123_3 : w118.cell? ⟨gb211,3,none⟩ = some (.string t205) := (blk_cell BK211.out 3).trans rfl
          have hfz123_0 := blk_frozen BK211.out 0
          have hfz123_1 := blk_frozen BK211.out 1
          have hfz123_2 := blk_frozen BK211.out 2
          have hfz123_3 := blk_frozen BK211.out 3
          try go_wp2_with (first | ((with_reducible refine gate_callee (f := 20) rfl ?_); refine goesL_ (some 63) rfl rfl Tryz.func20 (by kernel_rfl) rfl #[.agg #[.int .i64 t198,.int .i64 t199,.int .i64 t200,.string t201],.agg #[.int .i64 x212000_12,.int .i64 x212001_12,.int .i64 x212002_12,.string t205]] rfl (by (try simp only [List.map_toArray,List.map_cons,List.map_nil]); first | done | rfl | (simp only [List.length_drop,List.length_take]; rfl)) ?_; (with_reducible refine (transhumanceref2_Cmp.calls kj12 t198 t199 t200 t201 x212000_12 x212001_12 x212002_12 t205 t217 _ A41.out).mono ?_); rintro e w124 ⟨rfl,hb⟩; refine ⟨_,rfl,?_⟩; have n0_ := Aside0.mk (blk_below (g := gb210) (o := .cells #[.int .i64 t198,.int .i64 t199,.int .i64 t200,.string t201] 25 (0,0)) (by (with_reducible repeat (first | refine blk_drewN ?_ _ | refine blk_drew ?_ | refine blk_alloc ?_ _)); exact BK210.out) hb); have n1_ := Aside0.mk (blk_below (g := gb211) (o := .cells #[.int .i64 x212000_12,.int .i64 x212001_12,.int .i64 x212002_12,.string t205] 25 (0,0)) (by (with_reducible repeat (first | refine blk_drewN ?_ _ | refine blk_drew ?_ | refine blk_alloc ?_ _)); exact BK211.out) hb); have n2_ := Aside0.mk (blk_below (g := gb212) (o := .cells #[.int .i64 x213000_12,.int .i64 x213001_12,.int .i64 x213002_12,.string t209] 25 (0,0)) (by (with_reducible repeat (first | refine blk_drewN ?_ _ | refine blk_drew ?_ | refine blk_alloc ?_ _)); exact BK212.out) hb); have n3_ := Aside0.mk (below_step (by repeat (first | (with_reducible first | exact HB.out | apply below_alloc | apply pw_below_drewN | apply below_drew1 | refine below_set ?_ GE210.out | refine below_set ?_ GE211.out | refine below_set ?_ GE212.out) | exact HB.out)) hb); clear BK210; clear BK211; clear BK212; clear HB; have BK210 := n0_; have BK211 := n1_; have BK212 := n2_; have HB := n3_; clear n0_ n1_ n2_ n3_; (try clear hb); (try clear hb2); (try clear hk); (try clear hi); have hcz125_0 : w124.cell? ⟨gb211,0,none⟩ = some (.int .i64 x212000_12) := (blk_cell BK211.out 0).trans rfl; have hcz125_1 : w124.cell? ⟨gb211,1,none⟩ = some (.int .i64 x212001_12) := (blk_cell BK211.out 1).trans rfl; have hcz125_2 : w124.cell? ⟨gb211,2,none⟩ = some (.int .i64 x212002_12) := (blk_cell BK211.out 2).trans rfl; have hcz125_3 : w124.cell? ⟨gb211,3,none⟩ = some (.string t205) := (blk_cell BK211.out 3).trans rfl; have hfz125_0 := blk_frozen BK211.out 0; have hfz125_1 := blk_frozen BK211.out 1; have hfz125_2 := blk_frozen BK211.out 2; have hfz125_3 := blk_frozen BK211.out 3; have hcz126_0 : w124.cell? ⟨gb212,0,none⟩ = some (.int .i64 x213000_12) := (blk_cell BK212.out 0).trans rfl; have hcz126_1 : w124.cell? ⟨gb212,1,none⟩ = some (.int .i64 x213001_12) := (blk_cell BK212.out 1).trans rfl; have hcz126_2 : w124.cell? ⟨gb212,2,none⟩ = some (.int .i64 x213002_12) := (blk_cell BK212.out 2).trans rfl; have hcz126_3 : w124.cell? ⟨gb212,3,none⟩ = some (.string t209) := (blk_cell BK212.out 3).trans rfl; have hfz126_0 := blk_frozen BK212.out 0; have hfz126_1 := blk_frozen BK212.out 1; have hfz126_2 := blk_frozen BK212.out 2; have hfz126_3 := blk_frozen BK212.out 3) | (go_at_call 20; (with_reducible refine (transhumanceref2_Cmp.calls kj12 x212000_12 x212001_12 x212002_12 t205 x213000_12 x213001_12 x213002_12 t209 t218 _ A43.out).mono ?_); rintro e w127 ⟨rfl,hb⟩; have n0_ := Aside0.mk (blk_below (g := gb210) (o := .cells #[.int .i64 t198,.int .i64 t199,.int .i64 t200,.string t201] 25 (0,0)) (by (with_reducible repeat (first | refine blk_drewN ?_ _ | refine blk_drew ?_ | refine blk_alloc ?_ _)); exact BK210.out) hb); have n1_ := Aside0.mk (blk_below (g := gb211) (o := .cells #[.int .i64 x212000_12,.int .i64 x212001_12,.int .i64 x212002_12,.string t205] 25 (0,0)) (by (with_reducible repeat (first | refine blk_drewN ?_ _ | refine blk_drew ?_ | refine blk_alloc ?_ _)); exact BK211.out) hb); have n2_ := Aside0.mk (blk_below (g := gb212) (o := .cells #[.int .i64 x213000_12,.int .i64 x213001_12,.int .i64 x213002_12,.string t209] 25 (0,0)) (by (with_reducible repeat (first | refine blk_drewN ?_ _ | refine blk_drew ?_ | refine blk_alloc ?_ _)); exact BK212.out) hb); have n3_ := Aside0.mk (below_step (by repeat (first | (with_reducible first | exact HB.out | apply below_alloc | apply pw_below_drewN | apply below_drew1 | refine below_set ?_ GE210.out | refine below_set ?_ GE211.out | refine below_set ?_ GE212.out) | exact HB.out)) hb); clear BK210; clear BK211; clear BK212; clear HB; have BK210 := n0_; have BK211 := n1_; have BK212 := n2_; have HB := n3_; clear n0_ n1_ n2_ n3_; (try clear hb); (try clear hb2); (try clear hk); (try clear hi); have hcz128_0 : w127.cell? ⟨gb210,0,none⟩ = some (.int .i64 t198) := (blk_cell BK210.out 0).trans rfl; have hcz128_1 : w127.cell? ⟨gb210,1,none⟩ = some (.int .i64 t199) := (blk_cell BK210.out 1).trans rfl; have hcz128_2 : w127.cell? ⟨gb210,2,none⟩ = some (.int .i64 t200) := (blk_cell BK210.out 2).trans rfl; have hcz128_3 : w127.cell? ⟨gb210,3,none⟩ = some (.string t201) := (blk_cell BK210.out 3).trans rfl; have hfz128_0 := blk_frozen BK210.out 0; have hfz128_1 := blk_frozen BK210.out 1; have hfz128_2 := blk_frozen BK210.out 2; have hfz128_3 := blk_frozen BK210.out 3; have hcz129_0 : w127.cell? ⟨gb212,0,none⟩ = some (.int .i64 x213000_12) := (blk_cell BK212.out 0).trans rfl; have hcz129_1 : w127.cell? ⟨gb212,1,none⟩ = some (.int .i64 x213001_12) := (blk_cell BK212.out 1).trans rfl; have hcz129_2 : w127.cell? ⟨gb212,2,none⟩ = some (.int .i64 x213002_12) := (blk_cell BK212.out 2).trans rfl; have hcz129_3 : w127.cell? ⟨gb212,3,none⟩ = some (.string t209) := (blk_cell BK212.out 3).trans rfl; have hfz129_0 := blk_frozen BK212.out 0; have hfz129_1 := blk_frozen BK212.out 1; have hfz129_2 := blk_frozen BK212.out 2; have hfz129_3 := blk_frozen BK212.out 3) | (go_at_call 20; (with_reducible refine (transhumanceref2_Cmp.calls kj12 t198 t199 t200 t201 x213000_12 x213001_12 x213002_12 t209 t219 _ A45.out).mono ?_); rintro e w130 ⟨rfl,hb⟩; have n0_ := Aside0.mk (blk_below (g := gb210) (o := .cells #[.int .i64 t198,.int .i64 t199,.int .i64 t200,.string t201] 25 (0,0)) (by (with_reducible repeat (first | refine blk_drewN ?_ _ | refine blk_drew ?_ | refine blk_alloc ?_ _)); exact BK210.out) hb); have n1_ := Aside0.mk (blk_below (g := gb211) (o := .cells #[.int .i64 x212000_12,.int .i64 x212001_12,.int .i64 x212002_12,.string t205] 25 (0,0)) (by (with_reducible repeat (first | refine blk_drewN ?_ _ | refine blk_drew ?_ | refine blk_alloc ?_ _)); exact BK211.out) hb); have n2_ := Aside0.mk (blk_below (g := gb212) (o := .cells #[.int .i64 x213000_12,.int .i64 x213001_12,.int .i64 x213002_12,.string t209] 25 (0,0)) (by (with_reducible repeat (first | refine blk_drewN ?_ _ | refine blk_drew ?_ | refine blk_alloc ?_ _)); exact BK212.out) hb); have n3_ := Aside0.mk (below_step (by repeat (first | (with_reducible first | exact HB.out | apply below_alloc | apply pw_below_drewN | apply below_drew1 | refine below_set ?_ GE210.out | refine below_set ?_ GE211.out | refine below_set ?_ GE212.out) | exact HB.out)) hb); clear BK210; clear BK211; clear BK212; clear HB; have BK210 := n0_; have BK211 := n1_; have BK212 := n2_; have HB := n3_; clear n0_ n1_ n2_ n3_; (try clear hb); (try clear hb2); (try clear hk); (try clear hi); have hcz131_0 : w130.cell? ⟨gb211,0,none⟩ = some (.int .i64 x212000_12) := (blk_cell BK211.out 0).trans rfl; have hcz131_1 : w130.cell? ⟨gb211,1,none⟩ = some (.int .i64 x212001_12) := (blk_cell BK211.out 1).trans rfl; have hcz131_2 : w130.cell? ⟨gb211,2,none⟩ = some (.int .i64 x212002_12) := (blk_cell BK211.out 2).trans rfl; have hcz131_3 : w130.cell? ⟨gb211,3,none⟩ = some (.string t205) := (blk_cell BK211.out 3).trans rfl; have hfz131_0 := blk_frozen BK211.out 0; have hfz131_1 := blk_frozen BK211.out 1; have hfz131_2 := blk_frozen BK211.out 2; have hfz131_3 := blk_frozen BK211.out 3; have hcz132_0 : w130.cell? ⟨gb210,0,none⟩ = some (.int .i64 t198) := (blk_cell BK210.out 0).trans rfl; have hcz132_1 : w130.cell? ⟨gb210,1,none⟩ = some (.int .i64 t199) := (blk_cell BK210.out 1).trans rfl; have hcz132_2 : w130.cell? ⟨gb210,2,none⟩ = some (.int .i64 t200) := (blk_cell BK210.out 2).trans rfl; have hcz132_3 : w130.cell? ⟨gb210,3,none⟩ = some (.string t201) := (blk_cell BK210.out 3).trans rfl; have hfz132_0 := blk_frozen BK210.out 0; have hfz132_1 := blk_frozen BK210.out 1; have hfz132_2 := blk_frozen BK210.out 2; have hfz132_3 := blk_frozen BK210.out 3) | (go_at_call 19; (with_reducible refine (ver_Cmp.calls kj12 x212000_12 x212001_12 x212002_12 t205 t198 t199 t200 t201 t220 _ ?side1 A47.out).mono ?_); (case side1 => exact GL.below0 hG (by repeat (first | (with_reducible first | exact HB.out | apply below_alloc | apply pw_below_drewN | apply below_drew1 | refine below_set ?_ GE210.out | refine below_set ?_ GE211.out | refine below_set ?_ GE212.out) | exact HB.out))); rintro e w133 ⟨rfl,hb⟩; have n0_ := Aside0.mk (blk_below (g := gb210) (o := .cells #[.int .i64 t198,.int .i64 t199,.int .i64 t200,.string t201] 25 (0,0)) (by (with_reducible repeat (first | refine blk_drewN ?_ _ | refine blk_drew ?_ | refine blk_alloc ?_ _)); exact BK210.out) hb); have n1_ := Aside0.mk (blk_below (g := gb211) (o := .cells #[.int .i64 x212000_12,.int .i64 x212001_12,.int .i64 x212002_12,.string t205] 25 (0,0)) (by (with_reducible repeat (first | refine blk_drewN ?_ _ | refine blk_drew ?_ | refine blk_alloc ?_ _)); exact BK211.out) hb); have n2_ := Aside0.mk (blk_below (g := gb212) (o := .cells #[.int .i64 x213000_12,.int .i64 x213001_12,.int .i64 x213002_12,.string t209] 25 (0,0)) (by (with_reducible repeat (first | refine blk_drewN ?_ _ | refine blk_drew ?_ | refine blk_alloc ?_ _)); exact BK212.out) hb); have n3_ := Aside0.mk (below_step (by repeat (first | (with_reducible first | exact HB.out | apply below_alloc | apply pw_below_drewN | apply below_drew1 | refine below_set ?_ GE210.out | refine below_set ?_ GE211.out | refine below_set ?_ GE212.out) | exact HB.out)) hb); clear BK210; clear BK211; clear BK212; clear HB; have BK210 := n0_; have BK211 := n1_; have BK212 := n2_; have HB := n3_; clear n0_ n1_ n2_ n3_; (try clear hb); (try clear hb2); (try clear hk); (try clear hi); have hcz134_0 : w133.cell? ⟨gb210,0,none⟩ = some (.int .i64 t198) := (blk_cell BK210.out 0).trans rfl; have hcz134_1 : w133.cell? ⟨gb210,1,none⟩ = some (.int .i64 t199) := (blk_cell BK210.out 1).trans rfl; have hcz134_2 : w133.cell? ⟨gb210,2,none⟩ = some (.int .i64 t200) := (blk_cell BK210.out 2).trans rfl; have hcz134_3 : w133.cell? ⟨gb210,3,none⟩ = some (.string t201) := (blk_cell BK210.out 3).trans rfl; have hfz134_0 := blk_frozen BK210.out 0; have hfz134_1 := blk_frozen BK210.out 1; have hfz134_2 := blk_frozen BK210.out 2; have hfz134_3 := blk_frozen BK210.out 3; have hcz135_0 : w133.cell? ⟨gb211,0,none⟩ = some (.int .i64 x212000_12) := (blk_cell BK211.out 0).trans rfl; have hcz135_1 : w133.cell? ⟨gb211,1,none⟩ = some (.int .i64 x212001_12) := (blk_cell BK211.out 1).trans rfl; have hcz135_2 : w133.cell? ⟨gb211,2,none⟩ = some (.int .i64 x212002_12) := (blk_cell BK211.out 2).trans rfl; have hcz135_3 : w133.cell? ⟨gb211,3,none⟩ = some (.string t205) := (blk_cell BK211.out 3).trans rfl; have hfz135_0 := blk_frozen BK211.out 0; have hfz135_1 := blk_frozen BK211.out 1; have hfz135_2 := blk_frozen BK211.out 2; have hfz135_3 := blk_frozen BK211.out 3))
          go_ret
          exact ⟨by first | rfl | (simp [errW_none,errW_some] <;> rfl) | (simp [*,errW_none,errW_some] <;> rfl),by repeat (first | (with_reducible first | exact HB.out | apply below_alloc | apply pw_below_drewN | apply below_drew1 | refine below_set ?_ GE210.out | refine below_set ?_ GE211.out | refine below_set ?_ GE212.out) | exact HB.out)⟩
       ·rw [if_neg c48] at H
        have c48b0 : (t220 == (wrap64 (-t214))) = false := beq_eq_false_iff_ne.mpr c48
        have c48b1 : (t220 != (wrap64 (-t214))) = true := bne_iff_ne.mpr c48
        obtain rfl := Option.some.inj H
        try go_wp2
        have n0_ := Aside0.mk (blk_drew BK210.out)
        have n1_ := Aside0.mk (blk_drew BK211.out)
        have n2_ := Aside0.mk (blk_drew BK212.out)
        have n3_ := Aside0.mk (below_drew1 HB.out)
        clear BK210
        clear BK211
        clear BK212
        clear HB
        have BK210 := n0_
        have BK211 := n1_
        have BK212 := n2_
        have HB := n3_
        clear n0_ n1_ n2_ n3_
        refine start_ (n := 12) (S := fun w' => w'.cell? ⟨gb210,0,none⟩ = some (.int .i64 t198) ∧ w'.cell? ⟨gb210,1,none⟩ = some (.int .i64 t199) ∧ w'.cell? ⟨gb210,2,none⟩ = some (.int .i64 t200) ∧ w'.cell? ⟨gb210,3,none⟩ = some (.string t201) ∧ w'.cell? ⟨gb211,0,none⟩ = some (.int .i64 x212000_12) ∧ w'.cell? ⟨gb211,1,none⟩ = some (.int .i64 x212001_12) ∧ w'.cell? ⟨gb211,2,none⟩ = some (.int .i64 x212002_12) ∧ w'.cell? ⟨gb211,3,none⟩ = some (.string t205) ∧ w'.cell? ⟨gb212,0,none⟩ = some (.int .i64 x213000_12) ∧ w'.cell? ⟨gb212,1,none⟩ = some (.int .i64 x213001_12) ∧ w'.cell? ⟨gb212,2,none⟩ = some (.int .i64 x213002_12) ∧ w'.cell? ⟨gb212,3,none⟩ = some (.string t209)) (ds := []) #[false,false,false,false,false,false,false,false,false,false,false,false] (by kernel_rfl) rfl rfl ⟨(blk_cell BK210.out 0).trans rfl,(blk_cell BK210.out 1).trans rfl,(blk_cell BK210.out 2).trans rfl,(blk_cell BK210.out 3).trans rfl,(blk_cell BK211.out 0).trans rfl,(blk_cell BK211.out 1).trans rfl,(blk_cell BK211.out 2).trans rfl,(blk_cell BK211.out 3).trans rfl,(blk_cell BK212.out 0).trans rfl,(blk_cell BK212.out 1).trans rfl,(blk_cell BK212.out 2).trans rfl,(blk_cell BK212.out 3).trans rfl⟩ (fun hHeld => ?_); refine with_tabW transhumancelaw2_VerOrder.tab7 transhumancelaw2_VerOrder.bits7 (fun HT_ HW_ => ?_)
        generalize wc.drew = w136 at BK210 BK211 BK212 HB hHeld ⊢
        refine take_ (i := 0) (N := some 51) (v := ?_) (a' := ?_) #[true,false,false,false,false,false,false,false,false,false,false,false] rfl rfl (take_ofW HT_.out HW_.out (by kernel_rfl)) (fun _ _ _ h => h) (Or.inl ⟨by rfl,?_⟩) hHeld ?_ ?_
        rotate_left
        ·rintro w' ⟨s0,s1,s2,s3,s4,s5,s6,s7,s8,s9,s10,s11⟩
         go_simp
         with_reducible rfl
        rotate_left
        ·simp only [Act.put,List.setIfInBounds_toArray,List.set_cons_zero,List.set_cons_succ,i64_w,i32_w]
         rfl
        refine take_ (i := 1) (N := some 52) (v := ?_) (a' := ?_) #[true,true,false,false,false,false,false,false,false,false,false,false] rfl rfl (take_ofW HT_.out HW_.out (by kernel_rfl)) (fun _ _ _ h => h) (Or.inl ⟨by rfl,?_⟩) hHeld ?_ ?_
        rotate_left
        ·rintro w' ⟨s0,s1,s2,s3,s4,s5,s6,s7,s8,s9,s10,s11⟩
         go_simp
         with_reducible rfl
        rotate_left
        ·simp only [Act.put,List.setIfInBounds_toArray,List.set_cons_zero,List.set_cons_succ,i64_w,i32_w]
         rfl
        refine take_ (i := 3) (N := some 54) (v := ?_) (a' := ?_) #[true,true,false,true,false,false,false,false,false,false,false,false] rfl rfl (take_ofW HT_.out HW_.out (by kernel_rfl)) (fun _ _ _ h => h) (Or.inl ⟨by rfl,?_⟩) hHeld ?_ ?_
        rotate_left
        ·rintro w' ⟨s0,s1,s2,s3,s4,s5,s6,s7,s8,s9,s10,s11⟩
         go_simp
         with_reducible rfl
        rotate_left
        ·simp only [Act.put,List.setIfInBounds_toArray,List.set_cons_zero,List.set_cons_succ,i64_w,i32_w]
         rfl
        refine take_ (i := 4) (N := some 55) (v := ?_) (a' := ?_) #[true,true,false,true,true,false,false,false,false,false,false,false] rfl rfl (take_ofW HT_.out HW_.out (by kernel_rfl)) (fun _ _ _ h => h) (Or.inl ⟨by rfl,?_⟩) hHeld ?_ ?_
        rotate_left
        ·rintro w' ⟨s0,s1,s2,s3,s4,s5,s6,s7,s8,s9,s10,s11⟩
         go_simp
         with_reducible rfl
        rotate_left
        ·simp only [Act.put,List.setIfInBounds_toArray,List.set_cons_zero,List.set_cons_succ,i64_w,i32_w]
         rfl
        refine take_ (i := 6) (N := some 57) (v := ?_) (a' := ?_) #[true,true,false,true,true,false,true,false,false,false,false,false] rfl rfl (take_ofW HT_.out HW_.out (by kernel_rfl)) (fun _ _ _ h => h) (Or.inl ⟨by rfl,?_⟩) hHeld ?_ ?_
        rotate_left
        ·rintro w' ⟨s0,s1,s2,s3,s4,s5,s6,s7,s8,s9,s10,s11⟩
         go_simp
         with_reducible rfl
        rotate_left
        ·simp only [Act.put,List.setIfInBounds_toArray,List.set_cons_zero,List.set_cons_succ,i64_w,i32_w]
         rfl
        refine take_ (i := 7) (N := some 58) (v := ?_) (a' := ?_) #[true,true,false,true,true,false,true,true,false,false,false,false] rfl rfl (take_ofW HT_.out HW_.out (by kernel_rfl)) (fun _ _ _ h => h) (Or.inl ⟨by rfl,?_⟩) hHeld ?_ ?_
        rotate_left
        ·rintro w' ⟨s0,s1,s2,s3,s4,s5,s6,s7,s8,s9,s10,s11⟩
         go_simp
         with_reducible rfl
        rotate_left
        ·simp only [Act.put,List.setIfInBounds_toArray,List.set_cons_zero,List.set_cons_succ,i64_w,i32_w]
         rfl
        refine one_ (i := 2) (N := some 53) #[true,true,true,true,true,false,true,true,false,false,false,false] rfl rfl (one_of HT_.out (by kernel_rfl)) (by decide) (fun K hK => ?_)
        refine goes_ Tryz.func19 (by kernel_rfl) rfl #[.agg #[.int .i64 t198,.int .i64 t199,.int .i64 t200,.string t201],.agg #[.int .i64 x212000_12,.int .i64 x212001_12,.int .i64 x212002_12,.string t205]] (by rfl) rfl rfl (by (try simp only [List.map_toArray,List.map_cons,List.map_nil]); first | done | rfl | (simp only [List.length_drop,List.length_take]; rfl)) ?_
        with_reducible refine (ver_Cmp.calls kj12 t198 t199 t200 t201 x212000_12 x212001_12 x212002_12 t205 t214 _ ?side1 A38.out).mono ?_
        (case side1 => exact GL.below0 hG (by repeat (first | (with_reducible first | exact HB.out | apply below_alloc | apply pw_below_drewN | apply below_drew1 | refine below_set ?_ GE210.out | refine below_set ?_ GE211.out | refine below_set ?_ GE212.out) | exact HB.out)))
        rintro e w137 ⟨rfl,hb⟩
        refine ⟨_,rfl,?_⟩
        have n0_ := Aside0.mk (blk_below (g := gb210) (o := .cells #[.int .i64 t198,.int .i64 t199,.int .i64 t200,.string t201] 25 (0,0)) (by (with_reducible repeat (first | refine blk_drewN ?_ _ | refine blk_drew ?_ | refine blk_alloc ?_ _)); exact BK210.out) hb)
        have n1_ := Aside0.mk (blk_below (g := gb211) (o := .cells #[.int .i64 x212000_12,.int .i64 x212001_12,.int .i64 x212002_12,.string t205] 25 (0,0)) (by (with_reducible repeat (first | refine blk_drewN ?_ _ | refine blk_drew ?_ | refine blk_alloc ?_ _)); exact BK211.out) hb)
        have n2_ := Aside0.mk (blk_below (g := gb212) (o := .cells #[.int .i64 x213000_12,.int .i64 x213001_12,.int .i64 x213002_12,.string t209] 25 (0,0)) (by (with_reducible repeat (first | refine blk_drewN ?_ _ | refine blk_drew ?_ | refine blk_alloc ?_ _)); exact BK212.out) hb)
        have n3_ := Aside0.mk (below_step (by repeat (first | (with_reducible first | exact HB.out | apply below_alloc | apply pw_below_drewN | apply below_drew1 | refine below_set ?_ GE210.out | refine below_set ?_ GE211.out | refine below_set ?_ GE212.out) | exact HB.out)) hb)
        clear BK210
        clear BK211
        clear BK212
        clear HB
        have BK210 := n0_
        have BK211 := n1_
        have BK212 := n2_
        have HB := n3_
        clear n0_ n1_ n2_ n3_
        (try clear hb)
        (try clear hb2)
        (try clear hk)
        (try clear hi)
        refine hK.out _ _ ⟨(blk_cell BK210.out 0).trans rfl,(blk_cell BK210.out 1).trans rfl,(blk_cell BK210.out 2).trans rfl,(blk_cell BK210.out 3).trans rfl,(blk_cell BK211.out 0).trans rfl,(blk_cell BK211.out 1).trans rfl,(blk_cell BK211.out 2).trans rfl,(blk_cell BK211.out 3).trans rfl,(blk_cell BK212.out 0).trans rfl,(blk_cell BK212.out 1).trans rfl,(blk_cell BK212.out 2).trans rfl,(blk_cell BK212.out 3).trans rfl⟩ (fun hHeld => ?_)
        clear hK K
        refine norm_ (a' := ?_) ?_ ?_
        rotate_left
        ·show Act.put _ (some 53) _ = _
         simp only [Act.put,List.setIfInBounds_toArray,List.set_cons_zero,List.set_cons_succ,i64_w,i32_w]
         rfl
        refine one_ (i := 5) (N := some 56) #[true,true,true,true,true,true,true,true,false,false,false,false] rfl rfl (one_of HT_.out (by kernel_rfl)) (by decide) (fun K hK => ?_)
        refine goes_ Tryz.func19 (by kernel_rfl) rfl #[.agg #[.int .i64 x212000_12,.int .i64 x212001_12,.int .i64 x212002_12,.string t205],.agg #[.int .i64 x213000_12,.int .i64 x213001_12,.int .i64 x213002_12,.string t209]] (by rfl) rfl rfl (by (try simp only [List.map_toArray,List.map_cons,List.map_nil]); first | done | rfl | (simp only [List.length_drop,List.length_take]; rfl)) ?_
        with_reducible refine (ver_Cmp.calls kj12 x212000_12 x212001_12 x212002_12 t205 x213000_12 x213001_12 x213002_12 t209 t215 _ ?side1 A39.out).mono ?_
        (case side1 => exact GL.below0 hG (by repeat (first | (with_reducible first | exact HB.out | apply below_alloc | apply pw_below_drewN | apply below_drew1 | refine below_set ?_ GE210.out | refine below_set ?_ GE211.out | refine below_set ?_ GE212.out) | exact HB.out)))
        rintro e w138 ⟨rfl,hb⟩
        refine ⟨_,rfl,?_⟩
        have n0_ := Aside0.mk (blk_below (g := gb210) (o := .cells #[.int .i64 t198,.int .i64 t199,.int .i64 t200,.string t201] 25 (0,0)) (by (with_reducible repeat (first | refine blk_drewN ?_ _ | refine blk_drew ?_ | refine blk_alloc ?_ _)); exact BK210.out) hb)
        have n1_ := Aside0.mk (blk_below (g := gb211) (o := .cells #[.int .i64 x212000_12,.int .i64 x212001_12,.int .i64 x212002_12,.string t205] 25 (0,0)) (by (with_reducible repeat (first | refine blk_drewN ?_ _ | refine blk_drew ?_ | refine blk_alloc ?_ _)); exact BK211.out) hb)
        have n2_ := Aside0.mk (blk_below (g := gb212) (o := .cells #[.int .i64 x213000_12,.int .i64 x213001_12,.int .i64 x213002_12,.string t209] 25 (0,0)) (by (with_reducible repeat (first | refine blk_drewN ?_ _ | refine blk_drew ?_ | refine blk_alloc ?_ _)); exact BK212.out) hb)
        have n3_ := Aside0.mk (below_step (by repeat (first | (with_reducible first | exact HB.out | apply below_alloc | apply pw_below_drewN | apply below_drew1 | refine below_set ?_ GE210.out | refine below_set ?_ GE211.out | refine below_set ?_ GE212.out) | exact HB.out)) hb)
        clear BK210
        clear BK211
        clear BK212
        clear HB
        have BK210 := n0_
        have BK211 := n1_
        have BK212 := n2_
        have HB := n3_
        clear n0_ n1_ n2_ n3_
        (try clear hb)
        (try clear hb2)
        (try clear hk)
        (try clear hi)
        refine hK.out _ _ ⟨(blk_cell BK210.out 0).trans rfl,(blk_cell BK210.out 1).trans rfl,(blk_cell BK210.out 2).trans rfl,(blk_cell BK210.out 3).trans rfl,(blk_cell BK211.out 0).trans rfl,(blk_cell BK211.out 1).trans rfl,(blk_cell BK211.out 2).trans rfl,(blk_cell BK211.out 3).trans rfl,(blk_cell BK212.out 0).trans rfl,(blk_cell BK212.out 1).trans rfl,(blk_cell BK212.out 2).trans rfl,(blk_cell BK212.out 3).trans rfl⟩ (fun hHeld => ?_)
        clear hK K
        refine norm_ (a' := ?_) ?_ ?_
        rotate_left
        ·show Act.put _ (some 56) _ = _
         simp only [Act.put,List.setIfInBounds_toArray,List.set_cons_zero,List.set_cons_succ,i64_w,i32_w]
         rfl
        refine one_ (i := 8) (N := some 59) #[true,true,true,true,true,true,true,true,true,false,false,false] rfl rfl (one_of HT_.out (by kernel_rfl)) (by decide) (fun K hK => ?_)
        refine goes_ Tryz.func19 (by kernel_rfl) rfl #[.agg #[.int .i64 t198,.int .i64 t199,.int .i64 t200,.string t201],.agg #[.int .i64 x213000_12,.int .i64 x213001_12,.int .i64 x213002_12,.string t209]] (by rfl) rfl rfl (by (try simp only [List.map_toArray,List.map_cons,List.map_nil]); first | done | rfl | (simp only [List.length_drop,List.length_take]; rfl)) ?_
        with_reducible refine (ver_Cmp.calls kj12 t198 t199 t200 t201 x213000_12 x213001_12 x213002_12 t209 t216 _ ?side1 A40.out).mono ?_
        (case side1 => exact GL.below0 hG (by repeat (first | (with_reducible first | exact HB.out | apply below_alloc | apply pw_below_drewN | apply below_drew1 | refine below_set ?_ GE210.out | refine below_set ?_ GE211.out | refine below_set ?_ GE212.out) | exact HB.out)))
        rintro e w139 ⟨rfl,hb⟩
        refine ⟨_,rfl,?_⟩
        have n0_ := Aside0.mk (blk_below (g := gb210) (o := .cells #[.int .i64 t198,.int .i64 t199,.int .i64 t200,.string t201] 25 (0,0)) (by (with_reducible repeat (first | refine blk_drewN ?_ _ | refine blk_drew ?_ | refine blk_alloc ?_ _)); exact BK210.out) hb)
        have n1_ := Aside0.mk (blk_below (g := gb211) (o := .cells #[.int .i64 x212000_12,.int .i64 x212001_12,.int .i64 x212002_12,.string t205] 25 (0,0)) (by (with_reducible repeat (first | refine blk_drewN ?_ _ | refine blk_drew ?_ | refine blk_alloc ?_ _)); exact BK211.out) hb)
        have n2_ := Aside0.mk (blk_below (g := gb212) (o := .cells #[.int .i64 x213000_12,.int .i64 x213001_12,.int .i64 x213002_12,.string t209] 25 (0,0)) (by (with_reducible repeat (first | refine blk_drewN ?_ _ | refine blk_drew ?_ | refine blk_alloc ?_ _)); exact BK212.out) hb)
        have n3_ := Aside0.mk (below_step (by repeat (first | (with_reducible first | exact HB.out | apply below_alloc | apply pw_below_drewN | apply below_drew1 | refine below_set ?_ GE210.out | refine below_set ?_ GE211.out | refine below_set ?_ GE212.out) | exact HB.out)) hb)
        clear BK210
        clear BK211
        clear BK212
        clear HB
        have BK210 := n0_
        have BK211 := n1_
        have BK212 := n2_
        have HB := n3_
        clear n0_ n1_ n2_ n3_
        (try clear hb)
        (try clear hb2)
        (try clear hk)
        (try clear hi)
        refine hK.out _ _ ⟨(blk_cell BK210.out 0).trans rfl,(blk_cell BK210.out 1).trans rfl,(blk_cell BK210.out 2).trans rfl,(blk_cell BK210.out 3).trans rfl,(blk_cell BK211.out 0).trans rfl,(blk_cell BK211.out 1).trans rfl,(blk_cell BK211.out 2).trans rfl,(blk_cell BK211.out 3).trans rfl,(blk_cell BK212.out 0).trans rfl,(blk_cell BK212.out 1).trans rfl,(blk_cell BK212.out 2).trans rfl,(blk_cell BK212.out 3).trans rfl⟩ (fun hHeld => ?_)
        clear hK K
        refine norm_ (a' := ?_) ?_ ?_
        rotate_left
        ·show Act.put _ (some 59) _ = _
         simp only [Act.put,List.setIfInBounds_toArray,List.set_cons_zero,List.set_cons_succ,i64_w,i32_w]
         rfl
        refine pure_ (i := 9) (N := some 16) (v := ?_) (a' := ?_) #[true,true,true,true,true,true,true,true,true,true,false,false] rfl rfl (any_of HT_.out (by kernel_rfl)) (fun _ _ _ h => h) (Or.inl ⟨by rfl,?_⟩) ?_ ?_
        rotate_left
        ·intro w'
         go_simp
         with_reducible rfl
        rotate_left
        ·simp only [Act.put,List.setIfInBounds_toArray,List.set_cons_zero,List.set_cons_succ,i64_w,i32_w]
         rfl
        refine pure_ (i := 10) (N := some 17) (v := ?_) (a' := ?_) #[true,true,true,true,true,true,true,true,true,true,true,false] rfl rfl (any_of HT_.out (by kernel_rfl)) (fun _ _ _ h => h) (Or.inl ⟨by rfl,?_⟩) ?_ ?_
        rotate_left
        ·intro w'
         go_simp
         with_reducible rfl
        rotate_left
        ·simp only [Act.put,List.setIfInBounds_toArray,List.set_cons_zero,List.set_cons_succ,i64_w,i32_w]
         rfl
        refine pure_ (i := 11) (N := some 18) (v := ?_) (a' := ?_) #[true,true,true,true,true,true,true,true,true,true,true,true] rfl rfl (any_of HT_.out (by kernel_rfl)) (fun _ _ _ h => h) (Or.inl ⟨by rfl,?_⟩) ?_ ?_
        rotate_left
        ·intro w'
         go_simp
         with_reducible rfl
        rotate_left
        ·simp only [Act.put,List.setIfInBounds_toArray,List.set_cons_zero,List.set_cons_succ,i64_w,i32_w]
         rfl
        refine done_ (done_of HT_.out (by kernel_rfl)) ?_
        have hnb140 := NB210_211.out
        have hnc140 := NB211_210.out
        have hnb141 := NB210_212.out
        have hnc141 := NB212_210.out
        have hcz142_0 : w139.cell? ⟨gb210,0,none⟩ = some (.int .i64 t198) := (blk_cell BK210.out 0).trans rfl
        have hcz142_1 : w139.cell? ⟨gb210,1,none⟩ = some (.int .i64 t199) := (blk_cell BK210.out 1).trans rfl
        have hcz142_2 : w139.cell? ⟨gb210,2,none⟩ = some (.int .i64 t200) := (blk_cell BK210.out 2).trans rfl
        have hcz142_3 : w139.cell? ⟨gb210,3,none⟩ = some (.string t201) := (blk_cell BK210.out 3).trans rfl
        have hfz142_0 := blk_frozen BK210.out 0
        have hfz142_1 := blk_frozen BK210.out 1
        have hfz142_2 := blk_frozen BK210.out 2
        have hfz142_3 := blk_frozen BK210.out 3
        have hnb143 := NB211_212.out
        have hnc143 := NB212_211.out
        have hcz144_0 : w139.cell? ⟨gb211,0,none⟩ = some (.int .i64 x212000_12) := (blk_cell BK211.out 0).trans rfl
        have hcz144_1 : w139.cell? ⟨gb211,1,none⟩ = some (.int .i64 x212001_12) := (blk_cell BK211.out 1).trans rfl
        have hcz144_2 : w139.cell? ⟨gb211,2,none⟩ = some (.int .i64 x212002_12) := (blk_cell BK211.out 2).trans rfl
        have hcz144_3 : w139.cell? ⟨gb211,3,none⟩ = some (.string t205) := (blk_cell BK211.out 3).trans rfl
        have hfz144_0 := blk_frozen BK211.out 0
        have hfz144_1 := blk_frozen BK211.out 1
        have hfz144_2 := blk_frozen BK211.out 2
        have hfz144_3 := blk_frozen BK211.out 3
        try go_wp2_with (first | ((with_reducible refine gate_callee (f := 20) rfl ?_); refine goesL_ (some 63) rfl rfl Tryz.func20 (by kernel_rfl) rfl #[.agg #[.int .i64 t198,.int .i64 t199,.int .i64 t200,.string t201],.agg #[.int .i64 x212000_12,.int .i64 x212001_12,.int .i64 x212002_12,.string t205]] rfl (by (try simp only [List.map_toArray,List.map_cons,List.map_nil]); first | done | rfl | (simp only [List.length_drop,List.length_take]; rfl)) ?_; (with_reducible refine (transhumanceref2_Cmp.calls kj12 t198 t199 t200 t201 x212000_12 x212001_12 x212002_12 t205 t217 _ A41.out).mono ?_); rintro e w145 ⟨rfl,hb⟩; refine ⟨_,rfl,?_⟩; have n0_ := Aside0.mk (blk_below (g := gb210) (o := .cells #[.int .i64 t198,.int .i64 t199,.int .i64 t200,.string t201] 25 (0,0)) (by (with_reducible repeat (first | refine blk_drewN ?_ _ | refine blk_drew ?_ | refine blk_alloc ?_ _)); exact BK210.out) hb); have n1_ := Aside0.mk (blk_below (g := gb211) (o := .cells #[.int .i64 x212000_12,.int .i64 x212001_12,.int .i64 x212002_12,.string t205] 25 (0,0)) (by (with_reducible repeat (first | refine blk_drewN ?_ _ | refine blk_drew ?_ | refine blk_alloc ?_ _)); exact BK211.out) hb); have n2_ := Aside0.mk (blk_below (g := gb212) (o := .cells #[.int .i64 x213000_12,.int .i64 x213001_12,.int .i64 x213002_12,.string t209] 25 (0,0)) (by (with_reducible repeat (first | refine blk_drewN ?_ _ | refine blk_drew ?_ | refine blk_alloc ?_ _)); exact BK212.out) hb); have n3_ := Aside0.mk (below_step (by repeat (first | (with_reducible first | exact HB.out | apply below_alloc | apply pw_below_drewN | apply below_drew1 | refine below_set ?_ GE210.out | refine below_set ?_ GE211.out | refine below_set ?_ GE212.out) | exact HB.out)) hb); clear BK210; clear BK211; clear BK212; clear HB; have BK210 := n0_; have BK211 := n1_; have BK212 := n2_; have HB := n3_; clear n0_ n1_ n2_ n3_; (try clear hb); (try clear hb2); (try clear hk); (try clear hi); have hcz146_0 : w145.cell? ⟨gb211,0,none⟩ = some (.int .i64 x212000_12) := (blk_cell BK211.out 0).trans rfl; have hcz146_1 : w145.cell? ⟨gb211,1,none⟩ = some (.int .i64 x212001_12) := (blk_cell BK211.out 1).trans rfl; have hcz146_2 : w145.cell? ⟨gb211,2,none⟩ = some (.int .i64 x212002_12) := (blk_cell BK211.out 2).trans rfl; have hcz146_3 : w145.cell? ⟨gb211,3,none⟩ = some (.string t205) := (blk_cell BK211.out 3).trans rfl; have hfz146_0 := blk_frozen BK211.out 0; have hfz146_1 := blk_frozen BK211.out 1; have hfz146_2 := blk_frozen BK211.out 2; have hfz146_3 := blk_frozen BK211.out 3; have hcz147_0 : w145.cell? ⟨gb212,0,none⟩ = some (.int .i64 x213000_12) := (blk_cell BK212.out 0).trans rfl; have hcz147_1 : w145.cell? ⟨gb212,1,none⟩ = some (.int .i64 x213001_12) := (blk_cell BK212.out 1).trans rfl; have hcz147_2 : w145.cell? ⟨gb212,2,none⟩ = some (.int .i64 x213002_12) := (blk_cell BK212.out 2).trans rfl; have hcz147_3 : w145.cell? ⟨gb212,3,none⟩ = some (.string t209) := (blk_cell BK212.out 3).trans rfl; have hfz147_0 := blk_frozen BK212.out 0; have hfz147_1 := blk_frozen BK212.out 1; have hfz147_2 := blk_frozen BK212.out 2; have hfz147_3 := blk_frozen BK212.out 3) | (go_at_call 20; (with_reducible refine (transhumanceref2_Cmp.calls kj12 x212000_12 x212001_12 x212002_12 t205 x213000_12 x213001_12 x213002_12 t209 t218 _ A43.out).mono ?_); rintro e w148 ⟨rfl,hb⟩; have n0_ := Aside0.mk (blk_below (g := gb210) (o := .cells #[.int .i64 t198,.int .i64 t199,.int .i64 t200,.string t201] 25 (0,0)) (by (with_reducible repeat (first | refine blk_drewN ?_ _ | refine blk_drew ?_ | refine blk_alloc ?_ _)); exact BK210.out) hb); have n1_ := Aside0.mk (blk_below (g := gb211) (o := .cells #[.int .i64 x212000_12,.int .i64 x212001_12,.int .i64 x212002_12,.string t205] 25 (0,0)) (by (with_reducible repeat (first | refine blk_drewN ?_ _ | refine blk_drew ?_ | refine blk_alloc ?_ _)); exact BK211.out) hb); have n2_ := Aside0.mk (blk_below (g := gb212) (o := .cells #[.int .i64 x213000_12,.int .i64 x213001_12,.int .i64 x213002_12,.string t209] 25 (0,0)) (by (with_reducible repeat (first | refine blk_drewN ?_ _ | refine blk_drew ?_ | refine blk_alloc ?_ _)); exact BK212.out) hb); have n3_ := Aside0.mk (below_step (by repeat (first | (with_reducible first | exact HB.out | apply below_alloc | apply pw_below_drewN | apply below_drew1 | refine below_set ?_ GE210.out | refine below_set ?_ GE211.out | refine below_set ?_ GE212.out) | exact HB.out)) hb); clear BK210; clear BK211; clear BK212; clear HB; have BK210 := n0_; have BK211 := n1_; have BK212 := n2_; have HB := n3_; clear n0_ n1_ n2_ n3_; (try clear hb); (try clear hb2); (try clear hk); (try clear hi); have hcz149_0 : w148.cell? ⟨gb210,0,none⟩ = some (.int .i64 t198) := (blk_cell BK210.out 0).trans rfl; have hcz149_1 : w148.cell? ⟨gb210,1,none⟩ = some (.int .i64 t199) := (blk_cell BK210.out 1).trans rfl; have hcz149_2 : w148.cell? ⟨gb210,2,none⟩ = some (.int .i64 t200) := (blk_cell BK210.out 2).trans rfl; have hcz149_3 : w148.cell? ⟨gb210,3,none⟩ = some (.string t201) := (blk_cell BK210.out 3).trans rfl; have hfz149_0 := blk_frozen BK210.out 0; have hfz149_1 := blk_frozen BK210.out 1; have hfz149_2 := blk_frozen BK210.out 2; have hfz149_3 := blk_frozen BK210.out 3; have hcz150_0 : w148.cell? ⟨gb212,0,none⟩ = some (.int .i64 x213000_12) := (blk_cell BK212.out 0).trans rfl; have hcz150_1 : w148.cell? ⟨gb212,1,none⟩ = some (.int .i64 x213001_12) := (blk_cell BK212.out 1).trans rfl; have hcz150_2 : w148.cell? ⟨gb212,2,none⟩ = some (.int .i64 x213002_12) := (blk_cell BK212.out 2).trans rfl; have hcz150_3 : w148.cell? ⟨gb212,3,none⟩ = some (.string t209) := (blk_cell BK212.out 3).trans rfl; have hfz150_0 := blk_frozen BK212.out 0; have hfz150_1 := blk_frozen BK212.out 1; have hfz150_2 := blk_frozen BK212.out 2; have hfz150_3 := blk_frozen BK212.out 3) | (go_at_call 20; (with_reducible refine (transhumanceref2_Cmp.calls kj12 t198 t199 t200 t201 x213000_12 x213001_12 x213002_12 t209 t219 _ A45.out).mono ?_); rintro e w151 ⟨rfl,hb⟩; have n0_ := Aside0.mk (blk_below (g := gb210) (o := .cells #[.int .i64 t198,.int .i64 t199,.int .i64 t200,.string t201] 25 (0,0)) (by (with_reducible repeat (first | refine blk_drewN ?_ _ | refine blk_drew ?_ | refine blk_alloc ?_ _)); exact BK210.out) hb); have n1_ := Aside0.mk (blk_below (g := gb211) (o := .cells #[.int .i64 x212000_12,.int .i64 x212001_12,.int .i64 x212002_12,.string t205] 25 (0,0)) (by (with_reducible repeat (first | refine blk_drewN ?_ _ | refine blk_drew ?_ | refine blk_alloc ?_ _)); exact BK211.out) hb); have n2_ := Aside0.mk (blk_below (g := gb212) (o := .cells #[.int .i64 x213000_12,.int .i64 x213001_12,.int .i64 x213002_12,.string t209] 25 (0,0)) (by (with_reducible repeat (first | refine blk_drewN ?_ _ | refine blk_drew ?_ | refine blk_alloc ?_ _)); exact BK212.out) hb); have n3_ := Aside0.mk (below_step (by repeat (first | (with_reducible first | exact HB.out | apply below_alloc | apply pw_below_drewN | apply below_drew1 | refine below_set ?_ GE210.out | refine below_set ?_ GE211.out | refine below_set ?_ GE212.out) | exact HB.out)) hb); clear BK210; clear BK211; clear BK212; clear HB; have BK210 := n0_; have BK211 := n1_; have BK212 := n2_; have HB := n3_; clear n0_ n1_ n2_ n3_; (try clear hb); (try clear hb2); (try clear hk); (try clear hi); have hcz152_0 : w151.cell? ⟨gb211,0,none⟩ = some (.int .i64 x212000_12) := (blk_cell BK211.out 0).trans rfl; have hcz152_1 : w151.cell? ⟨gb211,1,none⟩ = some (.int .i64 x212001_12) := (blk_cell BK211.out 1).trans rfl; have hcz152_2 : w151.cell? ⟨gb211,2,none⟩ = some (.int .i64 x212002_12) := (blk_cell BK211.out 2).trans rfl; have hcz152_3 : w151.cell? ⟨gb211,3,none⟩ = some (.string t205) := (blk_cell BK211.out 3).trans rfl; have hfz152_0 := blk_frozen BK211.out 0; have hfz152_1 := blk_frozen BK211.out 1; have hfz152_2 := blk_frozen BK211.out 2; have hfz152_3 := blk_frozen BK211.out 3; have hcz153_0 : w151.cell? ⟨gb210,0,none⟩ = some (.int .i64 t198) := (blk_cell BK210.out 0).trans rfl; have hcz153_1 : w151.cell? ⟨gb210,1,none⟩ = some (.int .i64 t199) := (blk_cell BK210.out 1).trans rfl; have hcz153_2 : w151.cell? ⟨gb210,2,none⟩ = some (.int .i64 t200) := (blk_cell BK210.out 2).trans rfl; have hcz153_3 : w151.cell? ⟨gb210,3,none⟩ = some (.string t201) := (blk_cell BK210.out 3).trans rfl; have hfz153_0 := blk_frozen BK210.out 0; have hfz153_1 := blk_frozen BK210.out 1; have hfz153_2 := blk_frozen BK210.out 2; have hfz153_3 := blk_frozen BK210.out 3) | (go_at_call 19; (with_reducible refine (ver_Cmp.calls kj12 x212000_12 x212001_12 x212002_12 t205 t198 t199 t200 t201 t220 _ ?side1 A47.out).mono ?_); (case side1 => exact GL.below0 hG (by repeat (first | (with_reducible first | exact HB.out | apply below_alloc | apply pw_below_drewN | apply below_drew1 | refine below_set ?_ GE210.out | refine below_set ?_ GE211.out | refine below_set ?_ GE212.out) | exact HB.out))); rintro e w154 ⟨rfl,hb⟩; have n0_ := Aside0.mk (blk_below (g := gb210) (o := .cells #[.int .i64 t198,.int .i64 t199,.int .i64 t200,.string t201] 25 (0,0)) (by (with_reducible repeat (first | refine blk_drewN ?_ _ | refine blk_drew ?_ | refine blk_alloc ?_ _)); exact BK210.out) hb); have n1_ := Aside0.mk (blk_below (g := gb211) (o := .cells #[.int .i64 x212000_12,.int .i64 x212001_12,.int .i64 x212002_12,.string t205] 25 (0,0)) (by (with_reducible repeat (first | refine blk_drewN ?_ _ | refine blk_drew ?_ | refine blk_alloc ?_ _)); exact BK211.out) hb); have n2_ := Aside0.mk (blk_below (g := gb212) (o := .cells #[.int .i64 x213000_12,.int .i64 x213001_12,.int .i64 x213002_12,.string t209] 25 (0,0)) (by (with_reducible repeat (first | refine blk_drewN ?_ _ | refine blk_drew ?_ | refine blk_alloc ?_ _)); exact BK212.out) hb); have n3_ := Aside0.mk (below_step (by repeat (first | (with_reducible first | exact HB.out | apply below_alloc | apply pw_below_drewN | apply below_drew1 | refine below_set ?_ GE210.out | refine below_set ?_ GE211.out | refine below_set ?_ GE212.out) | exact HB.out)) hb); clear BK210; clear BK211; clear BK212; clear HB; have BK210 := n0_; have BK211 := n1_; have BK212 := n2_; have HB := n3_; clear n0_ n1_ n2_ n3_; (try clear hb); (try clear hb2); (try clear hk); (try clear hi)))
        go_ret
        exact ⟨by first | rfl | (simp [errW_none,errW_some] <;> rfl) | (simp [*,errW_none,errW_some] <;> rfl),by repeat (first | (with_reducible first | exact HB.out | apply below_alloc | apply pw_below_drewN | apply below_drew1 | refine below_set ?_ GE210.out | refine below_set ?_ GE211.out | refine below_set ?_ GE212.out) | exact HB.out)⟩
      ·rw [if_neg c46] at H
       have c46b0 : (t216 == t219) = false := beq_eq_false_iff_ne.mpr c46
       have c46b1 : (t216 != t219) = true := bne_iff_ne.mpr c46
       obtain rfl := Option.some.inj H
       try go_wp2
       have n0_ := Aside0.mk (blk_drew BK210.out)
       have n1_ := Aside0.mk (blk_drew BK211.out)
       have n2_ := Aside0.mk (blk_drew BK212.out)
       have n3_ := Aside0.mk (below_drew1 HB.out)
       clear BK210
       clear BK211
       clear BK212
       clear HB
       have BK210 := n0_
       have BK211 := n1_
       have BK212 := n2_
       have HB := n3_
       clear n0_ n1_ n2_ n3_
       refine start_ (n := 12) (S := fun w' => w'.cell? ⟨gb210,0,none⟩ = some (.int .i64 t198) ∧ w'.cell? ⟨gb210,1,none⟩ = some (.int .i64 t199) ∧ w'.cell? ⟨gb210,2,none⟩ = some (.int .i64 t200) ∧ w'.cell? ⟨gb210,3,none⟩ = some (.string t201) ∧ w'.cell? ⟨gb211,0,none⟩ = some (.int .i64 x212000_12) ∧ w'.cell? ⟨gb211,1,none⟩ = some (.int .i64 x212001_12) ∧ w'.cell? ⟨gb211,2,none⟩ = some (.int .i64 x212002_12) ∧ w'.cell? ⟨gb211,3,none⟩ = some (.string t205) ∧ w'.cell? ⟨gb212,0,none⟩ = some (.int .i64 x213000_12) ∧ w'.cell? ⟨gb212,1,none⟩ = some (.int .i64 x213001_12) ∧ w'.cell? ⟨gb212,2,none⟩ = some (.int .i64 x213002_12) ∧ w'.cell? ⟨gb212,3,none⟩ = some (.string t209)) (ds := []) #[false,false,false,false,false,false,false,false,false,false,false,false] (by kernel_rfl) rfl rfl ⟨(blk_cell BK210.out 0).trans rfl,(blk_cell BK210.out 1).trans rfl,(blk_cell BK210.out 2).trans rfl,(blk_cell BK210.out 3).trans rfl,(blk_cell BK211.out 0).trans rfl,(blk_cell BK211.out 1).trans rfl,(blk_cell BK211.out 2).trans rfl,(blk_cell BK211.out 3).trans rfl,(blk_cell BK212.out 0).trans rfl,(blk_cell BK212.out 1).trans rfl,(blk_cell BK212.out 2).trans rfl,(blk_cell BK212.out 3).trans rfl⟩ (fun hHeld => ?_); refine with_tabW transhumancelaw2_VerOrder.tab7 transhumancelaw2_VerOrder.bits7 (fun HT_ HW_ => ?_)
       generalize wc.drew = w155 at BK210 BK211 BK212 HB hHeld ⊢
       refine take_ (i := 0) (N := some 51) (v := ?_) (a' := ?_) #[true,false,false,false,false,false,false,false,false,false,false,false] rfl rfl (take_ofW HT_.out HW_.out (by kernel_rfl)) (fun _ _ _ h => h) (Or.inl ⟨by rfl,?_⟩) hHeld ?_ ?_
       rotate_left
       ·rintro w' ⟨s0,s1,s2,s3,s4,s5,s6,s7,s8,s9,s10,s11⟩
        go_simp
        with_reducible rfl
       rotate_left
       ·simp only [Act.put,List.setIfInBounds_toArray,List.set_cons_zero,List.set_cons_succ,i64_w,i32_w]
        rfl
       refine take_ (i := 1) (N := some 52) (v := ?_) (a' := ?_) #[true,true,false,false,false,false,false,false,false,false,false,false] rfl rfl (take_ofW HT_.out HW_.out (by kernel_rfl)) (fun _ _ _ h => h) (Or.inl ⟨by rfl,?_⟩) hHeld ?_ ?_
       rotate_left
       ·rintro w' ⟨s0,s1,s2,s3,s4,s5,s6,s7,s8,s9,s10,s11⟩
        go_simp
        with_reducible rfl
       rotate_left
       ·simp only [Act.put,List.setIfInBounds_toArray,List.set_cons_zero,List.set_cons_succ,i64_w,i32_w]
        rfl
       refine take_ (i := 3) (N := some 54) (v := ?_) (a' := ?_) #[true,true,false,true,false,false,false,false,false,false,false,false] rfl rfl (take_ofW HT_.out HW_.out (by kernel_rfl)) (fun _ _ _ h => h) (Or.inl ⟨by rfl,?_⟩) hHeld ?_ ?_
       rotate_left
       ·rintro w' ⟨s0,s1,s2,s3,s4,s5,s6,s7,s8,s9,s10,s11⟩
        go_simp
        with_reducible rfl
       rotate_left
       ·simp only [Act.put,List.setIfInBounds_toArray,List.set_cons_zero,List.set_cons_succ,i64_w,i32_w]
        rfl
       refine take_ (i := 4) (N := some 55) (v := ?_) (a' := ?_) #[true,true,false,true,true,false,false,false,false,false,false,false] rfl rfl (take_ofW HT_.out HW_.out (by kernel_rfl)) (fun _ _ _ h => h) (Or.inl ⟨by rfl,?_⟩) hHeld ?_ ?_
       rotate_left
       ·rintro w' ⟨s0,s1,s2,s3,s4,s5,s6,s7,s8,s9,s10,s11⟩
        go_simp
        with_reducible rfl
       rotate_left
       ·simp only [Act.put,List.setIfInBounds_toArray,List.set_cons_zero,List.set_cons_succ,i64_w,i32_w]
        rfl
       refine take_ (i := 6) (N := some 57) (v := ?_) (a' := ?_) #[true,true,false,true,true,false,true,false,false,false,false,false] rfl rfl (take_ofW HT_.out HW_.out (by kernel_rfl)) (fun _ _ _ h => h) (Or.inl ⟨by rfl,?_⟩) hHeld ?_ ?_
       rotate_left
       ·rintro w' ⟨s0,s1,s2,s3,s4,s5,s6,s7,s8,s9,s10,s11⟩
        go_simp
        with_reducible rfl
       rotate_left
       ·simp only [Act.put,List.setIfInBounds_toArray,List.set_cons_zero,List.set_cons_succ,i64_w,i32_w]
        rfl
       refine take_ (i := 7) (N := some 58) (v := ?_) (a' := ?_) #[true,true,false,true,true,false,true,true,false,false,false,false] rfl rfl (take_ofW HT_.out HW_.out (by kernel_rfl)) (fun _ _ _ h => h) (Or.inl ⟨by rfl,?_⟩) hHeld ?_ ?_
       rotate_left
       ·rintro w' ⟨s0,s1,s2,s3,s4,s5,s6,s7,s8,s9,s10,s11⟩
        go_simp
        with_reducible rfl
       rotate_left
       ·simp only [Act.put,List.setIfInBounds_toArray,List.set_cons_zero,List.set_cons_succ,i64_w,i32_w]
        rfl
       refine one_ (i := 2) (N := some 53) #[true,true,true,true,true,false,true,true,false,false,false,false] rfl rfl (one_of HT_.out (by kernel_rfl)) (by decide) (fun K hK => ?_)
       refine goes_ Tryz.func19 (by kernel_rfl) rfl #[.agg #[.int .i64 t198,.int .i64 t199,.int .i64 t200,.string t201],.agg #[.int .i64 x212000_12,.int .i64 x212001_12,.int .i64 x212002_12,.string t205]] (by rfl) rfl rfl (by (try simp only [List.map_toArray,List.map_cons,List.map_nil]); first | done | rfl | (simp only [List.length_drop,List.length_take]; rfl)) ?_
       with_reducible refine (ver_Cmp.calls kj12 t198 t199 t200 t201 x212000_12 x212001_12 x212002_12 t205 t214 _ ?side1 A38.out).mono ?_
       (case side1 => exact GL.below0 hG (by repeat (first | (with_reducible first | exact HB.out | apply below_alloc | apply pw_below_drewN | apply below_drew1 | refine below_set ?_ GE210.out | refine below_set ?_ GE211.out | refine below_set ?_ GE212.out) | exact HB.out)))
       rintro e w156 ⟨rfl,hb⟩
       refine ⟨_,rfl,?_⟩
       have n0_ := Aside0.mk (blk_below (g := gb210) (o := .cells #[.int .i64 t198,.int .i64 t199,.int .i64 t200,.string t201] 25 (0,0)) (by (with_reducible repeat (first | refine blk_drewN ?_ _ | refine blk_drew ?_ | refine blk_alloc ?_ _)); exact BK210.out) hb)
       have n1_ := Aside0.mk (blk_below (g := gb211) (o := .cells #[.int .i64 x212000_12,.int .i64 x212001_12,.int .i64 x212002_12,.string t205] 25 (0,0)) (by (with_reducible repeat (first | refine blk_drewN ?_ _ | refine blk_drew ?_ | refine blk_alloc ?_ _)); exact BK211.out) hb)
       have n2_ := Aside0.mk (blk_below (g := gb212) (o := .cells #[.int .i64 x213000_12,.int .i64 x213001_12,.int .i64 x213002_12,.string t209] 25 (0,0)) (by (with_reducible repeat (first | refine blk_drewN ?_ _ | refine blk_drew ?_ | refine blk_alloc ?_ _)); exact BK212.out) hb)
       have n3_ := Aside0.mk (below_step (by repeat (first | (with_reducible first | exact HB.out | apply below_alloc | apply pw_below_drewN | apply below_drew1 | refine below_set ?_ GE210.out | refine below_set ?_ GE211.out | refine below_set ?_ GE212.out) | exact HB.out)) hb)
       clear BK210
       clear BK211
       clear BK212
       clear HB
       have BK210 := n0_
       have BK211 := n1_
       have BK212 := n2_
       have HB := n3_
       clear n0_ n1_ n2_ n3_
       (try clear hb)
       (try clear hb2)
       (try clear hk)
       (try clear hi)
       refine hK.out _ _ ⟨(blk_cell BK210.out 0).trans rfl,(blk_cell BK210.out 1).trans rfl,(blk_cell BK210.out 2).trans rfl,(blk_cell BK210.out 3).trans rfl,(blk_cell BK211.out 0).trans rfl,(blk_cell BK211.out 1).trans rfl,(blk_cell BK211.out 2).trans rfl,(blk_cell BK211.out 3).trans rfl,(blk_cell BK212.out 0).trans rfl,(blk_cell BK212.out 1).trans rfl,(blk_cell BK212.out 2).trans rfl,(blk_cell BK212.out 3).trans rfl⟩ (fun hHeld => ?_)
       clear hK K
       refine norm_ (a' := ?_) ?_ ?_
       rotate_left
       ·show Act.put _ (some 53) _ = _
        simp only [Act.put,List.setIfInBounds_toArray,List.set_cons_zero,List.set_cons_succ,i64_w,i32_w]
        rfl
       refine one_ (i := 5) (N := some 56) #[true,true,true,true,true,true,true,true,false,false,false,false] rfl rfl (one_of HT_.out (by kernel_rfl)) (by decide) (fun K hK => ?_)
       refine goes_ Tryz.func19 (by kernel_rfl) rfl #[.agg #[.int .i64 x212000_12,.int .i64 x212001_12,.int .i64 x212002_12,.string t205],.agg #[.int .i64 x213000_12,.int .i64 x213001_12,.int .i64 x213002_12,.string t209]] (by rfl) rfl rfl (by (try simp only [List.map_toArray,List.map_cons,List.map_nil]); first | done | rfl | (simp only [List.length_drop,List.length_take]; rfl)) ?_
       with_reducible refine (ver_Cmp.calls kj12 x212000_12 x212001_12 x212002_12 t205 x213000_12 x213001_12 x213002_12 t209 t215 _ ?side1 A39.out).mono ?_
       (case side1 => exact GL.below0 hG (by repeat (first | (with_reducible first | exact HB.out | apply below_alloc | apply pw_below_drewN | apply below_drew1 | refine below_set ?_ GE210.out | refine below_set ?_ GE211.out | refine below_set ?_ GE212.out) | exact HB.out)))
       rintro e w157 ⟨rfl,hb⟩
       refine ⟨_,rfl,?_⟩
       have n0_ := Aside0.mk (blk_below (g := gb210) (o := .cells #[.int .i64 t198,.int .i64 t199,.int .i64 t200,.string t201] 25 (0,0)) (by (with_reducible repeat (first | refine blk_drewN ?_ _ | refine blk_drew ?_ | refine blk_alloc ?_ _)); exact BK210.out) hb)
       have n1_ := Aside0.mk (blk_below (g := gb211) (o := .cells #[.int .i64 x212000_12,.int .i64 x212001_12,.int .i64 x212002_12,.string t205] 25 (0,0)) (by (with_reducible repeat (first | refine blk_drewN ?_ _ | refine blk_drew ?_ | refine blk_alloc ?_ _)); exact BK211.out) hb)
       have n2_ := Aside0.mk (blk_below (g := gb212) (o := .cells #[.int .i64 x213000_12,.int .i64 x213001_12,.int .i64 x213002_12,.string t209] 25 (0,0)) (by (with_reducible repeat (first | refine blk_drewN ?_ _ | refine blk_drew ?_ | refine blk_alloc ?_ _)); exact BK212.out) hb)
       have n3_ := Aside0.mk (below_step (by repeat (first | (with_reducible first | exact HB.out | apply below_alloc | apply pw_below_drewN | apply below_drew1 | refine below_set ?_ GE210.out | refine below_set ?_ GE211.out | refine below_set ?_ GE212.out) | exact HB.out)) hb)
       clear BK210
       clear BK211
       clear BK212
       clear HB
       have BK210 := n0_
       have BK211 := n1_
       have BK212 := n2_
       have HB := n3_
       clear n0_ n1_ n2_ n3_
       (try clear hb)
       (try clear hb2)
       (try clear hk)
       (try clear hi)
       refine hK.out _ _ ⟨(blk_cell BK210.out 0).trans rfl,(blk_cell BK210.out 1).trans rfl,(blk_cell BK210.out 2).trans rfl,(blk_cell BK210.out 3).trans rfl,(blk_cell BK211.out 0).trans rfl,(blk_cell BK211.out 1).trans rfl,(blk_cell BK211.out 2).trans rfl,(blk_cell BK211.out 3).trans rfl,(blk_cell BK212.out 0).trans rfl,(blk_cell BK212.out 1).trans rfl,(blk_cell BK212.out 2).trans rfl,(blk_cell BK212.out 3).trans rfl⟩ (fun hHeld => ?_)
       clear hK K
       refine norm_ (a' := ?_) ?_ ?_
       rotate_left
       ·show Act.put _ (some 56) _ = _
        simp only [Act.put,List.setIfInBounds_toArray,List.set_cons_zero,List.set_cons_succ,i64_w,i32_w]
        rfl
       refine one_ (i := 8) (N := some 59) #[true,true,true,true,true,true,true,true,true,false,false,false] rfl rfl (one_of HT_.out (by kernel_rfl)) (by decide) (fun K hK => ?_)
       refine goes_ Tryz.func19 (by kernel_rfl) rfl #[.agg #[.int .i64 t198,.int .i64 t199,.int .i64 t200,.string t201],.agg #[.int .i64 x213000_12,.int .i64 x213001_12,.int .i64 x213002_12,.string t209]] (by rfl) rfl rfl (by (try simp only [List.map_toArray,List.map_cons,List.map_nil]); first | done | rfl | (simp only [List.length_drop,List.length_take]; rfl)) ?_
       with_reducible refine (ver_Cmp.calls kj12 t198 t199 t200 t201 x213000_12 x213001_12 x213002_12 t209 t216 _ ?side1 A40.out).mono ?_
       (case side1 => exact GL.below0 hG (by repeat (first | (with_reducible first | exact HB.out | apply below_alloc | apply pw_below_drewN | apply below_drew1 | refine below_set ?_ GE210.out | refine below_set ?_ GE211.out | refine below_set ?_ GE212.out) | exact HB.out)))
       rintro e w158 ⟨rfl,hb⟩
       refine ⟨_,rfl,?_⟩
       have n0_ := Aside0.mk (blk_below (g := gb210) (o := .cells #[.int .i64 t198,.int .i64 t199,.int .i64 t200,.string t201] 25 (0,0)) (by (with_reducible repeat (first | refine blk_drewN ?_ _ | refine blk_drew ?_ | refine blk_alloc ?_ _)); exact BK210.out) hb)
       have n1_ := Aside0.mk (blk_below (g := gb211) (o := .cells #[.int .i64 x212000_12,.int .i64 x212001_12,.int .i64 x212002_12,.string t205] 25 (0,0)) (by (with_reducible repeat (first | refine blk_drewN ?_ _ | refine blk_drew ?_ | refine blk_alloc ?_ _)); exact BK211.out) hb)
       have n2_ := Aside0.mk (blk_below (g := gb212) (o := .cells #[.int .i64 x213000_12,.int .i64 x213001_12,.int .i64 x213002_12,.string t209] 25 (0,0)) (by (with_reducible repeat (first | refine blk_drewN ?_ _ | refine blk_drew ?_ | refine blk_alloc ?_ _)); exact BK212.out) hb)
       have n3_ := Aside0.mk (below_step (by repeat (first | (with_reducible first | exact HB.out | apply below_alloc | apply pw_below_drewN | apply below_drew1 | refine below_set ?_ GE210.out | refine below_set ?_ GE211.out | refine below_set ?_ GE212.out) | exact HB.out)) hb)
       clear BK210
       clear BK211
       clear BK212
       clear HB
       have BK210 := n0_
       have BK211 := n1_
       have BK212 := n2_
       have HB := n3_
       clear n0_ n1_ n2_ n3_
       (try clear hb)
       (try clear hb2)
       (try clear hk)
       (try clear hi)
       refine hK.out _ _ ⟨(blk_cell BK210.out 0).trans rfl,(blk_cell BK210.out 1).trans rfl,(blk_cell BK210.out 2).trans rfl,(blk_cell BK210.out 3).trans rfl,(blk_cell BK211.out 0).trans rfl,(blk_cell BK211.out 1).trans rfl,(blk_cell BK211.out 2).trans rfl,(blk_cell BK211.out 3).trans rfl,(blk_cell BK212.out 0).trans rfl,(blk_cell BK212.out 1).trans rfl,(blk_cell BK212.out 2).trans rfl,(blk_cell BK212.out 3).trans rfl⟩ (fun hHeld => ?_)
       clear hK K
       refine norm_ (a' := ?_) ?_ ?_
       rotate_left
       ·show Act.put _ (some 59) _ = _
        simp only [Act.put,List.setIfInBounds_toArray,List.set_cons_zero,List.set_cons_succ,i64_w,i32_w]
        rfl
       refine pure_ (i := 9) (N := some 16) (v := ?_) (a' := ?_) #[true,true,true,true,true,true,true,true,true,true,false,false] rfl rfl (any_of HT_.out (by kernel_rfl)) (fun _ _ _ h => h) (Or.inl ⟨by rfl,?_⟩) ?_ ?_
       rotate_left
       ·intro w'
        go_simp
        with_reducible rfl
       rotate_left
       ·simp only [Act.put,List.setIfInBounds_toArray,List.set_cons_zero,List.set_cons_succ,i64_w,i32_w]
        rfl
       refine pure_ (i := 10) (N := some 17) (v := ?_) (a' := ?_) #[true,true,true,true,true,true,true,true,true,true,true,false] rfl rfl (any_of HT_.out (by kernel_rfl)) (fun _ _ _ h => h) (Or.inl ⟨by rfl,?_⟩) ?_ ?_
       rotate_left
       ·intro w'
        go_simp
        with_reducible rfl
       rotate_left
       ·simp only [Act.put,List.setIfInBounds_toArray,List.set_cons_zero,List.set_cons_succ,i64_w,i32_w]
        rfl
       refine pure_ (i := 11) (N := some 18) (v := ?_) (a' := ?_) #[true,true,true,true,true,true,true,true,true,true,true,true] rfl rfl (any_of HT_.out (by kernel_rfl)) (fun _ _ _ h => h) (Or.inl ⟨by rfl,?_⟩) ?_ ?_
       rotate_left
       ·intro w'
        go_simp
        with_reducible rfl
       rotate_left
       ·simp only [Act.put,List.setIfInBounds_toArray,List.set_cons_zero,List.set_cons_succ,i64_w,i32_w]
        rfl
       refine done_ (done_of HT_.out (by kernel_rfl)) ?_
       have hnb159 := NB210_211.out
       have hnc159 := NB211_210.out
       have hnb160 := NB210_212.out
       have hnc160 := NB212_210.out
       have hcz161_0 : w158.cell? ⟨gb210,0,none⟩ = some (.int .i64 t198) := (blk_cell BK210.out 0).trans rfl
       have hcz161_1 : w158.cell? ⟨gb210,1,none⟩ = some (.int .i64 t199) := (blk_cell BK210.out 1).trans rfl
       have hcz161_2 : w158.cell? ⟨gb210,2,none⟩ = some (.int .i64 t200) := (blk_cell BK210.out 2).trans rfl
       have hcz161_3 : w158.cell? ⟨gb210,3,none⟩ = some (.string t201) := (blk_cell BK210.out 3).trans rfl
       have hfz161_0 := blk_frozen BK210.out 0
       have hfz161_1 := blk_frozen BK210.out 1
       have hfz161_2 := blk_frozen BK210.out 2
       have hfz161_3 := blk_frozen BK210.out 3
       have hnb162 := NB211_212.out
       have hnc162 := NB212_211.out
       have hcz163_0 : w158.cell? ⟨gb211,0,none⟩ = some (.int .i64 x212000_12) := (blk_cell BK211.out 0).trans rfl
       have hcz163_1 : w158.cell? ⟨gb211,1,none⟩ = some (.int .i64 x212001_12) := (blk_cell BK211.out 1).trans rfl
       have hcz163_2 : w158.cell? ⟨gb211,2,none⟩ = some (.int .i64 x212002_12) := (blk_cell BK211.out 2).trans rfl
       have hcz163_3 : w158.cell? ⟨gb211,3,none⟩ = some (.string t205) := (blk_cell BK211.out 3).trans rfl
       have hfz163_0 := blk_frozen BK211.out 0
       have hfz163_1 := blk_frozen BK211.out 1
       have hfz163_2 := blk_frozen BK211.out 2
       have hfz163_3 := blk_frozen BK211.out 3
       try go_wp2_with (first | ((with_reducible refine gate_callee (f := 20) rfl ?_); refine goesL_ (some 63) rfl rfl Tryz.func20 (by kernel_rfl) rfl #[.agg #[.int .i64 t198,.int .i64 t199,.int .i64 t200,.string t201],.agg #[.int .i64 x212000_12,.int .i64 x212001_12,.int .i64 x212002_12,.string t205]] rfl (by (try simp only [List.map_toArray,List.map_cons,List.map_nil]); first | done | rfl | (simp only [List.length_drop,List.length_take]; rfl)) ?_; (with_reducible refine (transhumanceref2_Cmp.calls kj12 t198 t199 t200 t201 x212000_12 x212001_12 x212002_12 t205 t217 _ A41.out).mono ?_); rintro e w164 ⟨rfl,hb⟩; refine ⟨_,rfl,?_⟩; have n0_ := Aside0.mk (blk_below (g := gb210) (o := .cells #[.int .i64 t198,.int .i64 t199,.int .i64 t200,.string t201] 25 (0,0)) (by (with_reducible repeat (first | refine blk_drewN ?_ _ | refine blk_drew ?_ | refine blk_alloc ?_ _)); exact BK210.out) hb); have n1_ := Aside0.mk (blk_below (g := gb211) (o := .cells #[.int .i64 x212000_12,.int .i64 x212001_12,.int .i64 x212002_12,.string t205] 25 (0,0)) (by (with_reducible repeat (first | refine blk_drewN ?_ _ | refine blk_drew ?_ | refine blk_alloc ?_ _)); exact BK211.out) hb); have n2_ := Aside0.mk (blk_below (g := gb212) (o := .cells #[.int .i64 x213000_12,.int .i64 x213001_12,.int .i64 x213002_12,.string t209] 25 (0,0)) (by (with_reducible repeat (first | refine blk_drewN ?_ _ | refine blk_drew ?_ | refine blk_alloc ?_ _)); exact BK212.out) hb); have n3_ := Aside0.mk (below_step (by repeat (first | (with_reducible first | exact HB.out | apply below_alloc | apply pw_below_drewN | apply below_drew1 | refine below_set ?_ GE210.out | refine below_set ?_ GE211.out | refine below_set ?_ GE212.out) | exact HB.out)) hb); clear BK210; clear BK211; clear BK212; clear HB; have BK210 := n0_; have BK211 := n1_; have BK212 := n2_; have HB := n3_; clear n0_ n1_ n2_ n3_; (try clear hb); (try clear hb2); (try clear hk); (try clear hi); have hcz165_0 : w164.cell? ⟨gb211,0,none⟩ = some (.int .i64 x212000_12) := (blk_cell BK211.out 0).trans rfl; have hcz165_1 : w164.cell? ⟨gb211,1,none⟩ = some (.int .i64 x212001_12) := (blk_cell BK211.out 1).trans rfl; have hcz165_2 : w164.cell? ⟨gb211,2,none⟩ = some (.int .i64 x212002_12) := (blk_cell BK211.out 2).trans rfl; have hcz165_3 : w164.cell? ⟨gb211,3,none⟩ = some (.string t205) := (blk_cell BK211.out 3).trans rfl; have hfz165_0 := blk_frozen BK211.out 0; have hfz165_1 := blk_frozen BK211.out 1; have hfz165_2 := blk_frozen BK211.out 2; have hfz165_3 := blk_frozen BK211.out 3; have hcz166_0 : w164.cell? ⟨gb212,0,none⟩ = some (.int .i64 x213000_12) := (blk_cell BK212.out 0).trans rfl; have hcz166_1 : w164.cell? ⟨gb212,1,none⟩ = some (.int .i64 x213001_12) := (blk_cell BK212.out 1).trans rfl; have hcz166_2 : w164.cell? ⟨gb212,2,none⟩ = some (.int .i64 x213002_12) := (blk_cell BK212.out 2).trans rfl; have hcz166_3 : w164.cell? ⟨gb212,3,none⟩ = some (.string t209) := (blk_cell BK212.out 3).trans rfl; have hfz166_0 := blk_frozen BK212.out 0; have hfz166_1 := blk_frozen BK212.out 1; have hfz166_2 := blk_frozen BK212.out 2; have hfz166_3 := blk_frozen BK212.out 3) | (go_at_call 20; (with_reducible refine (transhumanceref2_Cmp.calls kj12 x212000_12 x212001_12 x212002_12 t205 x213000_12 x213001_12 x213002_12 t209 t218 _ A43.out).mono ?_); rintro e w167 ⟨rfl,hb⟩; have n0_ := Aside0.mk (blk_below (g := gb210) (o := .cells #[.int .i64 t198,.int .i64 t199,.int .i64 t200,.string t201] 25 (0,0)) (by (with_reducible repeat (first | refine blk_drewN ?_ _ | refine blk_drew ?_ | refine blk_alloc ?_ _)); exact BK210.out) hb); have n1_ := Aside0.mk (blk_below (g := gb211) (o := .cells #[.int .i64 x212000_12,.int .i64 x212001_12,.int .i64 x212002_12,.string t205] 25 (0,0)) (by (with_reducible repeat (first | refine blk_drewN ?_ _ | refine blk_drew ?_ | refine blk_alloc ?_ _)); exact BK211.out) hb); have n2_ := Aside0.mk (blk_below (g := gb212) (o := .cells #[.int .i64 x213000_12,.int .i64 x213001_12,.int .i64 x213002_12,.string t209] 25 (0,0)) (by (with_reducible repeat (first | refine blk_drewN ?_ _ | refine blk_drew ?_ | refine blk_alloc ?_ _)); exact BK212.out) hb); have n3_ := Aside0.mk (below_step (by repeat (first | (with_reducible first | exact HB.out | apply below_alloc | apply pw_below_drewN | apply below_drew1 | refine below_set ?_ GE210.out | refine below_set ?_ GE211.out | refine below_set ?_ GE212.out) | exact HB.out)) hb); clear BK210; clear BK211; clear BK212; clear HB; have BK210 := n0_; have BK211 := n1_; have BK212 := n2_; have HB := n3_; clear n0_ n1_ n2_ n3_; (try clear hb); (try clear hb2); (try clear hk); (try clear hi); have hcz168_0 : w167.cell? ⟨gb210,0,none⟩ = some (.int .i64 t198) := (blk_cell BK210.out 0).trans rfl; have hcz168_1 : w167.cell? ⟨gb210,1,none⟩ = some (.int .i64 t199) := (blk_cell BK210.out 1).trans rfl; have hcz168_2 : w167.cell? ⟨gb210,2,none⟩ = some (.int .i64 t200) := (blk_cell BK210.out 2).trans rfl; have hcz168_3 : w167.cell? ⟨gb210,3,none⟩ = some (.string t201) := (blk_cell BK210.out 3).trans rfl; have hfz168_0 := blk_frozen BK210.out 0; have hfz168_1 := blk_frozen BK210.out 1; have hfz168_2 := blk_frozen BK210.out 2; have hfz168_3 := blk_frozen BK210.out 3; have hcz169_0 : w167.cell? ⟨gb212,0,none⟩ = some (.int .i64 x213000_12) := (blk_cell BK212.out 0).trans rfl; have hcz169_1 : w167.cell? ⟨gb212,1,none⟩ = some (.int .i64 x213001_12) := (blk_cell BK212.out 1).trans rfl; have hcz169_2 : w167.cell? ⟨gb212,2,none⟩ = some (.int .i64 x213002_12) := (blk_cell BK212.out 2).trans rfl; have hcz169_3 : w167.cell? ⟨gb212,3,none⟩ = some (.string t209) := (blk_cell BK212.out 3).trans rfl; have hfz169_0 := blk_frozen BK212.out 0; have hfz169_1 := blk_frozen BK212.out 1; have hfz169_2 := blk_frozen BK212.out 2; have hfz169_3 := blk_frozen BK212.out 3) | (go_at_call 20; (with_reducible refine (transhumanceref2_Cmp.calls kj12 t198 t199 t200 t201 x213000_12 x213001_12 x213002_12 t209 t219 _ A45.out).mono ?_); rintro e w170 ⟨rfl,hb⟩; have n0_ := Aside0.mk (blk_below (g := gb210) (o := .cells #[.int .i64 t198,.int .i64 t199,.int .i64 t200,.string t201] 25 (0,0)) (by (with_reducible repeat (first | refine blk_drewN ?_ _ | refine blk_drew ?_ | refine blk_alloc ?_ _)); exact BK210.out) hb); have n1_ := Aside0.mk (blk_below (g := gb211) (o := .cells #[.int .i64 x212000_12,.int .i64 x212001_12,.int .i64 x212002_12,.string t205] 25 (0,0)) (by (with_reducible repeat (first | refine blk_drewN ?_ _ | refine blk_drew ?_ | refine blk_alloc ?_ _)); exact BK211.out) hb); have n2_ := Aside0.mk (blk_below (g := gb212) (o := .cells #[.int .i64 x213000_12,.int .i64 x213001_12,.int .i64 x213002_12,.string t209] 25 (0,0)) (by (with_reducible repeat (first | refine blk_drewN ?_ _ | refine blk_drew ?_ | refine blk_alloc ?_ _)); exact BK212.out) hb); have n3_ := Aside0.mk (below_step (by repeat (first | (with_reducible first | exact HB.out | apply below_alloc | apply pw_below_drewN | apply below_drew1 | refine below_set ?_ GE210.out | refine below_set ?_ GE211.out | refine below_set ?_ GE212.out) | exact HB.out)) hb); clear BK210; clear BK211; clear BK212; clear HB; have BK210 := n0_; have BK211 := n1_; have BK212 := n2_; have HB := n3_; clear n0_ n1_ n2_ n3_; (try clear hb); (try clear hb2); (try clear hk); (try clear hi)))
       go_ret
       exact ⟨by first | rfl | (simp [errW_none,errW_some] <;> rfl) | (simp [*,errW_none,errW_some] <;> rfl),by repeat (first | (with_reducible first | exact HB.out | apply below_alloc | apply pw_below_drewN | apply below_drew1 | refine below_set ?_ GE210.out | refine below_set ?_ GE211.out | refine below_set ?_ GE212.out) | exact HB.out)⟩
     ·rw [if_neg c44] at H
      have c44b0 : (t215 == t218) = false := beq_eq_false_iff_ne.mpr c44
      have c44b1 : (t215 != t218) = true := bne_iff_ne.mpr c44
      obtain rfl := Option.some.inj H
      try go_wp2
      have n0_ := Aside0.mk (blk_drew BK210.out)
      have n1_ := Aside0.mk (blk_drew BK211.out)
      have n2_ := Aside0.mk (blk_drew BK212.out)
      have n3_ := Aside0.mk (below_drew1 HB.out)
      clear BK210
      clear BK211
      clear BK212
      clear HB
      have BK210 := n0_
      have BK211 := n1_
      have BK212 := n2_
      have HB := n3_
      clear n0_ n1_ n2_ n3_
      refine start_ (n := 12) (S := fun w' => w'.cell? ⟨gb210,0,none⟩ = some (.int .i64 t198) ∧ w'.cell? ⟨gb210,1,none⟩ = some (.int .i64 t199) ∧ w'.cell? ⟨gb210,2,none⟩ = some (.int .i64 t200) ∧ w'.cell? ⟨gb210,3,none⟩ = some (.string t201) ∧ w'.cell? ⟨gb211,0,none⟩ = some (.int .i64 x212000_12) ∧ w'.cell? ⟨gb211,1,none⟩ = some (.int .i64 x212001_12) ∧ w'.cell? ⟨gb211,2,none⟩ = some (.int .i64 x212002_12) ∧ w'.cell? ⟨gb211,3,none⟩ = some (.string t205) ∧ w'.cell? ⟨gb212,0,none⟩ = some (.int .i64 x213000_12) ∧ w'.cell? ⟨gb212,1,none⟩ = some (.int .i64 x213001_12) ∧ w'.cell? ⟨gb212,2,none⟩ = some (.int .i64 x213002_12) ∧ w'.cell? ⟨gb212,3,none⟩ = some (.string t209)) (ds := []) #[false,false,false,false,false,false,false,false,false,false,false,false] (by kernel_rfl) rfl rfl ⟨(blk_cell BK210.out 0).trans rfl,(blk_cell BK210.out 1).trans rfl,(blk_cell BK210.out 2).trans rfl,(blk_cell BK210.out 3).trans rfl,(blk_cell BK211.out 0).trans rfl,(blk_cell BK211.out 1).trans rfl,(blk_cell BK211.out 2).trans rfl,(blk_cell BK211.out 3).trans rfl,(blk_cell BK212.out 0).trans rfl,(blk_cell BK212.out 1).trans rfl,(blk_cell BK212.out 2).trans rfl,(blk_cell BK212.out 3).trans rfl⟩ (fun hHeld => ?_); refine with_tabW transhumancelaw2_VerOrder.tab7 transhumancelaw2_VerOrder.bits7 (fun HT_ HW_ => ?_)
      generalize wc.drew = w171 at BK210 BK211 BK212 HB hHeld ⊢
      refine take_ (i := 0) (N := some 51) (v := ?_) (a' := ?_) #[true,false,false,false,false,false,false,false,false,false,false,false] rfl rfl (take_ofW HT_.out HW_.out (by kernel_rfl)) (fun _ _ _ h => h) (Or.inl ⟨by rfl,?_⟩) hHeld ?_ ?_
      rotate_left
      ·rintro w' ⟨s0,s1,s2,s3,s4,s5,s6,s7,s8,s9,s10,s11⟩
       go_simp
       with_reducible rfl
      rotate_left
      ·simp only [Act.put,List.setIfInBounds_toArray,List.set_cons_zero,List.set_cons_succ,i64_w,i32_w]
       rfl
      refine take_ (i := 1) (N := some 52) (v := ?_) (a' := ?_) #[true,true,false,false,false,false,false,false,false,false,false,false] rfl rfl (take_ofW HT_.out HW_.out (by kernel_rfl)) (fun _ _ _ h => h) (Or.inl ⟨by rfl,?_⟩) hHeld ?_ ?_
      rotate_left
      ·rintro w' ⟨s0,s1,s2,s3,s4,s5,s6,s7,s8,s9,s10,s11⟩
       go_simp
       with_reducible rfl
      rotate_left
      ·simp only [Act.put,List.setIfInBounds_toArray,List.set_cons_zero,List.set_cons_succ,i64_w,i32_w]
       rfl
      refine take_ (i := 3) (N := some 54) (v := ?_) (a' := ?_) #[true,true,false,true,false,false,false,false,false,false,false,false] rfl rfl (take_ofW HT_.out HW_.out (by kernel_rfl)) (fun _ _ _ h => h) (Or.inl ⟨by rfl,?_⟩) hHeld ?_ ?_
      rotate_left
      ·rintro w' ⟨s0,s1,s2,s3,s4,s5,s6,s7,s8,s9,s10,s11⟩
       go_simp
       with_reducible rfl
      rotate_left
      ·simp only [Act.put,List.setIfInBounds_toArray,List.set_cons_zero,List.set_cons_succ,i64_w,i32_w]
       rfl
      refine take_ (i := 4) (N := some 55) (v := ?_) (a' := ?_) #[true,true,false,true,true,false,false,false,false,false,false,false] rfl rfl (take_ofW HT_.out HW_.out (by kernel_rfl)) (fun _ _ _ h => h) (Or.inl ⟨by rfl,?_⟩) hHeld ?_ ?_
      rotate_left
      ·rintro w' ⟨s0,s1,s2,s3,s4,s5,s6,s7,s8,s9,s10,s11⟩
       go_simp
       with_reducible rfl
      rotate_left
      ·simp only [Act.put,List.setIfInBounds_toArray,List.set_cons_zero,List.set_cons_succ,i64_w,i32_w]
       rfl
      refine take_ (i := 6) (N := some 57) (v := ?_) (a' := ?_) #[true,true,false,true,true,false,true,false,false,false,false,false] rfl rfl (take_ofW HT_.out HW_.out (by kernel_rfl)) (fun _ _ _ h => h) (Or.inl ⟨by rfl,?_⟩) hHeld ?_ ?_
      rotate_left
      ·rintro w' ⟨s0,s1,s2,s3,s4,s5,s6,s7,s8,s9,s10,s11⟩
       go_simp
       with_reducible rfl
      rotate_left
      ·simp only [Act.put,List.setIfInBounds_toArray,List.set_cons_zero,List.set_cons_succ,i64_w,i32_w]
       rfl
      refine take_ (i := 7) (N := some 58) (v := ?_) (a' := ?_) #[true,true,false,true,true,false,true,true,false,false,false,false] rfl rfl (take_ofW HT_.out HW_.out (by kernel_rfl)) (fun _ _ _ h => h) (Or.inl ⟨by rfl,?_⟩) hHeld ?_ ?_
      rotate_left
      ·rintro w' ⟨s0,s1,s2,s3,s4,s5,s6,s7,s8,s9,s10,s11⟩
       go_simp
       with_reducible rfl
      rotate_left
      ·simp only [Act.put,List.setIfInBounds_toArray,List.set_cons_zero,List.set_cons_succ,i64_w,i32_w]
       rfl
      refine one_ (i := 2) (N := some 53) #[true,true,true,true,true,false,true,true,false,false,false,false] rfl rfl (one_of HT_.out (by kernel_rfl)) (by decide) (fun K hK => ?_)
      refine goes_ Tryz.func19 (by kernel_rfl) rfl #[.agg #[.int .i64 t198,.int .i64 t199,.int .i64 t200,.string t201],.agg #[.int .i64 x212000_12,.int .i64 x212001_12,.int .i64 x212002_12,.string t205]] (by rfl) rfl rfl (by (try simp only [List.map_toArray,List.map_cons,List.map_nil]); first | done | rfl | (simp only [List.length_drop,List.length_take]; rfl)) ?_
      with_reducible refine (ver_Cmp.calls kj12 t198 t199 t200 t201 x212000_12 x212001_12 x212002_12 t205 t214 _ ?side1 A38.out).mono ?_
      (case side1 => exact GL.below0 hG (by repeat (first | (with_reducible first | exact HB.out | apply below_alloc | apply pw_below_drewN | apply below_drew1 | refine below_set ?_ GE210.out | refine below_set ?_ GE211.out | refine below_set ?_ GE212.out) | exact HB.out)))
      rintro e w172 ⟨rfl,hb⟩
      refine ⟨_,rfl,?_⟩
      have n0_ := Aside0.mk (blk_below (g := gb210) (o := .cells #[.int .i64 t198,.int .i64 t199,.int .i64 t200,.string t201] 25 (0,0)) (by (with_reducible repeat (first | refine blk_drewN ?_ _ | refine blk_drew ?_ | refine blk_alloc ?_ _)); exact BK210.out) hb)
      have n1_ := Aside0.mk (blk_below (g := gb211) (o := .cells #[.int .i64 x212000_12,.int .i64 x212001_12,.int .i64 x212002_12,.string t205] 25 (0,0)) (by (with_reducible repeat (first | refine blk_drewN ?_ _ | refine blk_drew ?_ | refine blk_alloc ?_ _)); exact BK211.out) hb)
      have n2_ := Aside0.mk (blk_below (g := gb212) (o := .cells #[.int .i64 x213000_12,.int .i64 x213001_12,.int .i64 x213002_12,.string t209] 25 (0,0)) (by (with_reducible repeat (first | refine blk_drewN ?_ _ | refine blk_drew ?_ | refine blk_alloc ?_ _)); exact BK212.out) hb)
      have n3_ := Aside0.mk (below_step (by repeat (first | (with_reducible first | exact HB.out | apply below_alloc | apply pw_below_drewN | apply below_drew1 | refine below_set ?_ GE210.out | refine below_set ?_ GE211.out | refine below_set ?_ GE212.out) | exact HB.out)) hb)
      clear BK210
      clear BK211
      clear BK212
      clear HB
      have BK210 := n0_
      have BK211 := n1_
      have BK212 := n2_
      have HB := n3_
      clear n0_ n1_ n2_ n3_
      (try clear hb)
      (try clear hb2)
      (try clear hk)
      (try clear hi)
      refine hK.out _ _ ⟨(blk_cell BK210.out 0).trans rfl,(blk_cell BK210.out 1).trans rfl,(blk_cell BK210.out 2).trans rfl,(blk_cell BK210.out 3).trans rfl,(blk_cell BK211.out 0).trans rfl,(blk_cell BK211.out 1).trans rfl,(blk_cell BK211.out 2).trans rfl,(blk_cell BK211.out 3).trans rfl,(blk_cell BK212.out 0).trans rfl,(blk_cell BK212.out 1).trans rfl,(blk_cell BK212.out 2).trans rfl,(blk_cell BK212.out 3).trans rfl⟩ (fun hHeld => ?_)
      clear hK K
      refine norm_ (a' := ?_) ?_ ?_
      rotate_left
      ·show Act.put _ (some 53) _ = _
       simp only [Act.put,List.setIfInBounds_toArray,List.set_cons_zero,List.set_cons_succ,i64_w,i32_w]
       rfl
      refine one_ (i := 5) (N := some 56) #[true,true,true,true,true,true,true,true,false,false,false,false] rfl rfl (one_of HT_.out (by kernel_rfl)) (by decide) (fun K hK => ?_)
      refine goes_ Tryz.func19 (by kernel_rfl) rfl #[.agg #[.int .i64 x212000_12,.int .i64 x212001_12,.int .i64 x212002_12,.string t205],.agg #[.int .i64 x213000_12,.int .i64 x213001_12,.int .i64 x213002_12,.string t209]] (by rfl) rfl rfl (by (try simp only [List.map_toArray,List.map_cons,List.map_nil]); first | done | rfl | (simp only [List.length_drop,List.length_take]; rfl)) ?_
      with_reducible refine (ver_Cmp.calls kj12 x212000_12 x212001_12 x212002_12 t205 x213000_12 x213001_12 x213002_12 t209 t215 _ ?side1 A39.out).mono ?_
      (case side1 => exact GL.below0 hG (by repeat (first | (with_reducible first | exact HB.out | apply below_alloc | apply pw_below_drewN | apply below_drew1 | refine below_set ?_ GE210.out | refine below_set ?_ GE211.out | refine below_set ?_ GE212.out) | exact HB.out)))
      rintro e w173 ⟨rfl,hb⟩
      refine ⟨_,rfl,?_⟩
      have n0_ := Aside0.mk (blk_below (g := gb210) (o := .cells #[.int .i64 t198,.int .i64 t199,.int .i64 t200,.string t201] 25 (0,0)) (by (with_reducible repeat (first | refine blk_drewN ?_ _ | refine blk_drew ?_ | refine blk_alloc ?_ _)); exact BK210.out) hb)
      have n1_ := Aside0.mk (blk_below (g := gb211) (o := .cells #[.int .i64 x212000_12,.int .i64 x212001_12,.int .i64 x212002_12,.string t205] 25 (0,0)) (by (with_reducible repeat (first | refine blk_drewN ?_ _ | refine blk_drew ?_ | refine blk_alloc ?_ _)); exact BK211.out) hb)
      have n2_ := Aside0.mk (blk_below (g := gb212) (o := .cells #[.int .i64 x213000_12,.int .i64 x213001_12,.int .i64 x213002_12,.string t209] 25 (0,0)) (by (with_reducible repeat (first | refine blk_drewN ?_ _ | refine blk_drew ?_ | refine blk_alloc ?_ _)); exact BK212.out) hb)
      have n3_ := Aside0.mk (below_step (by repeat (first | (with_reducible first | exact HB.out | apply below_alloc | apply pw_below_drewN | apply below_drew1 | refine below_set ?_ GE210.out | refine below_set ?_ GE211.out | refine below_set ?_ GE212.out) | exact HB.out)) hb)
      clear BK210
      clear BK211
      clear BK212
      clear HB
      have BK210 := n0_
      have BK211 := n1_
      have BK212 := n2_
      have HB := n3_
      clear n0_ n1_ n2_ n3_
      (try clear hb)
      (try clear hb2)
      (try clear hk)
      (try clear hi)
      refine hK.out _ _ ⟨(blk_cell BK210.out 0).trans rfl,(blk_cell BK210.out 1).trans rfl,(blk_cell BK210.out 2).trans rfl,(blk_cell BK210.out 3).trans rfl,(blk_cell BK211.out 0).trans rfl,(blk_cell BK211.out 1).trans rfl,(blk_cell BK211.out 2).trans rfl,(blk_cell BK211.out 3).trans rfl,(blk_cell BK212.out 0).trans rfl,(blk_cell BK212.out 1).trans rfl,(blk_cell BK212.out 2).trans rfl,(blk_cell BK212.out 3).trans rfl⟩ (fun hHeld => ?_)
      clear hK K
      refine norm_ (a' := ?_) ?_ ?_
      rotate_left
      ·show Act.put _ (some 56) _ = _
       simp only [Act.put,List.setIfInBounds_toArray,List.set_cons_zero,List.set_cons_succ,i64_w,i32_w]
       rfl
      refine one_ (i := 8) (N := some 59) #[true,true,true,true,true,true,true,true,true,false,false,false] rfl rfl (one_of HT_.out (by kernel_rfl)) (by decide) (fun K hK => ?_)
      refine goes_ Tryz.func19 (by kernel_rfl) rfl #[.agg #[.int .i64 t198,.int .i64 t199,.int .i64 t200,.string t201],.agg #[.int .i64 x213000_12,.int .i64 x213001_12,.int .i64 x213002_12,.string t209]] (by rfl) rfl rfl (by (try simp only [List.map_toArray,List.map_cons,List.map_nil]); first | done | rfl | (simp only [List.length_drop,List.length_take]; rfl)) ?_
      with_reducible refine (ver_Cmp.calls kj12 t198 t199 t200 t201 x213000_12 x213001_12 x213002_12 t209 t216 _ ?side1 A40.out).mono ?_
      (case side1 => exact GL.below0 hG (by repeat (first | (with_reducible first | exact HB.out | apply below_alloc | apply pw_below_drewN | apply below_drew1 | refine below_set ?_ GE210.out | refine below_set ?_ GE211.out | refine below_set ?_ GE212.out) | exact HB.out)))
      rintro e w174 ⟨rfl,hb⟩
      refine ⟨_,rfl,?_⟩
      have n0_ := Aside0.mk (blk_below (g := gb210) (o := .cells #[.int .i64 t198,.int .i64 t199,.int .i64 t200,.string t201] 25 (0,0)) (by (with_reducible repeat (first | refine blk_drewN ?_ _ | refine blk_drew ?_ | refine blk_alloc ?_ _)); exact BK210.out) hb)
      have n1_ := Aside0.mk (blk_below (g := gb211) (o := .cells #[.int .i64 x212000_12,.int .i64 x212001_12,.int .i64 x212002_12,.string t205] 25 (0,0)) (by (with_reducible repeat (first | refine blk_drewN ?_ _ | refine blk_drew ?_ | refine blk_alloc ?_ _)); exact BK211.out) hb)
      have n2_ := Aside0.mk (blk_below (g := gb212) (o := .cells #[.int .i64 x213000_12,.int .i64 x213001_12,.int .i64 x213002_12,.string t209] 25 (0,0)) (by (with_reducible repeat (first | refine blk_drewN ?_ _ | refine blk_drew ?_ | refine blk_alloc ?_ _)); exact BK212.out) hb)
      have n3_ := Aside0.mk (below_step (by repeat (first | (with_reducible first | exact HB.out | apply below_alloc | apply pw_below_drewN | apply below_drew1 | refine below_set ?_ GE210.out | refine below_set ?_ GE211.out | refine below_set ?_ GE212.out) | exact HB.out)) hb)
      clear BK210
      clear BK211
      clear BK212
      clear HB
      have BK210 := n0_
      have BK211 := n1_
      have BK212 := n2_
      have HB := n3_
      clear n0_ n1_ n2_ n3_
      (try clear hb)
      (try clear hb2)
      (try clear hk)
      (try clear hi)
      refine hK.out _ _ ⟨(blk_cell BK210.out 0).trans rfl,(blk_cell BK210.out 1).trans rfl,(blk_cell BK210.out 2).trans rfl,(blk_cell BK210.out 3).trans rfl,(blk_cell BK211.out 0).trans rfl,(blk_cell BK211.out 1).trans rfl,(blk_cell BK211.out 2).trans rfl,(blk_cell BK211.out 3).trans rfl,(blk_cell BK212.out 0).trans rfl,(blk_cell BK212.out 1).trans rfl,(blk_cell BK212.out 2).trans rfl,(blk_cell BK212.out 3).trans rfl⟩ (fun hHeld => ?_)
      clear hK K
      refine norm_ (a' := ?_) ?_ ?_
      rotate_left
      ·show Act.put _ (some 59) _ = _
       simp only [Act.put,List.setIfInBounds_toArray,List.set_cons_zero,List.set_cons_succ,i64_w,i32_w]
       rfl
      refine pure_ (i := 9) (N := some 16) (v := ?_) (a' := ?_) #[true,true,true,true,true,true,true,true,true,true,false,false] rfl rfl (any_of HT_.out (by kernel_rfl)) (fun _ _ _ h => h) (Or.inl ⟨by rfl,?_⟩) ?_ ?_
      rotate_left
      ·intro w'
       go_simp
       with_reducible rfl
      rotate_left
      ·simp only [Act.put,List.setIfInBounds_toArray,List.set_cons_zero,List.set_cons_succ,i64_w,i32_w]
       rfl
      refine pure_ (i := 10) (N := some 17) (v := ?_) (a' := ?_) #[true,true,true,true,true,true,true,true,true,true,true,false] rfl rfl (any_of HT_.out (by kernel_rfl)) (fun _ _ _ h => h) (Or.inl ⟨by rfl,?_⟩) ?_ ?_
      rotate_left
      ·intro w'
       go_simp
       with_reducible rfl
      rotate_left
      ·simp only [Act.put,List.setIfInBounds_toArray,List.set_cons_zero,List.set_cons_succ,i64_w,i32_w]
       rfl
      refine pure_ (i := 11) (N := some 18) (v := ?_) (a' := ?_) #[true,true,true,true,true,true,true,true,true,true,true,true] rfl rfl (any_of HT_.out (by kernel_rfl)) (fun _ _ _ h => h) (Or.inl ⟨by rfl,?_⟩) ?_ ?_
      rotate_left
      ·intro w'
       go_simp
       with_reducible rfl
      rotate_left
      ·simp only [Act.put,List.setIfInBounds_toArray,List.set_cons_zero,List.set_cons_succ,i64_w,i32_w]
       rfl
      refine done_ (done_of HT_.out (by kernel_rfl)) ?_
      have hnb175 := NB210_211.out
      have hnc175 := NB211_210.out
      have hnb176 := NB210_212.out
      have hnc176 := NB212_210.out
      have hcz177_0 : w174.cell? ⟨gb210,0,none⟩ = some (.int .i64 t198) := (blk_cell BK210.out 0).trans rfl
      have hcz177_1 : w174.cell? ⟨gb210,1,none⟩ = some (.int .i64 t199) := (blk_cell BK210.out 1).trans rfl
      have hcz177_2 : w174.cell? ⟨gb210,2,none⟩ = some (.int .i64 t200) := (blk_cell BK210.out 2).trans rfl
      have hcz177_3 : w174.cell? ⟨gb210,3,none⟩ = some (.string t201) := (blk_cell BK210.out 3).trans rfl
      have hfz177_0 := blk_frozen BK210.out 0
      have hfz177_1 := blk_frozen BK210.out 1
      have hfz177_2 := blk_frozen BK210.out 2
      have hfz177_3 := blk_frozen BK210.out 3
      have hnb178 := NB211_212.out
      have hnc178 := NB212_211.out
      have hcz179_0 : w174.cell? ⟨gb211,0,none⟩ = some (.int .i64 x212000_12) := (blk_cell BK211.out 0).trans rfl
      have hcz179_1 : w174.cell? ⟨gb211,1,none⟩ = some (.int .i64 x212001_12) := (blk_cell BK211.out 1).trans rfl
      have hcz179_2 : w174.cell? ⟨gb211,2,none⟩ = some (.int .i64 x212002_12) := (blk_cell BK211.out 2).trans rfl
      have hcz179_3 : w174.cell? ⟨gb211,3,none⟩ = some (.string t205) := (blk_cell BK211.out 3).trans rfl
      have hfz179_0 := blk_frozen BK211.out 0
      have hfz179_1 := blk_frozen BK211.out 1
      have hfz179_2 := blk_frozen BK211.out 2
      have hfz179_3 := blk_frozen BK211.out 3
      try go_wp2_with (first | ((with_reducible refine gate_callee (f := 20) rfl ?_); refine goesL_ (some 63) rfl rfl Tryz.func20 (by kernel_rfl) rfl #[.agg #[.int .i64 t198,.int .i64 t199,.int .i64 t200,.string t201],.agg #[.int .i64 x212000_12,.int .i64 x212001_12,.int .i64 x212002_12,.string t205]] rfl (by (try simp only [List.map_toArray,List.map_cons,List.map_nil]); first | done | rfl | (simp only [List.length_drop,List.length_take]; rfl)) ?_; (with_reducible refine (transhumanceref2_Cmp.calls kj12 t198 t199 t200 t201 x212000_12 x212001_12 x212002_12 t205 t217 _ A41.out).mono ?_); rintro e w180 ⟨rfl,hb⟩; refine ⟨_,rfl,?_⟩; have n0_ := Aside0.mk (blk_below (g := gb210) (o := .cells #[.int .i64 t198,.int .i64 t199,.int .i64 t200,.string t201] 25 (0,0)) (by (with_reducible repeat (first | refine blk_drewN ?_ _ | refine blk_drew ?_ | refine blk_alloc ?_ _)); exact BK210.out) hb); have n1_ := Aside0.mk (blk_below (g := gb211) (o := .cells #[.int .i64 x212000_12,.int .i64 x212001_12,.int .i64 x212002_12,.string t205] 25 (0,0)) (by (with_reducible repeat (first | refine blk_drewN ?_ _ | refine blk_drew ?_ | refine blk_alloc ?_ _)); exact BK211.out) hb); have n2_ := Aside0.mk (blk_below (g := gb212) (o := .cells #[.int .i64 x213000_12,.int .i64 x213001_12,.int .i64 x213002_12,.string t209] 25 (0,0)) (by (with_reducible repeat (first | refine blk_drewN ?_ _ | refine blk_drew ?_ | refine blk_alloc ?_ _)); exact BK212.out) hb); have n3_ := Aside0.mk (below_step (by repeat (first | (with_reducible first | exact HB.out | apply below_alloc | apply pw_below_drewN | apply below_drew1 | refine below_set ?_ GE210.out | refine below_set ?_ GE211.out | refine below_set ?_ GE212.out) | exact HB.out)) hb); clear BK210; clear BK211; clear BK212; clear HB; have BK210 := n0_; have BK211 := n1_; have BK212 := n2_; have HB := n3_; clear n0_ n1_ n2_ n3_; (try clear hb); (try clear hb2); (try clear hk); (try clear hi); have hcz181_0 : w180.cell? ⟨gb211,0,none⟩ = some (.int .i64 x212000_12) := (blk_cell BK211.out 0).trans rfl; have hcz181_1 : w180.cell? ⟨gb211,1,none⟩ = some (.int .i64 x212001_12) := (blk_cell BK211.out 1).trans rfl; have hcz181_2 : w180.cell? ⟨gb211,2,none⟩ = some (.int .i64 x212002_12) := (blk_cell BK211.out 2).trans rfl; have hcz181_3 : w180.cell? ⟨gb211,3,none⟩ = some (.string t205) := (blk_cell BK211.out 3).trans rfl; have hfz181_0 := blk_frozen BK211.out 0; have hfz181_1 := blk_frozen BK211.out 1; have hfz181_2 := blk_frozen BK211.out 2; have hfz181_3 := blk_frozen BK211.out 3; have hcz182_0 : w180.cell? ⟨gb212,0,none⟩ = some (.int .i64 x213000_12) := (blk_cell BK212.out 0).trans rfl; have hcz182_1 : w180.cell? ⟨gb212,1,none⟩ = some (.int .i64 x213001_12) := (blk_cell BK212.out 1).trans rfl; have hcz182_2 : w180.cell? ⟨gb212,2,none⟩ = some (.int .i64 x213002_12) := (blk_cell BK212.out 2).trans rfl; have hcz182_3 : w180.cell? ⟨gb212,3,none⟩ = some (.string t209) := (blk_cell BK212.out 3).trans rfl; have hfz182_0 := blk_frozen BK212.out 0; have hfz182_1 := blk_frozen BK212.out 1; have hfz182_2 := blk_frozen BK212.out 2; have hfz182_3 := blk_frozen BK212.out 3) | (go_at_call 20; (with_reducible refine (transhumanceref2_Cmp.calls kj12 x212000_12 x212001_12 x212002_12 t205 x213000_12 x213001_12 x213002_12 t209 t218 _ A43.out).mono ?_); rintro e w183 ⟨rfl,hb⟩; have n0_ := Aside0.mk (blk_below (g := gb210) (o := .cells #[.int .i64 t198,.int .i64 t199,.int .i64 t200,.string t201] 25 (0,0)) (by (with_reducible repeat (first | refine blk_drewN ?_ _ | refine blk_drew ?_ | refine blk_alloc ?_ _)); exact BK210.out) hb); have n1_ := Aside0.mk (blk_below (g := gb211) (o := .cells #[.int .i64 x212000_12,.int .i64 x212001_12,.int .i64 x212002_12,.string t205] 25 (0,0)) (by (with_reducible repeat (first | refine blk_drewN ?_ _ | refine blk_drew ?_ | refine blk_alloc ?_ _)); exact BK211.out) hb); have n2_ := Aside0.mk (blk_below (g := gb212) (o := .cells #[.int .i64 x213000_12,.int .i64 x213001_12,.int .i64 x213002_12,.string t209] 25 (0,0)) (by (with_reducible repeat (first | refine blk_drewN ?_ _ | refine blk_drew ?_ | refine blk_alloc ?_ _)); exact BK212.out) hb); have n3_ := Aside0.mk (below_step (by repeat (first | (with_reducible first | exact HB.out | apply below_alloc | apply pw_below_drewN | apply below_drew1 | refine below_set ?_ GE210.out | refine below_set ?_ GE211.out | refine below_set ?_ GE212.out) | exact HB.out)) hb); clear BK210; clear BK211; clear BK212; clear HB; have BK210 := n0_; have BK211 := n1_; have BK212 := n2_; have HB := n3_; clear n0_ n1_ n2_ n3_; (try clear hb); (try clear hb2); (try clear hk); (try clear hi)))
      go_ret
      exact ⟨by first | rfl | (simp [errW_none,errW_some] <;> rfl) | (simp [*,errW_none,errW_some] <;> rfl),by repeat (first | (with_reducible first | exact HB.out | apply below_alloc | apply pw_below_drewN | apply below_drew1 | refine below_set ?_ GE210.out | refine below_set ?_ GE211.out | refine below_set ?_ GE212.out) | exact HB.out)⟩
    ·rw [if_neg c42] at H
     have c42b0 : (t214 == t217) = false := beq_eq_false_iff_ne.mpr c42
     have c42b1 : (t214 != t217) = true := bne_iff_ne.mpr c42
     obtain rfl := Option.some.inj H
     try go_wp2
     have n0_ := Aside0.mk (blk_drew BK210.out)
     have n1_ := Aside0.mk (blk_drew BK211.out)
     have n2_ := Aside0.mk (blk_drew BK212.out)
     have n3_ := Aside0.mk (below_drew1 HB.out)
     clear BK210
     clear BK211
     clear BK212
     clear HB
     have BK210 := n0_
     have BK211 := n1_
     have BK212 := n2_
     have HB := n3_
     clear n0_ n1_ n2_ n3_
     refine start_ (n := 12) (S := fun w' => w'.cell? ⟨gb210,0,none⟩ = some (.int .i64 t198) ∧ w'.cell? ⟨gb210,1,none⟩ = some (.int .i64 t199) ∧ w'.cell? ⟨gb210,2,none⟩ = some (.int .i64 t200) ∧ w'.cell? ⟨gb210,3,none⟩ = some (.string t201) ∧ w'.cell? ⟨gb211,0,none⟩ = some (.int .i64 x212000_12) ∧ w'.cell? ⟨gb211,1,none⟩ = some (.int .i64 x212001_12) ∧ w'.cell? ⟨gb211,2,none⟩ = some (.int .i64 x212002_12) ∧ w'.cell? ⟨gb211,3,none⟩ = some (.string t205) ∧ w'.cell? ⟨gb212,0,none⟩ = some (.int .i64 x213000_12) ∧ w'.cell? ⟨gb212,1,none⟩ = some (.int .i64 x213001_12) ∧ w'.cell? ⟨gb212,2,none⟩ = some (.int .i64 x213002_12) ∧ w'.cell? ⟨gb212,3,none⟩ = some (.string t209)) (ds := []) #[false,false,false,false,false,false,false,false,false,false,false,false] (by kernel_rfl) rfl rfl ⟨(blk_cell BK210.out 0).trans rfl,(blk_cell BK210.out 1).trans rfl,(blk_cell BK210.out 2).trans rfl,(blk_cell BK210.out 3).trans rfl,(blk_cell BK211.out 0).trans rfl,(blk_cell BK211.out 1).trans rfl,(blk_cell BK211.out 2).trans rfl,(blk_cell BK211.out 3).trans rfl,(blk_cell BK212.out 0).trans rfl,(blk_cell BK212.out 1).trans rfl,(blk_cell BK212.out 2).trans rfl,(blk_cell BK212.out 3).trans rfl⟩ (fun hHeld => ?_); refine with_tabW transhumancelaw2_VerOrder.tab7 transhumancelaw2_VerOrder.bits7 (fun HT_ HW_ => ?_)
     generalize wc.drew = w184 at BK210 BK211 BK212 HB hHeld ⊢
     refine take_ (i := 0) (N := some 51) (v := ?_) (a' := ?_) #[true,false,false,false,false,false,false,false,false,false,false,false] rfl rfl (take_ofW HT_.out HW_.out (by kernel_rfl)) (fun _ _ _ h => h) (Or.inl ⟨by rfl,?_⟩) hHeld ?_ ?_
     rotate_left
     ·rintro w' ⟨s0,s1,s2,s3,s4,s5,s6,s7,s8,s9,s10,s11⟩
      go_simp
      with_reducible rfl
     rotate_left
     ·simp only [Act.put,List.setIfInBounds_toArray,List.set_cons_zero,List.set_cons_succ,i64_w,i32_w]
      rfl
     refine take_ (i := 1) (N := some 52) (v := ?_) (a' := ?_) #[true,true,false,false,false,false,false,false,false,false,false,false] rfl rfl (take_ofW HT_.out HW_.out (by kernel_rfl)) (fun _ _ _ h => h) (Or.inl ⟨by rfl,?_⟩) hHeld ?_ ?_
     rotate_left
     ·rintro w' ⟨s0,s1,s2,s3,s4,s5,s6,s7,s8,s9,s10,s11⟩
      go_simp
      with_reducible rfl
     rotate_left
     ·simp only [Act.put,List.setIfInBounds_toArray,List.set_cons_zero,List.set_cons_succ,i64_w,i32_w]
      rfl
     refine take_ (i := 3) (N := some 54) (v := ?_) (a' := ?_) #[true,true,false,true,false,false,false,false,false,false,false,false] rfl rfl (take_ofW HT_.out HW_.out (by kernel_rfl)) (fun _ _ _ h => h) (Or.inl ⟨by rfl,?_⟩) hHeld ?_ ?_
     rotate_left
     ·rintro w' ⟨s0,s1,s2,s3,s4,s5,s6,s7,s8,s9,s10,s11⟩
      go_simp
      with_reducible rfl
     rotate_left
     ·simp only [Act.put,List.setIfInBounds_toArray,List.set_cons_zero,List.set_cons_succ,i64_w,i32_w]
      rfl
     refine take_ (i := 4) (N := some 55) (v := ?_) (a' := ?_) #[true,true,false,true,true,false,false,false,false,false,false,false] rfl rfl (take_ofW HT_.out HW_.out (by kernel_rfl)) (fun _ _ _ h => h) (Or.inl ⟨by rfl,?_⟩) hHeld ?_ ?_
     rotate_left
     ·rintro w' ⟨s0,s1,s2,s3,s4,s5,s6,s7,s8,s9,s10,s11⟩
      go_simp
      with_reducible rfl
     rotate_left
     ·simp only [Act.put,List.setIfInBounds_toArray,List.set_cons_zero,List.set_cons_succ,i64_w,i32_w]
      rfl
     refine take_ (i := 6) (N := some 57) (v := ?_) (a' := ?_) #[true,true,false,true,true,false,true,false,false,false,false,false] rfl rfl (take_ofW HT_.out HW_.out (by kernel_rfl)) (fun _ _ _ h => h) (Or.inl ⟨by rfl,?_⟩) hHeld ?_ ?_
     rotate_left
     ·rintro w' ⟨s0,s1,s2,s3,s4,s5,s6,s7,s8,s9,s10,s11⟩
      go_simp
      with_reducible rfl
     rotate_left
     ·simp only [Act.put,List.setIfInBounds_toArray,List.set_cons_zero,List.set_cons_succ,i64_w,i32_w]
      rfl
     refine take_ (i := 7) (N := some 58) (v := ?_) (a' := ?_) #[true,true,false,true,true,false,true,true,false,false,false,false] rfl rfl (take_ofW HT_.out HW_.out (by kernel_rfl)) (fun _ _ _ h => h) (Or.inl ⟨by rfl,?_⟩) hHeld ?_ ?_
     rotate_left
     ·rintro w' ⟨s0,s1,s2,s3,s4,s5,s6,s7,s8,s9,s10,s11⟩
      go_simp
      with_reducible rfl
     rotate_left
     ·simp only [Act.put,List.setIfInBounds_toArray,List.set_cons_zero,List.set_cons_succ,i64_w,i32_w]
      rfl
     refine one_ (i := 2) (N := some 53) #[true,true,true,true,true,false,true,true,false,false,false,false] rfl rfl (one_of HT_.out (by kernel_rfl)) (by decide) (fun K hK => ?_)
     refine goes_ Tryz.func19 (by kernel_rfl) rfl #[.agg #[.int .i64 t198,.int .i64 t199,.int .i64 t200,.string t201],.agg #[.int .i64 x212000_12,.int .i64 x212001_12,.int .i64 x212002_12,.string t205]] (by rfl) rfl rfl (by (try simp only [List.map_toArray,List.map_cons,List.map_nil]); first | done | rfl | (simp only [List.length_drop,List.length_take]; rfl)) ?_
     with_reducible refine (ver_Cmp.calls kj12 t198 t199 t200 t201 x212000_12 x212001_12 x212002_12 t205 t214 _ ?side1 A38.out).mono ?_
     (case side1 => exact GL.below0 hG (by repeat (first | (with_reducible first | exact HB.out | apply below_alloc | apply pw_below_drewN | apply below_drew1 | refine below_set ?_ GE210.out | refine below_set ?_ GE211.out | refine below_set ?_ GE212.out) | exact HB.out)))
     rintro e w185 ⟨rfl,hb⟩
     refine ⟨_,rfl,?_⟩
     have n0_ := Aside0.mk (blk_below (g := gb210) (o := .cells #[.int .i64 t198,.int .i64 t199,.int .i64 t200,.string t201] 25 (0,0)) (by (with_reducible repeat (first | refine blk_drewN ?_ _ | refine blk_drew ?_ | refine blk_alloc ?_ _)); exact BK210.out) hb)
     have n1_ := Aside0.mk (blk_below (g := gb211) (o := .cells #[.int .i64 x212000_12,.int .i64 x212001_12,.int .i64 x212002_12,.string t205] 25 (0,0)) (by (with_reducible repeat (first | refine blk_drewN ?_ _ | refine blk_drew ?_ | refine blk_alloc ?_ _)); exact BK211.out) hb)
     have n2_ := Aside0.mk (blk_below (g := gb212) (o := .cells #[.int .i64 x213000_12,.int .i64 x213001_12,.int .i64 x213002_12,.string t209] 25 (0,0)) (by (with_reducible repeat (first | refine blk_drewN ?_ _ | refine blk_drew ?_ | refine blk_alloc ?_ _)); exact BK212.out) hb)
     have n3_ := Aside0.mk (below_step (by repeat (first | (with_reducible first | exact HB.out | apply below_alloc | apply pw_below_drewN | apply below_drew1 | refine below_set ?_ GE210.out | refine below_set ?_ GE211.out | refine below_set ?_ GE212.out) | exact HB.out)) hb)
     clear BK210
     clear BK211
     clear BK212
     clear HB
     have BK210 := n0_
     have BK211 := n1_
     have BK212 := n2_
     have HB := n3_
     clear n0_ n1_ n2_ n3_
     (try clear hb)
     (try clear hb2)
     (try clear hk)
     (try clear hi)
     refine hK.out _ _ ⟨(blk_cell BK210.out 0).trans rfl,(blk_cell BK210.out 1).trans rfl,(blk_cell BK210.out 2).trans rfl,(blk_cell BK210.out 3).trans rfl,(blk_cell BK211.out 0).trans rfl,(blk_cell BK211.out 1).trans rfl,(blk_cell BK211.out 2).trans rfl,(blk_cell BK211.out 3).trans rfl,(blk_cell BK212.out 0).trans rfl,(blk_cell BK212.out 1).trans rfl,(blk_cell BK212.out 2).trans rfl,(blk_cell BK212.out 3).trans rfl⟩ (fun hHeld => ?_)
     clear hK K
     refine norm_ (a' := ?_) ?_ ?_
     rotate_left
     ·show Act.put _ (some 53) _ = _
      simp only [Act.put,List.setIfInBounds_toArray,List.set_cons_zero,List.set_cons_succ,i64_w,i32_w]
      rfl
     refine one_ (i := 5) (N := some 56) #[true,true,true,true,true,true,true,true,false,false,false,false] rfl rfl (one_of HT_.out (by kernel_rfl)) (by decide) (fun K hK => ?_)
     refine goes_ Tryz.func19 (by kernel_rfl) rfl #[.agg #[.int .i64 x212000_12,.int .i64 x212001_12,.int .i64 x212002_12,.string t205],.agg #[.int .i64 x213000_12,.int .i64 x213001_12,.int .i64 x213002_12,.string t209]] (by rfl) rfl rfl (by (try simp only [List.map_toArray,List.map_cons,List.map_nil]); first | done | rfl | (simp only [List.length_drop,List.length_take]; rfl)) ?_
     with_reducible refine (ver_Cmp.calls kj12 x212000_12 x212001_12 x212002_12 t205 x213000_12 x213001_12 x213002_12 t209 t215 _ ?side1 A39.out).mono ?_
     (case side1 => exact GL.below0 hG (by repeat (first | (with_reducible first | exact HB.out | apply below_alloc | apply pw_below_drewN | apply below_drew1 | refine below_set ?_ GE210.out | refine below_set ?_ GE211.out | refine below_set ?_ GE212.out) | exact HB.out)))
     rintro e w186 ⟨rfl,hb⟩
     refine ⟨_,rfl,?_⟩
     have n0_ := Aside0.mk (blk_below (g := gb210) (o := .cells #[.int .i64 t198,.int .i64 t199,.int .i64 t200,.string t201] 25 (0,0)) (by (with_reducible repeat (first | refine blk_drewN ?_ _ | refine blk_drew ?_ | refine blk_alloc ?_ _)); exact BK210.out) hb)
     have n1_ := Aside0.mk (blk_below (g := gb211) (o := .cells #[.int .i64 x212000_12,.int .i64 x212001_12,.int .i64 x212002_12,.string t205] 25 (0,0)) (by (with_reducible repeat (first | refine blk_drewN ?_ _ | refine blk_drew ?_ | refine blk_alloc ?_ _)); exact BK211.out) hb)
     have n2_ := Aside0.mk (blk_below (g := gb212) (o := .cells #[.int .i64 x213000_12,.int .i64 x213001_12,.int .i64 x213002_12,.string t209] 25 (0,0)) (by (with_reducible repeat (first | refine blk_drewN ?_ _ | refine blk_drew ?_ | refine blk_alloc ?_ _)); exact BK212.out) hb)
     have n3_ := Aside0.mk (below_step (by repeat (first | (with_reducible first | exact HB.out | apply below_alloc | apply pw_below_drewN | apply below_drew1 | refine below_set ?_ GE210.out | refine below_set ?_ GE211.out | refine below_set ?_ GE212.out) | exact HB.out)) hb)
     clear BK210
     clear BK211
     clear BK212
     clear HB
     have BK210 := n0_
     have BK211 := n1_
     have BK212 := n2_
     have HB := n3_
     clear n0_ n1_ n2_ n3_
     (try clear hb)
     (try clear hb2)
     (try clear hk)
     (try clear hi)
     refine hK.out _ _ ⟨(blk_cell BK210.out 0).trans rfl,(blk_cell BK210.out 1).trans rfl,(blk_cell BK210.out 2).trans rfl,(blk_cell BK210.out 3).trans rfl,(blk_cell BK211.out 0).trans rfl,(blk_cell BK211.out 1).trans rfl,(blk_cell BK211.out 2).trans rfl,(blk_cell BK211.out 3).trans rfl,(blk_cell BK212.out 0).trans rfl,(blk_cell BK212.out 1).trans rfl,(blk_cell BK212.out 2).trans rfl,(blk_cell BK212.out 3).trans rfl⟩ (fun hHeld => ?_)
     clear hK K
     refine norm_ (a' := ?_) ?_ ?_
     rotate_left
     ·show Act.put _ (some 56) _ = _
      simp only [Act.put,List.setIfInBounds_toArray,List.set_cons_zero,List.set_cons_succ,i64_w,i32_w]
      rfl
     refine one_ (i := 8) (N := some 59) #[true,true,true,true,true,true,true,true,true,false,false,false] rfl rfl (one_of HT_.out (by kernel_rfl)) (by decide) (fun K hK => ?_)
     refine goes_ Tryz.func19 (by kernel_rfl) rfl #[.agg #[.int .i64 t198,.int .i64 t199,.int .i64 t200,.string t201],.agg #[.int .i64 x213000_12,.int .i64 x213001_12,.int .i64 x213002_12,.string t209]] (by rfl) rfl rfl (by (try simp only [List.map_toArray,List.map_cons,List.map_nil]); first | done | rfl | (simp only [List.length_drop,List.length_take]; rfl)) ?_
     with_reducible refine (ver_Cmp.calls kj12 t198 t199 t200 t201 x213000_12 x213001_12 x213002_12 t209 t216 _ ?side1 A40.out).mono ?_
     (case side1 => exact GL.below0 hG (by repeat (first | (with_reducible first | exact HB.out | apply below_alloc | apply pw_below_drewN | apply below_drew1 | refine below_set ?_ GE210.out | refine below_set ?_ GE211.out | refine below_set ?_ GE212.out) | exact HB.out)))
     rintro e w187 ⟨rfl,hb⟩
     refine ⟨_,rfl,?_⟩
     have n0_ := Aside0.mk (blk_below (g := gb210) (o := .cells #[.int .i64 t198,.int .i64 t199,.int .i64 t200,.string t201] 25 (0,0)) (by (with_reducible repeat (first | refine blk_drewN ?_ _ | refine blk_drew ?_ | refine blk_alloc ?_ _)); exact BK210.out) hb)
     have n1_ := Aside0.mk (blk_below (g := gb211) (o := .cells #[.int .i64 x212000_12,.int .i64 x212001_12,.int .i64 x212002_12,.string t205] 25 (0,0)) (by (with_reducible repeat (first | refine blk_drewN ?_ _ | refine blk_drew ?_ | refine blk_alloc ?_ _)); exact BK211.out) hb)
     have n2_ := Aside0.mk (blk_below (g := gb212) (o := .cells #[.int .i64 x213000_12,.int .i64 x213001_12,.int .i64 x213002_12,.string t209] 25 (0,0)) (by (with_reducible repeat (first | refine blk_drewN ?_ _ | refine blk_drew ?_ | refine blk_alloc ?_ _)); exact BK212.out) hb)
     have n3_ := Aside0.mk (below_step (by repeat (first | (with_reducible first | exact HB.out | apply below_alloc | apply pw_below_drewN | apply below_drew1 | refine below_set ?_ GE210.out | refine below_set ?_ GE211.out | refine below_set ?_ GE212.out) | exact HB.out)) hb)
     clear BK210
     clear BK211
     clear BK212
     clear HB
     have BK210 := n0_
     have BK211 := n1_
     have BK212 := n2_
     have HB := n3_
     clear n0_ n1_ n2_ n3_
     (try clear hb)
     (try clear hb2)
     (try clear hk)
     (try clear hi)
     refine hK.out _ _ ⟨(blk_cell BK210.out 0).trans rfl,(blk_cell BK210.out 1).trans rfl,(blk_cell BK210.out 2).trans rfl,(blk_cell BK210.out 3).trans rfl,(blk_cell BK211.out 0).trans rfl,(blk_cell BK211.out 1).trans rfl,(blk_cell BK211.out 2).trans rfl,(blk_cell BK211.out 3).trans rfl,(blk_cell BK212.out 0).trans rfl,(blk_cell BK212.out 1).trans rfl,(blk_cell BK212.out 2).trans rfl,(blk_cell BK212.out 3).trans rfl⟩ (fun hHeld => ?_)
     clear hK K
     refine norm_ (a' := ?_) ?_ ?_
     rotate_left
     ·show Act.put _ (some 59) _ = _
      simp only [Act.put,List.setIfInBounds_toArray,List.set_cons_zero,List.set_cons_succ,i64_w,i32_w]
      rfl
     refine pure_ (i := 9) (N := some 16) (v := ?_) (a' := ?_) #[true,true,true,true,true,true,true,true,true,true,false,false] rfl rfl (any_of HT_.out (by kernel_rfl)) (fun _ _ _ h => h) (Or.inl ⟨by rfl,?_⟩) ?_ ?_
     rotate_left
     ·intro w'
      go_simp
      with_reducible rfl
     rotate_left
     ·simp only [Act.put,List.setIfInBounds_toArray,List.set_cons_zero,List.set_cons_succ,i64_w,i32_w]
      rfl
     refine pure_ (i := 10) (N := some 17) (v := ?_) (a' := ?_) #[true,true,true,true,true,true,true,true,true,true,true,false] rfl rfl (any_of HT_.out (by kernel_rfl)) (fun _ _ _ h => h) (Or.inl ⟨by rfl,?_⟩) ?_ ?_
     rotate_left
     ·intro w'
      go_simp
      with_reducible rfl
     rotate_left
     ·simp only [Act.put,List.setIfInBounds_toArray,List.set_cons_zero,List.set_cons_succ,i64_w,i32_w]
      rfl
     refine pure_ (i := 11) (N := some 18) (v := ?_) (a' := ?_) #[true,true,true,true,true,true,true,true,true,true,true,true] rfl rfl (any_of HT_.out (by kernel_rfl)) (fun _ _ _ h => h) (Or.inl ⟨by rfl,?_⟩) ?_ ?_
     rotate_left
     ·intro w'
      go_simp
      with_reducible rfl
     rotate_left
     ·simp only [Act.put,List.setIfInBounds_toArray,List.set_cons_zero,List.set_cons_succ,i64_w,i32_w]
      rfl
     refine done_ (done_of HT_.out (by kernel_rfl)) ?_
     have hnb188 := NB210_211.out
     have hnc188 := NB211_210.out
     have hnb189 := NB210_212.out
     have hnc189 := NB212_210.out
     have hcz190_0 : w187.cell? ⟨gb210,0,none⟩ = some (.int .i64 t198) := (blk_cell BK210.out 0).trans rfl
     have hcz190_1 : w187.cell? ⟨gb210,1,none⟩ = some (.int .i64 t199) := (blk_cell BK210.out 1).trans rfl
     have hcz190_2 : w187.cell? ⟨gb210,2,none⟩ = some (.int .i64 t200) := (blk_cell BK210.out 2).trans rfl
     have hcz190_3 : w187.cell? ⟨gb210,3,none⟩ = some (.string t201) := (blk_cell BK210.out 3).trans rfl
     have hfz190_0 := blk_frozen BK210.out 0
     have hfz190_1 := blk_frozen BK210.out 1
     have hfz190_2 := blk_frozen BK210.out 2
     have hfz190_3 := blk_frozen BK210.out 3
     have hnb191 := NB211_212.out
     have hnc191 := NB212_211.out
     have hcz192_0 : w187.cell? ⟨gb211,0,none⟩ = some (.int .i64 x212000_12) := (blk_cell BK211.out 0).trans rfl
     have hcz192_1 : w187.cell? ⟨gb211,1,none⟩ = some (.int .i64 x212001_12) := (blk_cell BK211.out 1).trans rfl
     have hcz192_2 : w187.cell? ⟨gb211,2,none⟩ = some (.int .i64 x212002_12) := (blk_cell BK211.out 2).trans rfl
     have hcz192_3 : w187.cell? ⟨gb211,3,none⟩ = some (.string t205) := (blk_cell BK211.out 3).trans rfl
     have hfz192_0 := blk_frozen BK211.out 0
     have hfz192_1 := blk_frozen BK211.out 1
     have hfz192_2 := blk_frozen BK211.out 2
     have hfz192_3 := blk_frozen BK211.out 3
     try go_wp2_with (first | ((with_reducible refine gate_callee (f := 20) rfl ?_); refine goesL_ (some 63) rfl rfl Tryz.func20 (by kernel_rfl) rfl #[.agg #[.int .i64 t198,.int .i64 t199,.int .i64 t200,.string t201],.agg #[.int .i64 x212000_12,.int .i64 x212001_12,.int .i64 x212002_12,.string t205]] rfl (by (try simp only [List.map_toArray,List.map_cons,List.map_nil]); first | done | rfl | (simp only [List.length_drop,List.length_take]; rfl)) ?_; (with_reducible refine (transhumanceref2_Cmp.calls kj12 t198 t199 t200 t201 x212000_12 x212001_12 x212002_12 t205 t217 _ A41.out).mono ?_); rintro e w193 ⟨rfl,hb⟩; refine ⟨_,rfl,?_⟩; have n0_ := Aside0.mk (blk_below (g := gb210) (o := .cells #[.int .i64 t198,.int .i64 t199,.int .i64 t200,.string t201] 25 (0,0)) (by (with_reducible repeat (first | refine blk_drewN ?_ _ | refine blk_drew ?_ | refine blk_alloc ?_ _)); exact BK210.out) hb); have n1_ := Aside0.mk (blk_below (g := gb211) (o := .cells #[.int .i64 x212000_12,.int .i64 x212001_12,.int .i64 x212002_12,.string t205] 25 (0,0)) (by (with_reducible repeat (first | refine blk_drewN ?_ _ | refine blk_drew ?_ | refine blk_alloc ?_ _)); exact BK211.out) hb); have n2_ := Aside0.mk (blk_below (g := gb212) (o := .cells #[.int .i64 x213000_12,.int .i64 x213001_12,.int .i64 x213002_12,.string t209] 25 (0,0)) (by (with_reducible repeat (first | refine blk_drewN ?_ _ | refine blk_drew ?_ | refine blk_alloc ?_ _)); exact BK212.out) hb); have n3_ := Aside0.mk (below_step (by repeat (first | (with_reducible first | exact HB.out | apply below_alloc | apply pw_below_drewN | apply below_drew1 | refine below_set ?_ GE210.out | refine below_set ?_ GE211.out | refine below_set ?_ GE212.out) | exact HB.out)) hb); clear BK210; clear BK211; clear BK212; clear HB; have BK210 := n0_; have BK211 := n1_; have BK212 := n2_; have HB := n3_; clear n0_ n1_ n2_ n3_; (try clear hb); (try clear hb2); (try clear hk); (try clear hi)))
     go_ret
     exact ⟨by first | rfl | (simp [errW_none,errW_some] <;> rfl) | (simp [*,errW_none,errW_some] <;> rfl),by repeat (first | (with_reducible first | exact HB.out | apply below_alloc | apply pw_below_drewN | apply below_drew1 | refine below_set ?_ GE210.out | refine below_set ?_ GE211.out | refine below_set ?_ GE212.out) | exact HB.out)⟩
 ·replace c8 := Bool.eq_false_iff.mpr c8
  subst c8
  have H1 : (some false) = some r := by rw [if_neg (show ¬ (false = true) by decide)] at H; exact H
  clear H
  have H := H1
  clear H1
  obtain rfl := Option.some.inj H
  go_enter Tryz.func5,Tryz.ntmps5
  go_wp2_with (first | ((with_reducible refine gate_callee (f := 10) rfl ?_); refine goesL_ (some 19) rfl rfl Tryz.func10 (by kernel_rfl) rfl #[] rfl (by (try simp only [List.map_toArray,List.map_cons,List.map_nil]); first | done | rfl | (simp only [List.length_drop,List.length_take]; rfl)) ?_; (with_reducible refine (transhumancelaw2_known.calls  false _ ?side1 A7.out).mono ?_); (case side1 => exact GL.below0 hG (by repeat (first | (with_reducible first | exact HB.out | apply below_alloc | apply pw_below_drewN | apply below_drew1) | exact HB.out))); rintro e w194 ⟨rfl,hb⟩; refine ⟨_,rfl,?_⟩; have n0_ := Aside0.mk (below_step (by repeat (first | (with_reducible first | exact HB.out | apply below_alloc | apply pw_below_drewN | apply below_drew1) | exact HB.out)) hb); clear HB; have HB := n0_; clear n0_; (try clear hb); (try clear hb2); (try clear hk); (try clear hi)))
  go_ret
  exact ⟨by first | rfl | (simp [errW_none,errW_some] <;> rfl) | (simp [*,errW_none,errW_some] <;> rfl),by repeat (first | (with_reducible first | exact HB.out | apply below_alloc | apply pw_below_drewN | apply below_drew1) | exact HB.out)⟩
def transhumancelaw2_VerOrder.Pure : Prop := ∀ (a0 : Int) (a1 : Int) (a2 : Int) (a3 : Int) (a4 : Int) (a5 : Int),(Lit.int .i64 a0).wf = true → (Lit.int .i64 a1).wf = true → (Lit.int .i64 a2).wf = true → (Lit.int .i64 a3).wf = true → (Lit.int .i64 a4).wf = true → (Lit.int .i64 a5).wf = true → ∃ k,transhumancelaw2_VerOrder.f k a0 a1 a2 a3 a4 a5 = some true
theorem transhumancelaw2_VerOrder.walk (P : transhumancelaw2_VerOrder.Pure) (a0 : Int) (a1 : Int) (a2 : Int) (a3 : Int) (a4 : Int) (a5 : Int) (w : World) (w0 : (Lit.int .i64 a0).wf = true) (w1 : (Lit.int .i64 a1).wf = true) (w2 : (Lit.int .i64 a2).wf = true) (w3 : (Lit.int .i64 a3).wf = true) (w4 : (Lit.int .i64 a4).wf = true) (w5 : (Lit.int .i64 a5).wf = true) (hG : GL w) :
  Calls Tryz.prog 5 #[.int .i64 a0,.int .i64 a1,.int .i64 a2,.int .i64 a3,.int .i64 a4,.int .i64 a5] w fun e w' => e = .returned (.bool true) ∧ Below w.heap.size w w' := by
 obtain ⟨k,h⟩ := P a0 a1 a2 a3 a4 a5 w0 w1 w2 w3 w4 w5
 refine (transhumancelaw2_VerOrder.calls k a0 a1 a2 a3 a4 a5 true w hG h).mono ?_
 rintro e w' ⟨rfl,hd⟩
 exact ⟨rfl,hd⟩
end Go.Proofs.YtbdojilhmgfdcaaGreatDoor.Q
