import Derived.Test.YtjiidlkkkednoaaGreatDoorZBaseg
import Derived.Test.YtjiidlkkkednoaaGreatDoorZQ4
import Derived.Test.YtjiidlkkkednoaaGreatDoorZQ7g
import Derived.Test.YtjiidlkkkednoaaGreatDoorZQ8
import Derived.Test.YtjiidlkkkednoaaGreatDoorZVsg
import Derived.Test.YtjiidlkkkednoaaGreatDoorZMpmg
namespace Go.Proofs.YtjiidlkkkednoaaGreatDoor.Q
open Go.RowKit Go.Proofs.YtjiidlkkkednoaaGreatDoorW.PrintWords Go.Proofs.YtjiidlkkkednoaaGreatDoorW.PrintLast Go.Proofs.YtjiidlkkkednoaaGreatDoorW.PrintMore
attribute [local go_sem] max2_int min2_int max_two min_two max_three min_three max_four min_four
set_option linter.unusedVariables false
set_option linter.unusedSimpArgs false
def mani_req.f (k:Nat) (a0_0:ByteArray) (a0_1:Int) (a0_2:Int) (a0_3:Int) (a0_4:ByteArray):Option (Bool):=(path_Right.f a0_0).bind fun t133 => (if t133=true then ((ver_Right.f a0_1 a0_2 a0_3 a0_4).bind fun t134 => (if t134=true then ((path_Fits.f k a0_0 a0_1 a0_2 a0_3 a0_4).bind fun t135 => (some t135)) else (some false))) else (some false))
set_option maxHeartbeats 8000000 in
set_option maxRecDepth 100000 in
theorem mani_req.calls (k:Nat) (a0_0:ByteArray) (a0_1:Int) (a0_2:Int) (a0_3:Int) (a0_4:ByteArray) (r:Bool) (w:World) (hG:GL w) (h:mani_req.f k a0_0 a0_1 a0_2 a0_3 a0_4=some r) :
  Calls Tryz.prog 37 #[.agg #[.string a0_0,.int .i64 a0_1,.int .i64 a0_2,.int .i64 a0_3,.string a0_4]] w fun e w' => e=.returned (.bool r)∧Below w.heap.size w w':=by
 have hu45:=Tryz.underlying45
 have hu43:=Tryz.underlying43
 have HB:=Aside0.mk (Below.refl w.heap.size w)
 have H:((path_Right.f a0_0).bind fun t133 => (if t133=true then ((ver_Right.f a0_1 a0_2 a0_3 a0_4).bind fun t134 => (if t134=true then ((path_Fits.f k a0_0 a0_1 a0_2 a0_3 a0_4).bind fun t135 => (some t135)) else (some false))) else (some false)))=some r:=h
 clear h
 replace H:=Option.bind_eq_some_iff.mp H
 obtain ⟨t133,A20,H⟩:=H
 replace H:(if t133=true then ((ver_Right.f a0_1 a0_2 a0_3 a0_4).bind fun t134 => (if t134=true then ((path_Fits.f k a0_0 a0_1 a0_2 a0_3 a0_4).bind fun t135 => (some t135)) else (some false))) else (some false))=some r:=H
 have A2:=Aside0.mk A20
 clear A20
 by_cases c3:t133=true
 ·subst c3
  have H1:((ver_Right.f a0_1 a0_2 a0_3 a0_4).bind fun t134 => (if t134=true then ((path_Fits.f k a0_0 a0_1 a0_2 a0_3 a0_4).bind fun t135 => (some t135)) else (some false)))=some r:=by rw [if_pos rfl] at H;exact H
  clear H
  have H:=H1
  clear H1
  replace H:=Option.bind_eq_some_iff.mp H
  obtain ⟨t134,A40,H⟩:=H
  replace H:(if t134=true then ((path_Fits.f k a0_0 a0_1 a0_2 a0_3 a0_4).bind fun t135 => (some t135)) else (some false))=some r:=H
  have A4:=Aside0.mk A40
  clear A40
  by_cases c5:t134=true
  ·subst c5
   have H1:((path_Fits.f k a0_0 a0_1 a0_2 a0_3 a0_4).bind fun t135 => (some t135))=some r:=by rw [if_pos rfl] at H;exact H
   clear H
   have H:=H1
   clear H1
   replace H:=Option.bind_eq_some_iff.mp H
   obtain ⟨t135,A60,H⟩:=H
   replace H:(some t135)=some r:=H
   have A6:=Aside0.mk A60
   clear A60
   obtain rfl:=Option.some.inj H
   go_enter Tryz.func37,Tryz.ntmps37
   go_wp2_with (first|((with_reducible refine gate_dst (N:=1) rfl ?_);refine box_event ?hg (N:=1) ?hd (cs:=#[.string a0_0,.int .i64 a0_1,.int .i64 a0_2,.int .i64 a0_3,.string a0_4]) (t:=45) ?hr ?_;(case hd => rfl);(case hg => rfl);(case hr => first|(go_simp;done)|(go_simp;rfl));intro gb132 hg w7 hbox hb;have n0_:=Aside0.mk (below_step (by repeat (first|(with_reducible first|exact HB.out|apply below_alloc|apply pw_below_drewN|apply below_drew1)|exact HB.out)) hb);have n1_:=Aside0.mk (hbox);have n2_:=Aside0.mk ((by rw [hg];exact (below_size (by repeat (first|(with_reducible first|exact HB.out|apply below_alloc|apply pw_below_drewN|apply below_drew1)|exact HB.out))):w.heap.size≤gb132));have n3_:=Aside0.mk ((by rw [hg];exact (below_size (by repeat (first|(with_reducible first|exact HB.out|apply below_alloc|apply pw_below_drewN|apply below_drew1)|exact HB.out))):w.heap.size≤gb132));clear HB;have HB:=n0_;have BK132:=n1_;have GW132:=n2_;have GE132:=n3_;clear n0_ n1_ n2_ n3_;clear hb hbox hg;have hcz8_0:w7.cell? ⟨gb132,0,none⟩=some (.string a0_0):=(blk_cell BK132.out 0).trans rfl;have hcz8_1:w7.cell? ⟨gb132,1,none⟩=some (.int .i64 a0_1):=(blk_cell BK132.out 1).trans rfl;have hcz8_2:w7.cell? ⟨gb132,2,none⟩=some (.int .i64 a0_2):=(blk_cell BK132.out 2).trans rfl;have hcz8_3:w7.cell? ⟨gb132,3,none⟩=some (.int .i64 a0_3):=(blk_cell BK132.out 3).trans rfl;have hcz8_4:w7.cell? ⟨gb132,4,none⟩=some (.string a0_4):=(blk_cell BK132.out 4).trans rfl;have hfz8_0:=blk_frozen BK132.out 0;have hfz8_1:=blk_frozen BK132.out 1;have hfz8_2:=blk_frozen BK132.out 2;have hfz8_3:=blk_frozen BK132.out 3;have hfz8_4:=blk_frozen BK132.out 4)|((with_reducible refine gate_callee (f:=35) rfl ?_);refine goesL_ (some 5) rfl rfl Tryz.func35 (by kernel_rfl) rfl #[.string a0_0] rfl (by (try simp only [List.map_toArray,List.map_cons,List.map_nil]);first|done|rfl|(simp only [List.length_drop,List.length_take];rfl)) ?_;(with_reducible refine (path_Right.calls a0_0 true _ A2.out).mono ?_);rintro e w' ⟨rfl,⟨nd,rfl⟩⟩;refine ⟨_,rfl,?_⟩)|(go_at_call 73;(with_reducible refine (ver_Right.calls a0_1 a0_2 a0_3 a0_4 true _ ?side1 A4.out).mono ?_);(case side1 => exact GL.below0 hG (by repeat (first|(with_reducible first|exact HB.out|apply below_alloc|apply pw_below_drewN|apply below_drew1|refine below_set ?_ GE132.out)|exact HB.out)));rintro e w9 ⟨rfl,hb⟩;have n0_:=Aside0.mk (blk_below (g:=gb132) (o:=.cells #[.string a0_0,.int .i64 a0_1,.int .i64 a0_2,.int .i64 a0_3,.string a0_4] 45 (0,0)) (by (with_reducible repeat (first|refine blk_drewN ?_ _|refine blk_drew ?_|refine blk_alloc ?_ _));exact BK132.out) hb);have n1_:=Aside0.mk (below_step (by repeat (first|(with_reducible first|exact HB.out|apply below_alloc|apply pw_below_drewN|apply below_drew1|refine below_set ?_ GE132.out)|exact HB.out)) hb);clear BK132;clear HB;have BK132:=n0_;have HB:=n1_;clear n0_ n1_;(try clear hb);(try clear hb2);(try clear hk);(try clear hi);have hcz10_0:w9.cell? ⟨gb132,0,none⟩=some (.string a0_0):=(blk_cell BK132.out 0).trans rfl;have hcz10_1:w9.cell? ⟨gb132,1,none⟩=some (.int .i64 a0_1):=(blk_cell BK132.out 1).trans rfl;have hcz10_2:w9.cell? ⟨gb132,2,none⟩=some (.int .i64 a0_2):=(blk_cell BK132.out 2).trans rfl;have hcz10_3:w9.cell? ⟨gb132,3,none⟩=some (.int .i64 a0_3):=(blk_cell BK132.out 3).trans rfl;have hcz10_4:w9.cell? ⟨gb132,4,none⟩=some (.string a0_4):=(blk_cell BK132.out 4).trans rfl;have hfz10_0:=blk_frozen BK132.out 0;have hfz10_1:=blk_frozen BK132.out 1;have hfz10_2:=blk_frozen BK132.out 2;have hfz10_3:=blk_frozen BK132.out 3;have hfz10_4:=blk_frozen BK132.out 4)|(go_at_call 74;(with_reducible refine (path_Fits.calls k a0_0 a0_1 a0_2 a0_3 a0_4 t135 _ A6.out).mono ?_);rintro e w11 ⟨rfl,hb⟩;have n0_:=Aside0.mk (blk_below (g:=gb132) (o:=.cells #[.string a0_0,.int .i64 a0_1,.int .i64 a0_2,.int .i64 a0_3,.string a0_4] 45 (0,0)) (by (with_reducible repeat (first|refine blk_drewN ?_ _|refine blk_drew ?_|refine blk_alloc ?_ _));exact BK132.out) hb);have n1_:=Aside0.mk (below_step (by repeat (first|(with_reducible first|exact HB.out|apply below_alloc|apply pw_below_drewN|apply below_drew1|refine below_set ?_ GE132.out)|exact HB.out)) hb);clear BK132;clear HB;have BK132:=n0_;have HB:=n1_;clear n0_ n1_;(try clear hb);(try clear hb2);(try clear hk);(try clear hi)))
   go_ret
   exact ⟨by first|rfl|(simp [errW_none,errW_some] <;> rfl)|(simp [*,errW_none,errW_some] <;> rfl),by repeat (first|(with_reducible first|exact HB.out|apply below_alloc|apply pw_below_drewN|apply below_drew1|refine below_set ?_ GE132.out)|exact HB.out)⟩
  ·replace c5:=Bool.eq_false_iff.mpr c5
   subst c5
   have H1:(some false)=some r:=by rw [if_neg (show ¬ (false=true) by decide)] at H;exact H
   clear H
   have H:=H1
   clear H1
   obtain rfl:=Option.some.inj H
   go_enter Tryz.func37,Tryz.ntmps37
   go_wp2_with (first|((with_reducible refine gate_dst (N:=1) rfl ?_);refine box_event ?hg (N:=1) ?hd (cs:=#[.string a0_0,.int .i64 a0_1,.int .i64 a0_2,.int .i64 a0_3,.string a0_4]) (t:=45) ?hr ?_;(case hd => rfl);(case hg => rfl);(case hr => first|(go_simp;done)|(go_simp;rfl));intro gb132 hg w12 hbox hb;have n0_:=Aside0.mk (below_step (by repeat (first|(with_reducible first|exact HB.out|apply below_alloc|apply pw_below_drewN|apply below_drew1)|exact HB.out)) hb);have n1_:=Aside0.mk (hbox);have n2_:=Aside0.mk ((by rw [hg];exact (below_size (by repeat (first|(with_reducible first|exact HB.out|apply below_alloc|apply pw_below_drewN|apply below_drew1)|exact HB.out))):w.heap.size≤gb132));have n3_:=Aside0.mk ((by rw [hg];exact (below_size (by repeat (first|(with_reducible first|exact HB.out|apply below_alloc|apply pw_below_drewN|apply below_drew1)|exact HB.out))):w.heap.size≤gb132));clear HB;have HB:=n0_;have BK132:=n1_;have GW132:=n2_;have GE132:=n3_;clear n0_ n1_ n2_ n3_;clear hb hbox hg;have hcz13_0:w12.cell? ⟨gb132,0,none⟩=some (.string a0_0):=(blk_cell BK132.out 0).trans rfl;have hcz13_1:w12.cell? ⟨gb132,1,none⟩=some (.int .i64 a0_1):=(blk_cell BK132.out 1).trans rfl;have hcz13_2:w12.cell? ⟨gb132,2,none⟩=some (.int .i64 a0_2):=(blk_cell BK132.out 2).trans rfl;have hcz13_3:w12.cell? ⟨gb132,3,none⟩=some (.int .i64 a0_3):=(blk_cell BK132.out 3).trans rfl;have hcz13_4:w12.cell? ⟨gb132,4,none⟩=some (.string a0_4):=(blk_cell BK132.out 4).trans rfl;have hfz13_0:=blk_frozen BK132.out 0;have hfz13_1:=blk_frozen BK132.out 1;have hfz13_2:=blk_frozen BK132.out 2;have hfz13_3:=blk_frozen BK132.out 3;have hfz13_4:=blk_frozen BK132.out 4)|((with_reducible refine gate_callee (f:=35) rfl ?_);refine goesL_ (some 5) rfl rfl Tryz.func35 (by kernel_rfl) rfl #[.string a0_0] rfl (by (try simp only [List.map_toArray,List.map_cons,List.map_nil]);first|done|rfl|(simp only [List.length_drop,List.length_take];rfl)) ?_;(with_reducible refine (path_Right.calls a0_0 true _ A2.out).mono ?_);rintro e w' ⟨rfl,⟨nd,rfl⟩⟩;refine ⟨_,rfl,?_⟩)|(go_at_call 73;(with_reducible refine (ver_Right.calls a0_1 a0_2 a0_3 a0_4 false _ ?side1 A4.out).mono ?_);(case side1 => exact GL.below0 hG (by repeat (first|(with_reducible first|exact HB.out|apply below_alloc|apply pw_below_drewN|apply below_drew1|refine below_set ?_ GE132.out)|exact HB.out)));rintro e w14 ⟨rfl,hb⟩;have n0_:=Aside0.mk (blk_below (g:=gb132) (o:=.cells #[.string a0_0,.int .i64 a0_1,.int .i64 a0_2,.int .i64 a0_3,.string a0_4] 45 (0,0)) (by (with_reducible repeat (first|refine blk_drewN ?_ _|refine blk_drew ?_|refine blk_alloc ?_ _));exact BK132.out) hb);have n1_:=Aside0.mk (below_step (by repeat (first|(with_reducible first|exact HB.out|apply below_alloc|apply pw_below_drewN|apply below_drew1|refine below_set ?_ GE132.out)|exact HB.out)) hb);clear BK132;clear HB;have BK132:=n0_;have HB:=n1_;clear n0_ n1_;(try clear hb);(try clear hb2);(try clear hk);(try clear hi)))
   go_ret
   exact ⟨by first|rfl|(simp [errW_none,errW_some] <;> rfl)|(simp [*,errW_none,errW_some] <;> rfl),by repeat (first|(with_reducible first|exact HB.out|apply below_alloc|apply pw_below_drewN|apply below_drew1|refine below_set ?_ GE132.out)|exact HB.out)⟩
 ·replace c3:=Bool.eq_false_iff.mpr c3
  subst c3
  have H1:(some false)=some r:=by rw [if_neg (show ¬ (false=true) by decide)] at H;exact H
  clear H
  have H:=H1
  clear H1
  obtain rfl:=Option.some.inj H
  go_enter Tryz.func37,Tryz.ntmps37
  go_wp2_with (first|((with_reducible refine gate_dst (N:=1) rfl ?_);refine box_event ?hg (N:=1) ?hd (cs:=#[.string a0_0,.int .i64 a0_1,.int .i64 a0_2,.int .i64 a0_3,.string a0_4]) (t:=45) ?hr ?_;(case hd => rfl);(case hg => rfl);(case hr => first|(go_simp;done)|(go_simp;rfl));intro gb132 hg w15 hbox hb;have n0_:=Aside0.mk (below_step (by repeat (first|(with_reducible first|exact HB.out|apply below_alloc|apply pw_below_drewN|apply below_drew1)|exact HB.out)) hb);have n1_:=Aside0.mk (hbox);have n2_:=Aside0.mk ((by rw [hg];exact (below_size (by repeat (first|(with_reducible first|exact HB.out|apply below_alloc|apply pw_below_drewN|apply below_drew1)|exact HB.out))):w.heap.size≤gb132));have n3_:=Aside0.mk ((by rw [hg];exact (below_size (by repeat (first|(with_reducible first|exact HB.out|apply below_alloc|apply pw_below_drewN|apply below_drew1)|exact HB.out))):w.heap.size≤gb132));clear HB;have HB:=n0_;have BK132:=n1_;have GW132:=n2_;have GE132:=n3_;clear n0_ n1_ n2_ n3_;clear hb hbox hg;have hcz16_0:w15.cell? ⟨gb132,0,none⟩=some (.string a0_0):=(blk_cell BK132.out 0).trans rfl;have hcz16_1:w15.cell? ⟨gb132,1,none⟩=some (.int .i64 a0_1):=(blk_cell BK132.out 1).trans rfl;have hcz16_2:w15.cell? ⟨gb132,2,none⟩=some (.int .i64 a0_2):=(blk_cell BK132.out 2).trans rfl;have hcz16_3:w15.cell? ⟨gb132,3,none⟩=some (.int .i64 a0_3):=(blk_cell BK132.out 3).trans rfl;have hcz16_4:w15.cell? ⟨gb132,4,none⟩=some (.string a0_4):=(blk_cell BK132.out 4).trans rfl;have hfz16_0:=blk_frozen BK132.out 0;have hfz16_1:=blk_frozen BK132.out 1;have hfz16_2:=blk_frozen BK132.out 2;have hfz16_3:=blk_frozen BK132.out 3;have hfz16_4:=blk_frozen BK132.out 4)|((with_reducible refine gate_callee (f:=35) rfl ?_);refine goesL_ (some 5) rfl rfl Tryz.func35 (by kernel_rfl) rfl #[.string a0_0] rfl (by (try simp only [List.map_toArray,List.map_cons,List.map_nil]);first|done|rfl|(simp only [List.length_drop,List.length_take];rfl)) ?_;(with_reducible refine (path_Right.calls a0_0 false _ A2.out).mono ?_);rintro e w' ⟨rfl,⟨nd,rfl⟩⟩;refine ⟨_,rfl,?_⟩))
  go_ret
  exact ⟨by first|rfl|(simp [errW_none,errW_some] <;> rfl)|(simp [*,errW_none,errW_some] <;> rfl),by repeat (first|(with_reducible first|exact HB.out|apply below_alloc|apply pw_below_drewN|apply below_drew1|refine below_set ?_ GE132.out)|exact HB.out)⟩
def mani_reqs.f (k:Nat) (a0_0:ByteArray) (a0_1:Int) (a0_2:Int) (a0_3:Int) (a0_4:ByteArray) (a1_0:ByteArray) (a1_1:Int) (a1_2:Int) (a1_3:Int) (a1_4:ByteArray):Option (Int):=(strings_Compare.f a0_0 a1_0).bind fun t138 => ((ver_Cmp.f k a0_1 a0_2 a0_3 a0_4 a1_1 a1_2 a1_3 a1_4).bind fun t139 => ((mani_first.f k (([t138,t139]:List Int))).bind fun t143 => (some t143)))
def mani_reqs.T1:Bool × List (List Nat × List Nat):=(true,[([],[]),([0],[0]),([],[]),([2],[2]),([1,3],[1,3]),([],[]),([5],[5]),([],[]),([7],[7]),([6,8,4],[6,8]),([4,9],[4,9]),([10,9],[10]),([11,11,0,1,2,3,4,5,6,7,8,9,10,11],[11])])
def mani_reqs.B1:List Nat:=[0,1,0,4,15,0,32,0,128,511,1023,2047,4095]
theorem mani_reqs.tab1:rtab .any (opsOf Tryz.f41 1)=mani_reqs.T1:=by kernel_rfl
theorem mani_reqs.bits1:waitsOk mani_reqs.T1.2 mani_reqs.B1=true:=by kernel_rfl
set_option maxHeartbeats 8000000 in
set_option maxRecDepth 100000 in
theorem mani_reqs.calls (k:Nat) (a0_0:ByteArray) (a0_1:Int) (a0_2:Int) (a0_3:Int) (a0_4:ByteArray) (a1_0:ByteArray) (a1_1:Int) (a1_2:Int) (a1_3:Int) (a1_4:ByteArray) (r:Int) (w:World) (hG:GL w) (h:mani_reqs.f k a0_0 a0_1 a0_2 a0_3 a0_4 a1_0 a1_1 a1_2 a1_3 a1_4=some r) :
  Calls Tryz.prog 41 #[.agg #[.string a0_0,.int .i64 a0_1,.int .i64 a0_2,.int .i64 a0_3,.string a0_4],.agg #[.string a1_0,.int .i64 a1_1,.int .i64 a1_2,.int .i64 a1_3,.string a1_4]] w fun e w' => e=.returned (.int .i64 r)∧Below w.heap.size w w':=by
 have hu45:=Tryz.underlying45
 have hu43:=Tryz.underlying43
 have HB:=Aside0.mk (Below.refl w.heap.size w)
 have H:((strings_Compare.f a0_0 a1_0).bind fun t138 => ((ver_Cmp.f k a0_1 a0_2 a0_3 a0_4 a1_1 a1_2 a1_3 a1_4).bind fun t139 => ((mani_first.f k (([t138,t139]:List Int))).bind fun t143 => (some t143))))=some r:=h
 clear h
 replace H:=Option.bind_eq_some_iff.mp H
 obtain ⟨t138,A30,H⟩:=H
 replace H:((ver_Cmp.f k a0_1 a0_2 a0_3 a0_4 a1_1 a1_2 a1_3 a1_4).bind fun t139 => ((mani_first.f k (([t138,t139]:List Int))).bind fun t143 => (some t143)))=some r:=H
 have A3:=Aside0.mk A30
 clear A30
 replace H:=Option.bind_eq_some_iff.mp H
 obtain ⟨t139,A40,H⟩:=H
 replace H:((mani_first.f k (([t138,t139]:List Int))).bind fun t143 => (some t143))=some r:=H
 have A4:=Aside0.mk A40
 clear A40
 obtain ⟨y140,hy140⟩:∃ y_:List Int,y_=(([t138,t139]:List Int)):=⟨_,rfl⟩
 replace H:((mani_first.f k y140).bind fun t143 => (some t143))=some r:=by first|(rw [hy140];with_reducible exact H)|(have H2_:=(Option.bind_some _ _).symm.trans H;rw [hy140];with_reducible exact H2_)|(have H2_:=(Option.bind_some _ _).symm.trans H;with_reducible exact H2_)|with_reducible exact H|(rw [hy140];exact H)|exact H
 have Ny140:=Aside0.mk hy140
 clear hy140
 replace H:=Option.bind_eq_some_iff.mp H
 obtain ⟨t143,A50,H⟩:=H
 replace H:(some t143)=some r:=H
 have A5:=Aside0.mk A50
 clear A50
 obtain rfl:=Option.some.inj H
 go_enter Tryz.func41,Tryz.ntmps41
 try go_wp2_with (first|((with_reducible refine gate_dst (N:=2) rfl ?_);refine box_event ?hg (N:=2) ?hd (cs:=#[.string a0_0,.int .i64 a0_1,.int .i64 a0_2,.int .i64 a0_3,.string a0_4]) (t:=45) ?hr ?_;(case hd => rfl);(case hg => rfl);(case hr => first|(go_simp;done)|(go_simp;rfl));intro gb136 hg w6 hbox hb;have n0_:=Aside0.mk (below_step (by repeat (first|(with_reducible first|exact HB.out|apply below_alloc|apply pw_below_drewN|apply below_drew1)|exact HB.out)) hb);have n1_:=Aside0.mk (hbox);have n2_:=Aside0.mk ((by rw [hg];exact (below_size (by repeat (first|(with_reducible first|exact HB.out|apply below_alloc|apply pw_below_drewN|apply below_drew1)|exact HB.out))):w.heap.size≤gb136));have n3_:=Aside0.mk ((by rw [hg];exact (below_size (by repeat (first|(with_reducible first|exact HB.out|apply below_alloc|apply pw_below_drewN|apply below_drew1)|exact HB.out))):w.heap.size≤gb136));clear HB;have HB:=n0_;have BK136:=n1_;have GW136:=n2_;have GE136:=n3_;clear n0_ n1_ n2_ n3_;clear hb hbox hg)|((with_reducible refine gate_dst (N:=3) rfl ?_);refine box_event ?hg (N:=3) ?hd (cs:=#[.string a1_0,.int .i64 a1_1,.int .i64 a1_2,.int .i64 a1_3,.string a1_4]) (t:=45) ?hr ?_;(case hd => rfl);(case hg => rfl);(case hr => first|(go_simp;done)|(go_simp;rfl));intro gb137 hg w7 hbox hb;have n0_:=Aside0.mk (blk_below (g:=gb136) (o:=.cells #[.string a0_0,.int .i64 a0_1,.int .i64 a0_2,.int .i64 a0_3,.string a0_4] 45 (0,0)) (by (with_reducible repeat (first|refine blk_drewN ?_ _|refine blk_drew ?_|refine blk_alloc ?_ _));exact BK136.out) hb);have n1_:=Aside0.mk (below_step (by repeat (first|(with_reducible first|exact HB.out|apply below_alloc|apply pw_below_drewN|apply below_drew1|refine below_set ?_ GE136.out)|exact HB.out)) hb);have n2_:=Aside0.mk (hbox);have n3_:=Aside0.mk ((by rw [hg];exact (below_size (by repeat (first|(with_reducible first|exact HB.out|apply below_alloc|apply pw_below_drewN|apply below_drew1|refine below_set ?_ GE136.out)|exact HB.out))):w.heap.size≤gb137));have n4_:=Aside0.mk ((by rw [hg];exact (below_size (by repeat (first|(with_reducible first|exact HB.out|apply below_alloc|apply pw_below_drewN|apply below_drew1|refine below_set ?_ GE136.out)|exact HB.out))):w.heap.size≤gb137));have n5_:=Aside0.mk ((by rw [hg];exact Nat.ne_of_lt (blk_lt (g:=gb136) (o:=.cells #[.string a0_0,.int .i64 a0_1,.int .i64 a0_2,.int .i64 a0_3,.string a0_4] 45 (0,0)) (by (with_reducible repeat (first|refine blk_drewN ?_ _|refine blk_drew ?_|refine blk_alloc ?_ _));exact BK136.out)):gb136≠gb137));have n6_:=Aside0.mk ((by rw [hg];exact Nat.ne_of_gt (blk_lt (g:=gb136) (o:=.cells #[.string a0_0,.int .i64 a0_1,.int .i64 a0_2,.int .i64 a0_3,.string a0_4] 45 (0,0)) (by (with_reducible repeat (first|refine blk_drewN ?_ _|refine blk_drew ?_|refine blk_alloc ?_ _));exact BK136.out)):gb137≠gb136));clear BK136;clear HB;have BK136:=n0_;have HB:=n1_;have BK137:=n2_;have GW137:=n3_;have GE137:=n4_;have NB136_137:=n5_;have NB137_136:=n6_;clear n0_ n1_ n2_ n3_ n4_ n5_ n6_;clear hb hbox hg))
 have n0_:=Aside0.mk (blk_drew BK136.out)
 have n1_:=Aside0.mk (blk_drew BK137.out)
 have n2_:=Aside0.mk (below_drew1 HB.out)
 clear BK136
 clear BK137
 clear HB
 have BK136:=n0_
 have BK137:=n1_
 have HB:=n2_
 clear n0_ n1_ n2_
 refine start_ (n:=13) (S:=fun w' => w'.cell? ⟨gb136,0,none⟩=some (.string a0_0)∧w'.cell? ⟨gb136,1,none⟩=some (.int .i64 a0_1)∧w'.cell? ⟨gb136,2,none⟩=some (.int .i64 a0_2)∧w'.cell? ⟨gb136,3,none⟩=some (.int .i64 a0_3)∧w'.cell? ⟨gb136,4,none⟩=some (.string a0_4)∧w'.cell? ⟨gb137,0,none⟩=some (.string a1_0)∧w'.cell? ⟨gb137,1,none⟩=some (.int .i64 a1_1)∧w'.cell? ⟨gb137,2,none⟩=some (.int .i64 a1_2)∧w'.cell? ⟨gb137,3,none⟩=some (.int .i64 a1_3)∧w'.cell? ⟨gb137,4,none⟩=some (.string a1_4)) (ds:=[]) #[false,false,false,false,false,false,false,false,false,false,false,false,false] (by kernel_rfl) rfl rfl ⟨(blk_cell BK136.out 0).trans rfl,(blk_cell BK136.out 1).trans rfl,(blk_cell BK136.out 2).trans rfl,(blk_cell BK136.out 3).trans rfl,(blk_cell BK136.out 4).trans rfl,(blk_cell BK137.out 0).trans rfl,(blk_cell BK137.out 1).trans rfl,(blk_cell BK137.out 2).trans rfl,(blk_cell BK137.out 3).trans rfl,(blk_cell BK137.out 4).trans rfl⟩ (fun hHeld => ?_);refine with_tabW mani_reqs.tab1 mani_reqs.bits1 (fun HT_ HW_ => ?_)
 generalize w7.drew=w8 at BK136 BK137 HB hHeld ⊢
 refine pure_ (i:=0) (N:=some 5) (v:=?_) (a':=?_) #[true,false,false,false,false,false,false,false,false,false,false,false,false] rfl rfl (any_of HT_.out (by kernel_rfl)) (fun _ _ _ h => h) (Or.inl ⟨by rfl,?_⟩) ?_ ?_
 rotate_left
 ·intro w'
  go_simp
  with_reducible rfl
 rotate_left
 ·simp only [Act.put,List.setIfInBounds_toArray,List.set_cons_zero,List.set_cons_succ,i64_w,i32_w]
  rfl
 refine pure_ (i:=2) (N:=some 7) (v:=?_) (a':=?_) #[true,false,true,false,false,false,false,false,false,false,false,false,false] rfl rfl (any_of HT_.out (by kernel_rfl)) (fun _ _ _ h => h) (Or.inl ⟨by rfl,?_⟩) ?_ ?_
 rotate_left
 ·intro w'
  go_simp
  with_reducible rfl
 rotate_left
 ·simp only [Act.put,List.setIfInBounds_toArray,List.set_cons_zero,List.set_cons_succ,i64_w,i32_w]
  rfl
 refine pure_ (i:=5) (N:=some 10) (v:=?_) (a':=?_) #[true,false,true,false,false,true,false,false,false,false,false,false,false] rfl rfl (any_of HT_.out (by kernel_rfl)) (fun _ _ _ h => h) (Or.inl ⟨by rfl,?_⟩) ?_ ?_
 rotate_left
 ·intro w'
  go_simp
  with_reducible rfl
 rotate_left
 ·simp only [Act.put,List.setIfInBounds_toArray,List.set_cons_zero,List.set_cons_succ,i64_w,i32_w]
  rfl
 refine pure_ (i:=7) (N:=some 12) (v:=?_) (a':=?_) #[true,false,true,false,false,true,false,true,false,false,false,false,false] rfl rfl (any_of HT_.out (by kernel_rfl)) (fun _ _ _ h => h) (Or.inl ⟨by rfl,?_⟩) ?_ ?_
 rotate_left
 ·intro w'
  go_simp
  with_reducible rfl
 rotate_left
 ·simp only [Act.put,List.setIfInBounds_toArray,List.set_cons_zero,List.set_cons_succ,i64_w,i32_w]
  rfl
 refine take_ (i:=1) (N:=some 6) (v:=?_) (a':=?_) #[true,true,true,false,false,true,false,true,false,false,false,false,false] rfl rfl (take_ofW HT_.out HW_.out (by kernel_rfl)) (fun _ _ _ h => h) (Or.inl ⟨by rfl,?_⟩) hHeld ?_ ?_
 rotate_left
 ·rintro w' ⟨s0,s1,s2,s3,s4,s5,s6,s7,s8,s9⟩
  go_simp
  with_reducible rfl
 rotate_left
 ·simp only [Act.put,List.setIfInBounds_toArray,List.set_cons_zero,List.set_cons_succ,i64_w,i32_w]
  rfl
 refine take_ (i:=3) (N:=some 8) (v:=?_) (a':=?_) #[true,true,true,true,false,true,false,true,false,false,false,false,false] rfl rfl (take_ofW HT_.out HW_.out (by kernel_rfl)) (fun _ _ _ h => h) (Or.inl ⟨by rfl,?_⟩) hHeld ?_ ?_
 rotate_left
 ·rintro w' ⟨s0,s1,s2,s3,s4,s5,s6,s7,s8,s9⟩
  go_simp
  with_reducible rfl
 rotate_left
 ·simp only [Act.put,List.setIfInBounds_toArray,List.set_cons_zero,List.set_cons_succ,i64_w,i32_w]
  rfl
 refine take_ (i:=6) (N:=some 11) (v:=?_) (a':=?_) #[true,true,true,true,false,true,true,true,false,false,false,false,false] rfl rfl (take_ofW HT_.out HW_.out (by kernel_rfl)) (fun _ _ _ h => h) (Or.inl ⟨by rfl,?_⟩) hHeld ?_ ?_
 rotate_left
 ·rintro w' ⟨s0,s1,s2,s3,s4,s5,s6,s7,s8,s9⟩
  go_simp
  with_reducible rfl
 rotate_left
 ·simp only [Act.put,List.setIfInBounds_toArray,List.set_cons_zero,List.set_cons_succ,i64_w,i32_w]
  rfl
 refine take_ (i:=8) (N:=some 13) (v:=?_) (a':=?_) #[true,true,true,true,false,true,true,true,true,false,false,false,false] rfl rfl (take_ofW HT_.out HW_.out (by kernel_rfl)) (fun _ _ _ h => h) (Or.inl ⟨by rfl,?_⟩) hHeld ?_ ?_
 rotate_left
 ·rintro w' ⟨s0,s1,s2,s3,s4,s5,s6,s7,s8,s9⟩
  go_simp
  with_reducible rfl
 rotate_left
 ·simp only [Act.put,List.setIfInBounds_toArray,List.set_cons_zero,List.set_cons_succ,i64_w,i32_w]
  rfl
 refine one_ (i:=4) (N:=some 9) #[true,true,true,true,true,true,true,true,true,false,false,false,false] rfl rfl (one_of HT_.out (by kernel_rfl)) (by decide) (fun K hK => ?_)
 refine goes_ Tryz.func40 (by kernel_rfl) rfl #[.string a0_0,.string a1_0] (by rfl) rfl rfl (by (try simp only [List.map_toArray,List.map_cons,List.map_nil]);first|done|rfl|(simp only [List.length_drop,List.length_take];rfl)) ?_
 with_reducible refine (strings_Compare.calls a0_0 a1_0 t138 _ A3.out).mono ?_
 rintro e w' ⟨rfl,⟨nd,rfl⟩⟩
 refine ⟨_,rfl,?_⟩
 refine hK.out _ _ ⟨(blk_cell BK136.out 0).trans rfl,(blk_cell BK136.out 1).trans rfl,(blk_cell BK136.out 2).trans rfl,(blk_cell BK136.out 3).trans rfl,(blk_cell BK136.out 4).trans rfl,(blk_cell BK137.out 0).trans rfl,(blk_cell BK137.out 1).trans rfl,(blk_cell BK137.out 2).trans rfl,(blk_cell BK137.out 3).trans rfl,(blk_cell BK137.out 4).trans rfl⟩ (fun hHeld => ?_)
 clear hK K
 refine norm_ (a':=?_) ?_ ?_
 rotate_left
 ·show Act.put _ (some 9) _=_
  simp only [Act.put,List.setIfInBounds_toArray,List.set_cons_zero,List.set_cons_succ,i64_w,i32_w]
  rfl
 refine one_ (i:=9) (N:=some 14) #[true,true,true,true,true,true,true,true,true,true,false,false,false] rfl rfl (one_of HT_.out (by kernel_rfl)) (by decide) (fun K hK => ?_)
 refine goes_ Tryz.func77 (by kernel_rfl) rfl #[.agg #[.int .i64 a0_1,.int .i64 a0_2,.int .i64 a0_3,.string a0_4],.agg #[.int .i64 a1_1,.int .i64 a1_2,.int .i64 a1_3,.string a1_4]] (by rfl) rfl rfl (by (try simp only [List.map_toArray,List.map_cons,List.map_nil]);first|done|rfl|(simp only [List.length_drop,List.length_take];rfl)) ?_
 with_reducible refine (ver_Cmp.calls k a0_1 a0_2 a0_3 a0_4 a1_1 a1_2 a1_3 a1_4 t139 _ ?side1 A4.out).mono ?_
 (case side1 => exact GL.below0 hG (by repeat (first|(with_reducible first|exact HB.out|apply below_alloc|apply pw_below_drewN|apply below_drew1|refine below_set ?_ GE136.out|refine below_set ?_ GE137.out)|exact HB.out)))
 rintro e w9 ⟨rfl,hb⟩
 refine ⟨_,rfl,?_⟩
 have n0_:=Aside0.mk (blk_below (g:=gb136) (o:=.cells #[.string a0_0,.int .i64 a0_1,.int .i64 a0_2,.int .i64 a0_3,.string a0_4] 45 (0,0)) (by (with_reducible repeat (first|refine blk_drewN ?_ _|refine blk_drew ?_|refine blk_alloc ?_ _));exact BK136.out) hb)
 have n1_:=Aside0.mk (blk_below (g:=gb137) (o:=.cells #[.string a1_0,.int .i64 a1_1,.int .i64 a1_2,.int .i64 a1_3,.string a1_4] 45 (0,0)) (by (with_reducible repeat (first|refine blk_drewN ?_ _|refine blk_drew ?_|refine blk_alloc ?_ _));exact BK137.out) hb)
 have n2_:=Aside0.mk (below_step (by repeat (first|(with_reducible first|exact HB.out|apply below_alloc|apply pw_below_drewN|apply below_drew1|refine below_set ?_ GE136.out|refine below_set ?_ GE137.out)|exact HB.out)) hb)
 clear BK136
 clear BK137
 clear HB
 have BK136:=n0_
 have BK137:=n1_
 have HB:=n2_
 clear n0_ n1_ n2_
 (try clear hb)
 (try clear hb2)
 (try clear hk)
 (try clear hi)
 refine hK.out _ _ ⟨(blk_cell BK136.out 0).trans rfl,(blk_cell BK136.out 1).trans rfl,(blk_cell BK136.out 2).trans rfl,(blk_cell BK136.out 3).trans rfl,(blk_cell BK136.out 4).trans rfl,(blk_cell BK137.out 0).trans rfl,(blk_cell BK137.out 1).trans rfl,(blk_cell BK137.out 2).trans rfl,(blk_cell BK137.out 3).trans rfl,(blk_cell BK137.out 4).trans rfl⟩ (fun hHeld => ?_)
 clear hK K
 refine norm_ (a':=?_) ?_ ?_
 rotate_left
 ·show Act.put _ (some 14) _=_
  simp only [Act.put,List.setIfInBounds_toArray,List.set_cons_zero,List.set_cons_succ,i64_w,i32_w]
  rfl
 refine one_ (i:=10) (N:=some 15) #[true,true,true,true,true,true,true,true,true,true,true,false,false] rfl rfl (one_of HT_.out (by kernel_rfl)) (by decide) (fun K hK => ?_)
 refine Kd.R_lit_step (Kd.int .i64) _ 3 ?hg (N:=15) ?hd (xs:=([t138,t139]:List Int)) (inner:=[.int .i64 t138,.int .i64 t139]) (ok:=fun _ => True) (okp:=fun _ => True) ?hr ?hp (fun _ hk => hk) trivial (Below.refl _ _) (Nat.le_refl _) (by simp) ?_;(case hd => rfl);(case hg => rfl);(case hr => first|(go_simp;done)|(go_simp;rfl));(case hp => exact (Reps.one (show Kd.M (Kd.int .i64) _ _ _ t138 [.int .i64 t138] from rfl) (Reps.one (show Kd.M (Kd.int .i64) _ _ _ t139 [.int .i64 t139] from rfl) (Reps.none _ _))))
 intro v141 w10 ho11 hb hg_ hnew_
 clear hg_ hnew_
 (first|rw [← Ny140.out] at ho11|(simp only [Int.reduceToNat] at ho11;rw [← Ny140.out] at ho11))
 have n0_:=Aside0.mk (Kd.R_lower ho11 (below_size (by repeat (first|(with_reducible first|exact HB.out|apply below_alloc|apply pw_below_drewN|apply below_drew1|refine below_set ?_ GE136.out|refine below_set ?_ GE137.out)|exact HB.out))))
 have n1_:=Aside0.mk (blk_below (g:=gb136) (o:=.cells #[.string a0_0,.int .i64 a0_1,.int .i64 a0_2,.int .i64 a0_3,.string a0_4] 45 (0,0)) (by (with_reducible repeat (first|refine blk_drewN ?_ _|refine blk_drew ?_|refine blk_alloc ?_ _));exact BK136.out) hb)
 have n2_:=Aside0.mk (blk_below (g:=gb137) (o:=.cells #[.string a1_0,.int .i64 a1_1,.int .i64 a1_2,.int .i64 a1_3,.string a1_4] 45 (0,0)) (by (with_reducible repeat (first|refine blk_drewN ?_ _|refine blk_drew ?_|refine blk_alloc ?_ _));exact BK137.out) hb)
 have n3_:=Aside0.mk (below_step (by repeat (first|(with_reducible first|exact HB.out|apply below_alloc|apply pw_below_drewN|apply below_drew1|refine below_set ?_ GE136.out|refine below_set ?_ GE137.out)|exact HB.out)) hb)
 clear BK136
 clear BK137
 clear HB
 have HO142:=n0_
 have BK136:=n1_
 have BK137:=n2_
 have HB:=n3_
 clear n0_ n1_ n2_ n3_
 clear hb ho11
 obtain ⟨Ao12,co12,eo12⟩:=Kd.R_slice HO142.out
 (first|subst eo12|(injection eo12 with f1_ f2_ f3_;have f4_:=f1_.symm;have f5_:=f3_.symm;clear f1_ f2_ f3_;subst f4_;subst f5_))
 refine hK.out _ _ ⟨(blk_cell BK136.out 0).trans rfl,(blk_cell BK136.out 1).trans rfl,(blk_cell BK136.out 2).trans rfl,(blk_cell BK136.out 3).trans rfl,(blk_cell BK136.out 4).trans rfl,(blk_cell BK137.out 0).trans rfl,(blk_cell BK137.out 1).trans rfl,(blk_cell BK137.out 2).trans rfl,(blk_cell BK137.out 3).trans rfl,(blk_cell BK137.out 4).trans rfl⟩ (fun hHeld => ?_)
 clear hK K
 refine norm_ (a':=?_) ?_ ?_
 rotate_left
 ·show Act.put _ (some 15) _=_
  simp only [Act.put,List.setIfInBounds_toArray,List.set_cons_zero,List.set_cons_succ,i64_w,i32_w]
  rfl
 refine one_ (i:=11) (N:=some 16) #[true,true,true,true,true,true,true,true,true,true,true,true,false] rfl rfl (one_of HT_.out (by kernel_rfl)) (by decide) (fun K hK => ?_)
 refine goes_ Tryz.func76 (by kernel_rfl) rfl #[.slice Ao12 y140.length co12] (by rfl) rfl rfl (by (try simp only [List.map_toArray,List.map_cons,List.map_nil]);first|done|rfl|(simp only [List.length_drop,List.length_take];rfl)) ?_
 with_reducible refine (mani_first.calls k _ _ y140 t143 _ ?side1 ?side2 A5.out).mono ?_
 (case side1 => repeat (first|exact (Kd.R_reads' HO142.out).2.2|(with_reducible refine Kd.C_alloc ?_ _)|(with_reducible refine Kd.C_drewN ?_ _)|(with_reducible refine Kd.C_drew ?_)))
 (case side2 => exact (Kd.R_reads' HO142.out).2.1)
 rintro e w' ⟨rfl,⟨nd,rfl⟩⟩
 refine ⟨_,rfl,?_⟩
 refine hK.out _ _ ⟨(blk_cell BK136.out 0).trans rfl,(blk_cell BK136.out 1).trans rfl,(blk_cell BK136.out 2).trans rfl,(blk_cell BK136.out 3).trans rfl,(blk_cell BK136.out 4).trans rfl,(blk_cell BK137.out 0).trans rfl,(blk_cell BK137.out 1).trans rfl,(blk_cell BK137.out 2).trans rfl,(blk_cell BK137.out 3).trans rfl,(blk_cell BK137.out 4).trans rfl⟩ (fun hHeld => ?_)
 clear hK K
 refine norm_ (a':=?_) ?_ ?_
 rotate_left
 ·show Act.put _ (some 16) _=_
  simp only [Act.put,List.setIfInBounds_toArray,List.set_cons_zero,List.set_cons_succ,i64_w,i32_w]
  rfl
 refine pure_ (i:=12) (N:=some 4) (v:=?_) (a':=?_) #[true,true,true,true,true,true,true,true,true,true,true,true,true] rfl rfl (any_of HT_.out (by kernel_rfl)) (fun _ _ _ h => h) (Or.inl ⟨by rfl,?_⟩) ?_ ?_
 rotate_left
 ·intro w'
  go_simp
  with_reducible rfl
 rotate_left
 ·simp only [Act.put,List.setIfInBounds_toArray,List.set_cons_zero,List.set_cons_succ,i64_w,i32_w]
  rfl
 refine done_ (done_of HT_.out (by kernel_rfl)) ?_
 try go_wp2
 go_ret
 exact ⟨by first|rfl|(simp [errW_none,errW_some] <;> rfl)|(simp [*,errW_none,errW_some] <;> rfl),by repeat (first|(with_reducible first|exact HB.out|apply below_alloc|apply pw_below_drewN|apply below_drew1|refine below_set ?_ GE136.out|refine below_set ?_ GE137.out)|exact HB.out)⟩
end Go.Proofs.YtjiidlkkkednoaaGreatDoor.Q
