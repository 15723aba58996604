import Derived.Test.YtjiidlkkkednoaaGreatDoorZBaseg
import Derived.Test.YtjiidlkkkednoaaGreatDoorZQ4
import Derived.Test.YtjiidlkkkednoaaGreatDoorZQ7g
import Derived.Test.YtjiidlkkkednoaaGreatDoorZMpmg
import Derived.Test.YtjiidlkkkednoaaGreatDoorZVqg
import Derived.Deep.RegionWith
section
namespace Go.Proofs.YtjiidlkkkednoaaGreatDoor.Q
open Go.RowKit Go.Proofs.YtjiidlkkkednoaaGreatDoorW.PrintWords Go.Proofs.YtjiidlkkkednoaaGreatDoorW.PrintLast Go.Proofs.YtjiidlkkkednoaaGreatDoorW.PrintMore
attribute [local go_sem] max2_int min2_int max_two min_two max_three min_three max_four min_four
set_option linter.unusedVariables false
set_option linter.unusedSimpArgs false
def mani_swaps.f (k:Nat) (a0_0:ByteArray) (a0_1:ByteArray) (a0_2:Int) (a0_3:Int) (a0_4:Int) (a0_5:ByteArray) (a1_0:ByteArray) (a1_1:ByteArray) (a1_2:Int) (a1_3:Int) (a1_4:Int) (a1_5:ByteArray):Option (Int):=(strings_Compare.f a0_0 a1_0).bind fun t146 => ((strings_Compare.f a0_1 a1_1).bind fun t147 => ((ver_Cmp.f k a0_2 a0_3 a0_4 a0_5 a1_2 a1_3 a1_4 a1_5).bind fun t148 => ((mani_first.f k (([t146,t147,t148]:List Int))).bind fun t152 => (some t152))))
def mani_swaps.T1:Bool × List (List Nat × List Nat):=(true,[([],[]),([0],[0]),([],[]),([2],[2]),([1,3],[1,3]),([],[]),([5],[5]),([],[]),([7],[7]),([6,8,4],[6,8]),([],[]),([10],[10]),([],[]),([12],[12]),([11,13,9],[11,13]),([4,9,14],[4,9,14]),([15,14],[15]),([16,16,0,1,2,3,4,5,6,7,8,9,10,11,12,13,14,15,16],[16])])
def mani_swaps.B1:List Nat:=[0,1,0,4,15,0,32,0,128,511,0,1024,0,4096,16383,32767,65535,131071]
theorem mani_swaps.tab1:rtab .any (opsOf Tryz.f48 1)=mani_swaps.T1:=by kernel_rfl
theorem mani_swaps.bits1:waitsOk mani_swaps.T1.2 mani_swaps.B1=true:=by kernel_rfl
set_option maxHeartbeats 8000000 in
set_option maxRecDepth 100000 in
theorem mani_swaps.calls (k:Nat) (a0_0:ByteArray) (a0_1:ByteArray) (a0_2:Int) (a0_3:Int) (a0_4:Int) (a0_5:ByteArray) (a1_0:ByteArray) (a1_1:ByteArray) (a1_2:Int) (a1_3:Int) (a1_4:Int) (a1_5:ByteArray) (r:Int) (w:World) (hG:GL w) (h:mani_swaps.f k a0_0 a0_1 a0_2 a0_3 a0_4 a0_5 a1_0 a1_1 a1_2 a1_3 a1_4 a1_5=some r) :
  Calls Tryz.prog 48 #[.agg #[.string a0_0,.string a0_1,.int .i64 a0_2,.int .i64 a0_3,.int .i64 a0_4,.string a0_5],.agg #[.string a1_0,.string a1_1,.int .i64 a1_2,.int .i64 a1_3,.int .i64 a1_4,.string a1_5]] w fun e w' => e=.returned (.int .i64 r)∧Below w.heap.size w w':=by
 have hu48:=Tryz.underlying48
 have hu43:=Tryz.underlying43
 have HB:=Aside0.mk (Below.refl w.heap.size w)
 have H:((strings_Compare.f a0_0 a1_0).bind fun t146 => ((strings_Compare.f a0_1 a1_1).bind fun t147 => ((ver_Cmp.f k a0_2 a0_3 a0_4 a0_5 a1_2 a1_3 a1_4 a1_5).bind fun t148 => ((mani_first.f k (([t146,t147,t148]:List Int))).bind fun t152 => (some t152)))))=some r:=h
 clear h
 replace H:=Option.bind_eq_some_iff.mp H
 obtain ⟨t146,A30,H⟩:=H
 replace H:((strings_Compare.f a0_1 a1_1).bind fun t147 => ((ver_Cmp.f k a0_2 a0_3 a0_4 a0_5 a1_2 a1_3 a1_4 a1_5).bind fun t148 => ((mani_first.f k (([t146,t147,t148]:List Int))).bind fun t152 => (some t152))))=some r:=H
 have A3:=Aside0.mk A30
 clear A30
 replace H:=Option.bind_eq_some_iff.mp H
 obtain ⟨t147,A40,H⟩:=H
 replace H:((ver_Cmp.f k a0_2 a0_3 a0_4 a0_5 a1_2 a1_3 a1_4 a1_5).bind fun t148 => ((mani_first.f k (([t146,t147,t148]:List Int))).bind fun t152 => (some t152)))=some r:=H
 have A4:=Aside0.mk A40
 clear A40
 replace H:=Option.bind_eq_some_iff.mp H
 obtain ⟨t148,A50,H⟩:=H
 replace H:((mani_first.f k (([t146,t147,t148]:List Int))).bind fun t152 => (some t152))=some r:=H
 have A5:=Aside0.mk A50
 clear A50
 obtain ⟨y149,hy149⟩:∃ y_:List Int,y_=(([t146,t147,t148]:List Int)):=⟨_,rfl⟩
 replace H:((mani_first.f k y149).bind fun t152 => (some t152))=some r:=by first|(rw [hy149];with_reducible exact H)|(have H2_:=(Option.bind_some _ _).symm.trans H;rw [hy149];with_reducible exact H2_)|(have H2_:=(Option.bind_some _ _).symm.trans H;with_reducible exact H2_)|with_reducible exact H|(rw [hy149];exact H)|exact H
 have Ny149:=Aside0.mk hy149
 clear hy149
 replace H:=Option.bind_eq_some_iff.mp H
 obtain ⟨t152,A60,H⟩:=H
 replace H:(some t152)=some r:=H
 have A6:=Aside0.mk A60
 clear A60
 obtain rfl:=Option.some.inj H
 go_enter Tryz.func48,Tryz.ntmps48
 try go_wp2_with (first|((with_reducible refine gate_dst (N:=2) rfl ?_);refine box_event ?hg (N:=2) ?hd (cs:=#[.string a0_0,.string a0_1,.int .i64 a0_2,.int .i64 a0_3,.int .i64 a0_4,.string a0_5]) (t:=48) ?hr ?_;(case hd => rfl);(case hg => rfl);(case hr => first|(go_simp;done)|(go_simp;rfl));intro gb144 hg w7 hbox hb;have n0_:=Aside0.mk (below_step (by repeat (first|(with_reducible first|exact HB.out|apply below_alloc|apply pw_below_drewN|apply below_drew1)|exact HB.out)) hb);have n1_:=Aside0.mk (hbox);have n2_:=Aside0.mk ((by rw [hg];exact (below_size (by repeat (first|(with_reducible first|exact HB.out|apply below_alloc|apply pw_below_drewN|apply below_drew1)|exact HB.out))):w.heap.size≤gb144));have n3_:=Aside0.mk ((by rw [hg];exact (below_size (by repeat (first|(with_reducible first|exact HB.out|apply below_alloc|apply pw_below_drewN|apply below_drew1)|exact HB.out))):w.heap.size≤gb144));clear HB;have HB:=n0_;have BK144:=n1_;have GW144:=n2_;have GE144:=n3_;clear n0_ n1_ n2_ n3_;clear hb hbox hg)|((with_reducible refine gate_dst (N:=3) rfl ?_);refine box_event ?hg (N:=3) ?hd (cs:=#[.string a1_0,.string a1_1,.int .i64 a1_2,.int .i64 a1_3,.int .i64 a1_4,.string a1_5]) (t:=48) ?hr ?_;(case hd => rfl);(case hg => rfl);(case hr => first|(go_simp;done)|(go_simp;rfl));intro gb145 hg w8 hbox hb;have n0_:=Aside0.mk (blk_below (g:=gb144) (o:=.cells #[.string a0_0,.string a0_1,.int .i64 a0_2,.int .i64 a0_3,.int .i64 a0_4,.string a0_5] 48 (0,0)) (by (with_reducible repeat (first|refine blk_drewN ?_ _|refine blk_drew ?_|refine blk_alloc ?_ _));exact BK144.out) hb);have n1_:=Aside0.mk (below_step (by repeat (first|(with_reducible first|exact HB.out|apply below_alloc|apply pw_below_drewN|apply below_drew1|refine below_set ?_ GE144.out)|exact HB.out)) hb);have n2_:=Aside0.mk (hbox);have n3_:=Aside0.mk ((by rw [hg];exact (below_size (by repeat (first|(with_reducible first|exact HB.out|apply below_alloc|apply pw_below_drewN|apply below_drew1|refine below_set ?_ GE144.out)|exact HB.out))):w.heap.size≤gb145));have n4_:=Aside0.mk ((by rw [hg];exact (below_size (by repeat (first|(with_reducible first|exact HB.out|apply below_alloc|apply pw_below_drewN|apply below_drew1|refine below_set ?_ GE144.out)|exact HB.out))):w.heap.size≤gb145));have n5_:=Aside0.mk ((by rw [hg];exact Nat.ne_of_lt (blk_lt (g:=gb144) (o:=.cells #[.string a0_0,.string a0_1,.int .i64 a0_2,.int .i64 a0_3,.int .i64 a0_4,.string a0_5] 48 (0,0)) (by (with_reducible repeat (first|refine blk_drewN ?_ _|refine blk_drew ?_|refine blk_alloc ?_ _));exact BK144.out)):gb144≠gb145));have n6_:=Aside0.mk ((by rw [hg];exact Nat.ne_of_gt (blk_lt (g:=gb144) (o:=.cells #[.string a0_0,.string a0_1,.int .i64 a0_2,.int .i64 a0_3,.int .i64 a0_4,.string a0_5] 48 (0,0)) (by (with_reducible repeat (first|refine blk_drewN ?_ _|refine blk_drew ?_|refine blk_alloc ?_ _));exact BK144.out)):gb145≠gb144));clear BK144;clear HB;have BK144:=n0_;have HB:=n1_;have BK145:=n2_;have GW145:=n3_;have GE145:=n4_;have NB144_145:=n5_;have NB145_144:=n6_;clear n0_ n1_ n2_ n3_ n4_ n5_ n6_;clear hb hbox hg))
 have n0_:=Aside0.mk (blk_drew BK144.out)
 have n1_:=Aside0.mk (blk_drew BK145.out)
 have n2_:=Aside0.mk (below_drew1 HB.out)
 clear BK144
 clear BK145
 clear HB
 have BK144:=n0_
 have BK145:=n1_
 have HB:=n2_
 clear n0_ n1_ n2_
 refine start_ (n:=18) (S:=fun w' => w'.cell? ⟨gb144,0,none⟩=some (.string a0_0)∧w'.cell? ⟨gb144,1,none⟩=some (.string a0_1)∧w'.cell? ⟨gb144,2,none⟩=some (.int .i64 a0_2)∧w'.cell? ⟨gb144,3,none⟩=some (.int .i64 a0_3)∧w'.cell? ⟨gb144,4,none⟩=some (.int .i64 a0_4)∧w'.cell? ⟨gb144,5,none⟩=some (.string a0_5)∧w'.cell? ⟨gb145,0,none⟩=some (.string a1_0)∧w'.cell? ⟨gb145,1,none⟩=some (.string a1_1)∧w'.cell? ⟨gb145,2,none⟩=some (.int .i64 a1_2)∧w'.cell? ⟨gb145,3,none⟩=some (.int .i64 a1_3)∧w'.cell? ⟨gb145,4,none⟩=some (.int .i64 a1_4)∧w'.cell? ⟨gb145,5,none⟩=some (.string a1_5)) (ds:=[]) #[false,false,false,false,false,false,false,false,false,false,false,false,false,false,false,false,false,false] (by kernel_rfl) rfl rfl ⟨(blk_cell BK144.out 0).trans rfl,(blk_cell BK144.out 1).trans rfl,(blk_cell BK144.out 2).trans rfl,(blk_cell BK144.out 3).trans rfl,(blk_cell BK144.out 4).trans rfl,(blk_cell BK144.out 5).trans rfl,(blk_cell BK145.out 0).trans rfl,(blk_cell BK145.out 1).trans rfl,(blk_cell BK145.out 2).trans rfl,(blk_cell BK145.out 3).trans rfl,(blk_cell BK145.out 4).trans rfl,(blk_cell BK145.out 5).trans rfl⟩ (fun hHeld => ?_);refine with_tabW mani_swaps.tab1 mani_swaps.bits1 (fun HT_ HW_ => ?_)
 generalize w8.drew=w9 at BK144 BK145 HB hHeld ⊢
 refine pure_ (i:=0) (N:=some 5) (v:=?_) (a':=?_) #[true,false,false,false,false,false,false,false,false,false,false,false,false,false,false,false,false,false] rfl rfl (any_of HT_.out (by kernel_rfl)) (fun _ _ _ h => h) (Or.inl ⟨by rfl,?_⟩) ?_ ?_
 rotate_left
 ·intro w'
  go_simp
  with_reducible rfl
 rotate_left
 ·simp only [Act.put,List.setIfInBounds_toArray,List.set_cons_zero,List.set_cons_succ,i64_w,i32_w]
  rfl
 refine pure_ (i:=2) (N:=some 7) (v:=?_) (a':=?_) #[true,false,true,false,false,false,false,false,false,false,false,false,false,false,false,false,false,false] rfl rfl (any_of HT_.out (by kernel_rfl)) (fun _ _ _ h => h) (Or.inl ⟨by rfl,?_⟩) ?_ ?_
 rotate_left
 ·intro w'
  go_simp
  with_reducible rfl
 rotate_left
 ·simp only [Act.put,List.setIfInBounds_toArray,List.set_cons_zero,List.set_cons_succ,i64_w,i32_w]
  rfl
 refine pure_ (i:=5) (N:=some 10) (v:=?_) (a':=?_) #[true,false,true,false,false,true,false,false,false,false,false,false,false,false,false,false,false,false] rfl rfl (any_of HT_.out (by kernel_rfl)) (fun _ _ _ h => h) (Or.inl ⟨by rfl,?_⟩) ?_ ?_
 rotate_left
 ·intro w'
  go_simp
  with_reducible rfl
 rotate_left
 ·simp only [Act.put,List.setIfInBounds_toArray,List.set_cons_zero,List.set_cons_succ,i64_w,i32_w]
  rfl
 refine pure_ (i:=7) (N:=some 12) (v:=?_) (a':=?_) #[true,false,true,false,false,true,false,true,false,false,false,false,false,false,false,false,false,false] rfl rfl (any_of HT_.out (by kernel_rfl)) (fun _ _ _ h => h) (Or.inl ⟨by rfl,?_⟩) ?_ ?_
 rotate_left
 ·intro w'
  go_simp
  with_reducible rfl
 rotate_left
 ·simp only [Act.put,List.setIfInBounds_toArray,List.set_cons_zero,List.set_cons_succ,i64_w,i32_w]
  rfl
 refine pure_ (i:=10) (N:=some 15) (v:=?_) (a':=?_) #[true,false,true,false,false,true,false,true,false,false,true,false,false,false,false,false,false,false] rfl rfl (any_of HT_.out (by kernel_rfl)) (fun _ _ _ h => h) (Or.inl ⟨by rfl,?_⟩) ?_ ?_
 rotate_left
 ·intro w'
  go_simp
  with_reducible rfl
 rotate_left
 ·simp only [Act.put,List.setIfInBounds_toArray,List.set_cons_zero,List.set_cons_succ,i64_w,i32_w]
  rfl
 refine pure_ (i:=12) (N:=some 17) (v:=?_) (a':=?_) #[true,false,true,false,false,true,false,true,false,false,true,false,true,false,false,false,false,false] rfl rfl (any_of HT_.out (by kernel_rfl)) (fun _ _ _ h => h) (Or.inl ⟨by rfl,?_⟩) ?_ ?_
 rotate_left
 ·intro w'
  go_simp
  with_reducible rfl
 rotate_left
 ·simp only [Act.put,List.setIfInBounds_toArray,List.set_cons_zero,List.set_cons_succ,i64_w,i32_w]
  rfl
 refine take_ (i:=1) (N:=some 6) (v:=?_) (a':=?_) #[true,true,true,false,false,true,false,true,false,false,true,false,true,false,false,false,false,false] rfl rfl (take_ofW HT_.out HW_.out (by kernel_rfl)) (fun _ _ _ h => h) (Or.inl ⟨by rfl,?_⟩) hHeld ?_ ?_
 rotate_left
 ·rintro w' ⟨s0,s1,s2,s3,s4,s5,s6,s7,s8,s9,s10,s11⟩
  go_simp
  with_reducible rfl
 rotate_left
 ·simp only [Act.put,List.setIfInBounds_toArray,List.set_cons_zero,List.set_cons_succ,i64_w,i32_w]
  rfl
 refine take_ (i:=3) (N:=some 8) (v:=?_) (a':=?_) #[true,true,true,true,false,true,false,true,false,false,true,false,true,false,false,false,false,false] rfl rfl (take_ofW HT_.out HW_.out (by kernel_rfl)) (fun _ _ _ h => h) (Or.inl ⟨by rfl,?_⟩) hHeld ?_ ?_
 rotate_left
 ·rintro w' ⟨s0,s1,s2,s3,s4,s5,s6,s7,s8,s9,s10,s11⟩
  go_simp
  with_reducible rfl
 rotate_left
 ·simp only [Act.put,List.setIfInBounds_toArray,List.set_cons_zero,List.set_cons_succ,i64_w,i32_w]
  rfl
 refine take_ (i:=6) (N:=some 11) (v:=?_) (a':=?_) #[true,true,true,true,false,true,true,true,false,false,true,false,true,false,false,false,false,false] rfl rfl (take_ofW HT_.out HW_.out (by kernel_rfl)) (fun _ _ _ h => h) (Or.inl ⟨by rfl,?_⟩) hHeld ?_ ?_
 rotate_left
 ·rintro w' ⟨s0,s1,s2,s3,s4,s5,s6,s7,s8,s9,s10,s11⟩
  go_simp
  with_reducible rfl
 rotate_left
 ·simp only [Act.put,List.setIfInBounds_toArray,List.set_cons_zero,List.set_cons_succ,i64_w,i32_w]
  rfl
 refine take_ (i:=8) (N:=some 13) (v:=?_) (a':=?_) #[true,true,true,true,false,true,true,true,true,false,true,false,true,false,false,false,false,false] rfl rfl (take_ofW HT_.out HW_.out (by kernel_rfl)) (fun _ _ _ h => h) (Or.inl ⟨by rfl,?_⟩) hHeld ?_ ?_
 rotate_left
 ·rintro w' ⟨s0,s1,s2,s3,s4,s5,s6,s7,s8,s9,s10,s11⟩
  go_simp
  with_reducible rfl
 rotate_left
 ·simp only [Act.put,List.setIfInBounds_toArray,List.set_cons_zero,List.set_cons_succ,i64_w,i32_w]
  rfl
 refine take_ (i:=11) (N:=some 16) (v:=?_) (a':=?_) #[true,true,true,true,false,true,true,true,true,false,true,true,true,false,false,false,false,false] rfl rfl (take_ofW HT_.out HW_.out (by kernel_rfl)) (fun _ _ _ h => h) (Or.inl ⟨by rfl,?_⟩) hHeld ?_ ?_
 rotate_left
 ·rintro w' ⟨s0,s1,s2,s3,s4,s5,s6,s7,s8,s9,s10,s11⟩
  go_simp
  with_reducible rfl
 rotate_left
 ·simp only [Act.put,List.setIfInBounds_toArray,List.set_cons_zero,List.set_cons_succ,i64_w,i32_w]
  rfl
 refine take_ (i:=13) (N:=some 18) (v:=?_) (a':=?_) #[true,true,true,true,false,true,true,true,true,false,true,true,true,true,false,false,false,false] rfl rfl (take_ofW HT_.out HW_.out (by kernel_rfl)) (fun _ _ _ h => h) (Or.inl ⟨by rfl,?_⟩) hHeld ?_ ?_
 rotate_left
 ·rintro w' ⟨s0,s1,s2,s3,s4,s5,s6,s7,s8,s9,s10,s11⟩
  go_simp
  with_reducible rfl
 rotate_left
 ·simp only [Act.put,List.setIfInBounds_toArray,List.set_cons_zero,List.set_cons_succ,i64_w,i32_w]
  rfl
 refine one_ (i:=4) (N:=some 9) #[true,true,true,true,true,true,true,true,true,false,true,true,true,true,false,false,false,false] rfl rfl (one_of HT_.out (by kernel_rfl)) (by decide) (fun K hK => ?_)
 refine goes_ Tryz.func40 (by kernel_rfl) rfl #[.string a0_0,.string a1_0] (by rfl) rfl rfl (by (try simp only [List.map_toArray,List.map_cons,List.map_nil]);first|done|rfl|(simp only [List.length_drop,List.length_take];rfl)) ?_
 with_reducible refine (strings_Compare.calls a0_0 a1_0 t146 _ A3.out).mono ?_
 rintro e w' ⟨rfl,⟨nd,rfl⟩⟩
 refine ⟨_,rfl,?_⟩
 refine hK.out _ _ ⟨(blk_cell BK144.out 0).trans rfl,(blk_cell BK144.out 1).trans rfl,(blk_cell BK144.out 2).trans rfl,(blk_cell BK144.out 3).trans rfl,(blk_cell BK144.out 4).trans rfl,(blk_cell BK144.out 5).trans rfl,(blk_cell BK145.out 0).trans rfl,(blk_cell BK145.out 1).trans rfl,(blk_cell BK145.out 2).trans rfl,(blk_cell BK145.out 3).trans rfl,(blk_cell BK145.out 4).trans rfl,(blk_cell BK145.out 5).trans rfl⟩ (fun hHeld => ?_)
 clear hK K
 refine norm_ (a':=?_) ?_ ?_
 rotate_left
 ·show Act.put _ (some 9) _=_
  simp only [Act.put,List.setIfInBounds_toArray,List.set_cons_zero,List.set_cons_succ,i64_w,i32_w]
  rfl
 refine one_ (i:=9) (N:=some 14) #[true,true,true,true,true,true,true,true,true,true,true,true,true,true,false,false,false,false] rfl rfl (one_of HT_.out (by kernel_rfl)) (by decide) (fun K hK => ?_)
 refine goes_ Tryz.func40 (by kernel_rfl) rfl #[.string a0_1,.string a1_1] (by rfl) rfl rfl (by (try simp only [List.map_toArray,List.map_cons,List.map_nil]);first|done|rfl|(simp only [List.length_drop,List.length_take];rfl)) ?_
 with_reducible refine (strings_Compare.calls a0_1 a1_1 t147 _ A4.out).mono ?_
 rintro e w' ⟨rfl,⟨nd,rfl⟩⟩
 refine ⟨_,rfl,?_⟩
 refine hK.out _ _ ⟨(blk_cell BK144.out 0).trans rfl,(blk_cell BK144.out 1).trans rfl,(blk_cell BK144.out 2).trans rfl,(blk_cell BK144.out 3).trans rfl,(blk_cell BK144.out 4).trans rfl,(blk_cell BK144.out 5).trans rfl,(blk_cell BK145.out 0).trans rfl,(blk_cell BK145.out 1).trans rfl,(blk_cell BK145.out 2).trans rfl,(blk_cell BK145.out 3).trans rfl,(blk_cell BK145.out 4).trans rfl,(blk_cell BK145.out 5).trans rfl⟩ (fun hHeld => ?_)
 clear hK K
 refine norm_ (a':=?_) ?_ ?_
 rotate_left
 ·show Act.put _ (some 14) _=_
  simp only [Act.put,List.setIfInBounds_toArray,List.set_cons_zero,List.set_cons_succ,i64_w,i32_w]
  rfl
 refine one_ (i:=14) (N:=some 19) #[true,true,true,true,true,true,true,true,true,true,true,true,true,true,true,false,false,false] rfl rfl (one_of HT_.out (by kernel_rfl)) (by decide) (fun K hK => ?_)
 refine goes_ Tryz.func77 (by kernel_rfl) rfl #[.agg #[.int .i64 a0_2,.int .i64 a0_3,.int .i64 a0_4,.string a0_5],.agg #[.int .i64 a1_2,.int .i64 a1_3,.int .i64 a1_4,.string a1_5]] (by rfl) rfl rfl (by (try simp only [List.map_toArray,List.map_cons,List.map_nil]);first|done|rfl|(simp only [List.length_drop,List.length_take];rfl)) ?_
 with_reducible refine (ver_Cmp.calls k a0_2 a0_3 a0_4 a0_5 a1_2 a1_3 a1_4 a1_5 t148 _ ?side1 A5.out).mono ?_
 (case side1 => exact GL.below0 hG (by repeat (first|(with_reducible first|exact HB.out|apply below_alloc|apply pw_below_drewN|apply below_drew1|refine below_set ?_ GE144.out|refine below_set ?_ GE145.out)|exact HB.out)))
 rintro e w10 ⟨rfl,hb⟩
 refine ⟨_,rfl,?_⟩
 have n0_:=Aside0.mk (blk_below (g:=gb144) (o:=.cells #[.string a0_0,.string a0_1,.int .i64 a0_2,.int .i64 a0_3,.int .i64 a0_4,.string a0_5] 48 (0,0)) (by (with_reducible repeat (first|refine blk_drewN ?_ _|refine blk_drew ?_|refine blk_alloc ?_ _));exact BK144.out) hb)
 have n1_:=Aside0.mk (blk_below (g:=gb145) (o:=.cells #[.string a1_0,.string a1_1,.int .i64 a1_2,.int .i64 a1_3,.int .i64 a1_4,.string a1_5] 48 (0,0)) (by (with_reducible repeat (first|refine blk_drewN ?_ _|refine blk_drew ?_|refine blk_alloc ?_ _));exact BK145.out) hb)
 have n2_:=Aside0.mk (below_step (by repeat (first|(with_reducible first|exact HB.out|apply below_alloc|apply pw_below_drewN|apply below_drew1|refine below_set ?_ GE144.out|refine below_set ?_ GE145.out)|exact HB.out)) hb)
 clear BK144
 clear BK145
 clear HB
 have BK144:=n0_
 have BK145:=n1_
 have HB:=n2_
 clear n0_ n1_ n2_
 (try clear hb)
 (try clear hb2)
 (try clear hk)
 (try clear hi)
 refine hK.out _ _ ⟨(blk_cell BK144.out 0).trans rfl,(blk_cell BK144.out 1).trans rfl,(blk_cell BK144.out 2).trans rfl,(blk_cell BK144.out 3).trans rfl,(blk_cell BK144.out 4).trans rfl,(blk_cell BK144.out 5).trans rfl,(blk_cell BK145.out 0).trans rfl,(blk_cell BK145.out 1).trans rfl,(blk_cell BK145.out 2).trans rfl,(blk_cell BK145.out 3).trans rfl,(blk_cell BK145.out 4).trans rfl,(blk_cell BK145.out 5).trans rfl⟩ (fun hHeld => ?_)
 clear hK K
 refine norm_ (a':=?_) ?_ ?_
 rotate_left
 ·show Act.put _ (some 19) _=_
  simp only [Act.put,List.setIfInBounds_toArray,List.set_cons_zero,List.set_cons_succ,i64_w,i32_w]
  rfl
 refine one_ (i:=15) (N:=some 20) #[true,true,true,true,true,true,true,true,true,true,true,true,true,true,true,true,false,false] rfl rfl (one_of HT_.out (by kernel_rfl)) (by decide) (fun K hK => ?_)
 refine Kd.R_lit_step (Kd.int .i64) _ 3 ?hg (N:=20) ?hd (xs:=([t146,t147,t148]:List Int)) (inner:=[.int .i64 t146,.int .i64 t147,.int .i64 t148]) (ok:=fun _ => True) (okp:=fun _ => True) ?hr ?hp (fun _ hk => hk) trivial (Below.refl _ _) (Nat.le_refl _) (by simp) ?_;(case hd => rfl);(case hg => rfl);(case hr => first|(go_simp;done)|(go_simp;rfl));(case hp => exact (Reps.one (show Kd.M (Kd.int .i64) _ _ _ t146 [.int .i64 t146] from rfl) (Reps.one (show Kd.M (Kd.int .i64) _ _ _ t147 [.int .i64 t147] from rfl) (Reps.one (show Kd.M (Kd.int .i64) _ _ _ t148 [.int .i64 t148] from rfl) (Reps.none _ _)))))
 intro v150 w11 ho12 hb hg_ hnew_
 clear hg_ hnew_
 (first|rw [← Ny149.out] at ho12|(simp only [Int.reduceToNat] at ho12;rw [← Ny149.out] at ho12))
 have n0_:=Aside0.mk (Kd.R_lower ho12 (below_size (by repeat (first|(with_reducible first|exact HB.out|apply below_alloc|apply pw_below_drewN|apply below_drew1|refine below_set ?_ GE144.out|refine below_set ?_ GE145.out)|exact HB.out))))
 have n1_:=Aside0.mk (blk_below (g:=gb144) (o:=.cells #[.string a0_0,.string a0_1,.int .i64 a0_2,.int .i64 a0_3,.int .i64 a0_4,.string a0_5] 48 (0,0)) (by (with_reducible repeat (first|refine blk_drewN ?_ _|refine blk_drew ?_|refine blk_alloc ?_ _));exact BK144.out) hb)
 have n2_:=Aside0.mk (blk_below (g:=gb145) (o:=.cells #[.string a1_0,.string a1_1,.int .i64 a1_2,.int .i64 a1_3,.int .i64 a1_4,.string a1_5] 48 (0,0)) (by (with_reducible repeat (first|refine blk_drewN ?_ _|refine blk_drew ?_|refine blk_alloc ?_ _));exact BK145.out) hb)
 have n3_:=Aside0.mk (below_step (by repeat (first|(with_reducible first|exact HB.out|apply below_alloc|apply pw_below_drewN|apply below_drew1|refine below_set ?_ GE144.out|refine below_set ?_ GE145.out)|exact HB.out)) hb)
 clear BK144
 clear BK145
 clear HB
 have HO151:=n0_
 have BK144:=n1_
 have BK145:=n2_
 have HB:=n3_
 clear n0_ n1_ n2_ n3_
 clear hb ho12
 obtain ⟨Ao13,co13,eo13⟩:=Kd.R_slice HO151.out
 (first|subst eo13|(injection eo13 with f1_ f2_ f3_;have f4_:=f1_.symm;have f5_:=f3_.symm;clear f1_ f2_ f3_;subst f4_;subst f5_))
 refine hK.out _ _ ⟨(blk_cell BK144.out 0).trans rfl,(blk_cell BK144.out 1).trans rfl,(blk_cell BK144.out 2).trans rfl,(blk_cell BK144.out 3).trans rfl,(blk_cell BK144.out 4).trans rfl,(blk_cell BK144.out 5).trans rfl,(blk_cell BK145.out 0).trans rfl,(blk_cell BK145.out 1).trans rfl,(blk_cell BK145.out 2).trans rfl,(blk_cell BK145.out 3).trans rfl,(blk_cell BK145.out 4).trans rfl,(blk_cell BK145.out 5).trans rfl⟩ (fun hHeld => ?_)
 clear hK K
 refine norm_ (a':=?_) ?_ ?_
 rotate_left
 ·show Act.put _ (some 20) _=_
  simp only [Act.put,List.setIfInBounds_toArray,List.set_cons_zero,List.set_cons_succ,i64_w,i32_w]
  rfl
 refine one_ (i:=16) (N:=some 21) #[true,true,true,true,true,true,true,true,true,true,true,true,true,true,true,true,true,false] rfl rfl (one_of HT_.out (by kernel_rfl)) (by decide) (fun K hK => ?_)
 refine goes_ Tryz.func76 (by kernel_rfl) rfl #[.slice Ao13 y149.length co13] (by rfl) rfl rfl (by (try simp only [List.map_toArray,List.map_cons,List.map_nil]);first|done|rfl|(simp only [List.length_drop,List.length_take];rfl)) ?_
 with_reducible refine (mani_first.calls k _ _ y149 t152 _ ?side1 ?side2 A6.out).mono ?_
 (case side1 => repeat (first|exact (Kd.R_reads' HO151.out).2.2|(with_reducible refine Kd.C_alloc ?_ _)|(with_reducible refine Kd.C_drewN ?_ _)|(with_reducible refine Kd.C_drew ?_)))
 (case side2 => exact (Kd.R_reads' HO151.out).2.1)
 rintro e w' ⟨rfl,⟨nd,rfl⟩⟩
 refine ⟨_,rfl,?_⟩
 refine hK.out _ _ ⟨(blk_cell BK144.out 0).trans rfl,(blk_cell BK144.out 1).trans rfl,(blk_cell BK144.out 2).trans rfl,(blk_cell BK144.out 3).trans rfl,(blk_cell BK144.out 4).trans rfl,(blk_cell BK144.out 5).trans rfl,(blk_cell BK145.out 0).trans rfl,(blk_cell BK145.out 1).trans rfl,(blk_cell BK145.out 2).trans rfl,(blk_cell BK145.out 3).trans rfl,(blk_cell BK145.out 4).trans rfl,(blk_cell BK145.out 5).trans rfl⟩ (fun hHeld => ?_)
 clear hK K
 refine norm_ (a':=?_) ?_ ?_
 rotate_left
 ·show Act.put _ (some 21) _=_
  simp only [Act.put,List.setIfInBounds_toArray,List.set_cons_zero,List.set_cons_succ,i64_w,i32_w]
  rfl
 refine pure_ (i:=17) (N:=some 4) (v:=?_) (a':=?_) #[true,true,true,true,true,true,true,true,true,true,true,true,true,true,true,true,true,true] rfl rfl (any_of HT_.out (by kernel_rfl)) (fun _ _ _ h => h) (Or.inl ⟨by rfl,?_⟩) ?_ ?_
 rotate_left
 ·intro w'
  go_simp
  with_reducible rfl
 rotate_left
 ·simp only [Act.put,List.setIfInBounds_toArray,List.set_cons_zero,List.set_cons_succ,i64_w,i32_w]
  rfl
 refine done_ (done_of HT_.out (by kernel_rfl)) ?_
 try go_wp2
 go_ret
 exact ⟨by first|rfl|(simp [errW_none,errW_some] <;> rfl)|(simp [*,errW_none,errW_some] <;> rfl),by repeat (first|(with_reducible first|exact HB.out|apply below_alloc|apply pw_below_drewN|apply below_drew1|refine below_set ?_ GE144.out|refine below_set ?_ GE145.out)|exact HB.out)⟩
def transhumancelaw9_within.f (a0:Int) (a1:Int):Option (Int):=if a1=0 then (none) else (if (Int.tmod a0 a1)<0 then (some (wrap64 ((Int.tmod a0 a1)+a1))) else (some (Int.tmod a0 a1)))
set_option maxHeartbeats 8000000 in
set_option maxRecDepth 100000 in
theorem transhumancelaw9_within.calls (a0:Int) (a1:Int) (r:Int) (w:World) (h:transhumancelaw9_within.f a0 a1=some r) :
  Calls Tryz.prog 19 #[.int .i64 a0,.int .i64 a1] w fun e w' => e=.returned (.int .i64 r)∧Drawn0 w w':=by
 have H:(if a1=0 then (none) else (if (Int.tmod a0 a1)<0 then (some (wrap64 ((Int.tmod a0 a1)+a1))) else (some (Int.tmod a0 a1))))=some r:=h
 clear h
 by_cases c3:a1=0
 ·rw [if_pos c3] at H
  exact absurd H (by simp)
 ·rw [if_neg c3] at H
  have c3b0:(a1 == 0)=false:=beq_eq_false_iff_ne.mpr c3
  have c3b1:(a1 != 0)=true:=bne_iff_ne.mpr c3
  by_cases c4:(Int.tmod a0 a1)<0
  ·rw [if_pos c4] at H
   have c4b0:decide ((Int.tmod a0 a1)<0)=true:=decide_eq_true c4
   clear c4
   obtain rfl:=Option.some.inj H
   go_enter Tryz.func19,Tryz.ntmps19
   go_wp2
   go_ret
   exact ⟨by first|rfl|(simp;done)|(simp [*];done)|(simp;exact (fun l_:List UInt8 => by cases l_ <;> rfl:∀ l_:List UInt8,l_.isEmpty=!(l_ != [])) _),by repeat (first|exact Drawn0.refl _|apply Drawn0.step)⟩
  ·rw [if_neg c4] at H
   have c4b0:decide ((Int.tmod a0 a1)<0)=false:=decide_eq_false c4
   clear c4
   obtain rfl:=Option.some.inj H
   go_enter Tryz.func19,Tryz.ntmps19
   go_wp2
   go_ret
   exact ⟨by first|rfl|(simp;done)|(simp [*];done)|(simp;exact (fun l_:List UInt8 => by cases l_ <;> rfl:∀ l_:List UInt8,l_.isEmpty=!(l_ != [])) _),by repeat (first|exact Drawn0.refl _|apply Drawn0.step)⟩
def transhumancelaw4_within.f (a0:Int) (a1:Int):Option (Int):=if a1=0 then (none) else (if (Int.tmod a0 a1)<0 then (some (wrap64 ((Int.tmod a0 a1)+a1))) else (some (Int.tmod a0 a1)))
set_option maxHeartbeats 8000000 in
set_option maxRecDepth 100000 in
theorem transhumancelaw4_within.calls (a0:Int) (a1:Int) (r:Int) (w:World) (h:transhumancelaw4_within.f a0 a1=some r) :
  Calls Tryz.prog 78 #[.int .i64 a0,.int .i64 a1] w fun e w' => e=.returned (.int .i64 r)∧Drawn0 w w':=by
 have H:(if a1=0 then (none) else (if (Int.tmod a0 a1)<0 then (some (wrap64 ((Int.tmod a0 a1)+a1))) else (some (Int.tmod a0 a1))))=some r:=h
 clear h
 by_cases c3:a1=0
 ·rw [if_pos c3] at H
  exact absurd H (by simp)
 ·rw [if_neg c3] at H
  have c3b0:(a1 == 0)=false:=beq_eq_false_iff_ne.mpr c3
  have c3b1:(a1 != 0)=true:=bne_iff_ne.mpr c3
  by_cases c4:(Int.tmod a0 a1)<0
  ·rw [if_pos c4] at H
   have c4b0:decide ((Int.tmod a0 a1)<0)=true:=decide_eq_true c4
   clear c4
   obtain rfl:=Option.some.inj H
   go_enter Tryz.func78,Tryz.ntmps78
   go_wp2
   go_ret
   exact ⟨by first|rfl|(simp;done)|(simp [*];done)|(simp;exact (fun l_:List UInt8 => by cases l_ <;> rfl:∀ l_:List UInt8,l_.isEmpty=!(l_ != [])) _),by repeat (first|exact Drawn0.refl _|apply Drawn0.step)⟩
  ·rw [if_neg c4] at H
   have c4b0:decide ((Int.tmod a0 a1)<0)=false:=decide_eq_false c4
   clear c4
   obtain rfl:=Option.some.inj H
   go_enter Tryz.func78,Tryz.ntmps78
   go_wp2
   go_ret
   exact ⟨by first|rfl|(simp;done)|(simp [*];done)|(simp;exact (fun l_:List UInt8 => by cases l_ <;> rfl:∀ l_:List UInt8,l_.isEmpty=!(l_ != [])) _),by repeat (first|exact Drawn0.refl _|apply Drawn0.step)⟩
end Go.Proofs.YtjiidlkkkednoaaGreatDoor.Q
end
section
namespace Go.Proofs.YtjiidlkkkednoaaGreatDoor.Q
open Go.RowKit Go.Proofs.YtjiidlkkkednoaaGreatDoorW.PrintWords Go.Proofs.YtjiidlkkkednoaaGreatDoorW.PrintLast Go.Proofs.YtjiidlkkkednoaaGreatDoorW.PrintMore
def cmpV (x y:Vr):Int:=if cmpI x.a y.a≠0 then cmpI x.a y.a else if cmpI x.b y.b≠0 then cmpI x.b y.b else if cmpI x.c y.c≠0 then cmpI x.c y.c else aheadI x.p y.p
theorem cmpInt_q (a b:Int):cmp_Compare_int.f a b=some (cmpI a b):=by
 unfold cmp_Compare_int.f cmp_isNaN_int.f cmpI
 simp only [bne_self_eq_false,Option.bind_some,if_neg (show ¬ (false=true) by simp)]
 split
 ·rfl
 ·split <;> rfl
theorem or_step (l:List Int) (i k:Nat) (hi:i<l.length) (hl:l.length≤100):cmp_Or_int.l0 (k+1) 0 l l.length i=if l[i]=0 then cmp_Or_int.l0 k 0 l l.length ((i+1:Nat):Int) else some l[i]:=by
 have hw:wrap64 ((i:Int)+1)=((i+1:Nat):Int):=wrap_in (by omega) (by omega)
 have hr:rd l (i:Int)=l[i]:=by simp [rd,List.getD,List.getElem?_eq_getElem hi]
 rw [cmp_Or_int.l0.eq_2,if_pos (by omega),if_pos (by omega),if_pos (by omega),hr,hw]
theorem or_end (l:List Int) (k:Nat):cmp_Or_int.l0 (k+1) 0 l l.length l.length=some 0:=by
 rw [cmp_Or_int.l0.eq_2,if_neg (by omega)]
theorem or_four (a b c d:Int) (k:Nat):cmp_Or_int.f (k+5) [a,b,c,d]=some (if a≠0 then a else if b≠0 then b else if c≠0 then c else d):=by
 unfold cmp_Or_int.f
 have s0:=or_step [a,b,c,d] 0 (k+4) (by simp) (by simp)
 have s1:=or_step [a,b,c,d] 1 (k+3) (by simp) (by simp)
 have s2:=or_step [a,b,c,d] 2 (k+2) (by simp) (by simp)
 have s3:=or_step [a,b,c,d] 3 (k+1) (by simp) (by simp)
 have s4:=or_end [a,b,c,d] k
 simp only [List.getElem_cons_zero,List.getElem_cons_succ] at s0 s1 s2 s3
 refine Eq.trans s0 ?_
 by_cases ha:a=0
 ·rw [if_pos ha,if_neg (by simp [ha])]
  refine Eq.trans s1 ?_
  by_cases hb:b=0
  ·rw [if_pos hb,if_neg (by simp [hb])]
   refine Eq.trans s2 ?_
   by_cases hc:c=0
   ·rw [if_pos hc,if_neg (by simp [hc])]
    refine Eq.trans s3 ?_
    by_cases hd:d=0
    ·rw [if_pos hd,hd]
     exact s4
    ·rw [if_neg hd]
   ·rw [if_neg hc,if_pos hc]
  ·rw [if_neg hb,if_pos hb]
 ·rw [if_neg ha,if_pos ha]
theorem cmp_f (x y:Vr) (hx:x.p.length≤900000) (hy:y.p.length≤900000) (k:Nat):ver_Cmp.f (k+5) x.a x.b x.c (bs x.p) y.a y.b y.c (bs y.p)=some (cmpV x y):=by
 unfold ver_Cmp.f
 have ha:ver_ahead.f (bs x.p) (bs y.p)=some (aheadI x.p y.p):=by
  unfold ver_ahead.f
  rw [size_bs,size_bs,if_pos ⟨hx,hy⟩,data_bs,data_bs]
 rw [cmpInt_q,cmpInt_q,cmpInt_q,ha]
 simp only [Option.bind_some]
 rw [or_four]
 rfl
end Go.Proofs.YtjiidlkkkednoaaGreatDoor.Q
end
