import Derived.Test.YtjiidlkkkednoaaGreatDoorZBaseg
import Derived.Test.YtjiidlkkkednoaaGreatDoorZQ3
import Derived.Test.YtjiidlkkkednoaaGreatDoorZVsg
namespace Go.Proofs.YtjiidlkkkednoaaGreatDoor.Q
open Go.RowKit Go.Proofs.YtjiidlkkkednoaaGreatDoorW.PrintWords Go.Proofs.YtjiidlkkkednoaaGreatDoorW.PrintLast Go.Proofs.YtjiidlkkkednoaaGreatDoorW.PrintMore
attribute [local go_sem] max2_int min2_int max_two min_two max_three min_three max_four min_four
set_option linter.unusedVariables false
set_option linter.unusedSimpArgs false
def ver_Cmp.f (k:Nat) (a0_0:Int) (a0_1:Int) (a0_2:Int) (a0_3:ByteArray) (a1_0:Int) (a1_1:Int) (a1_2:Int) (a1_3:ByteArray):Option (Int):=(cmp_Compare_int.f a0_0 a1_0).bind fun t106 => ((cmp_Compare_int.f a0_1 a1_1).bind fun t107 => ((cmp_Compare_int.f a0_2 a1_2).bind fun t108 => ((ver_ahead.f a0_3 a1_3).bind fun t109 => ((cmp_Or_int.f k (([t106,t107,t108,t109]:List Int))).bind fun t113 => (some t113)))))
def ver_Cmp.T1:Bool × List (List Nat × List Nat):=(true,[([],[]),([0],[0]),([],[]),([2],[2]),([1,3],[1,3]),([],[]),([5],[5]),([],[]),([7],[7]),([6,8,4],[6,8]),([],[]),([10],[10]),([],[]),([12],[12]),([11,13,9],[11,13]),([],[]),([15],[15]),([],[]),([17],[17]),([16,18,14],[16,18]),([4,9,14,19],[4,9,14,19]),([20,19],[20]),([21,21,0,1,2,3,4,5,6,7,8,9,10,11,12,13,14,15,16,17,18,19,20,21],[21])])
def ver_Cmp.B1:List Nat:=[0,1,0,4,15,0,32,0,128,511,0,1024,0,4096,16383,0,32768,0,131072,524287,1048575,2097151,4194303]
theorem ver_Cmp.tab1:rtab .any (opsOf Tryz.f77 1)=ver_Cmp.T1:=by kernel_rfl
theorem ver_Cmp.bits1:waitsOk ver_Cmp.T1.2 ver_Cmp.B1=true:=by kernel_rfl
set_option maxHeartbeats 8000000 in
set_option maxRecDepth 100000 in
theorem ver_Cmp.calls (k:Nat) (a0_0:Int) (a0_1:Int) (a0_2:Int) (a0_3:ByteArray) (a1_0:Int) (a1_1:Int) (a1_2:Int) (a1_3:ByteArray) (r:Int) (w:World) (hG:GL w) (h:ver_Cmp.f k a0_0 a0_1 a0_2 a0_3 a1_0 a1_1 a1_2 a1_3=some r) :
  Calls Tryz.prog 77 #[.agg #[.int .i64 a0_0,.int .i64 a0_1,.int .i64 a0_2,.string a0_3],.agg #[.int .i64 a1_0,.int .i64 a1_1,.int .i64 a1_2,.string a1_3]] w fun e w' => e=.returned (.int .i64 r)∧Below w.heap.size w w':=by
 have hu43:=Tryz.underlying43
 have HB:=Aside0.mk (Below.refl w.heap.size w)
 have H:((cmp_Compare_int.f a0_0 a1_0).bind fun t106 => ((cmp_Compare_int.f a0_1 a1_1).bind fun t107 => ((cmp_Compare_int.f a0_2 a1_2).bind fun t108 => ((ver_ahead.f a0_3 a1_3).bind fun t109 => ((cmp_Or_int.f k (([t106,t107,t108,t109]:List Int))).bind fun t113 => (some t113))))))=some r:=h
 clear h
 replace H:=Option.bind_eq_some_iff.mp H
 obtain ⟨t106,A30,H⟩:=H
 replace H:((cmp_Compare_int.f a0_1 a1_1).bind fun t107 => ((cmp_Compare_int.f a0_2 a1_2).bind fun t108 => ((ver_ahead.f a0_3 a1_3).bind fun t109 => ((cmp_Or_int.f k (([t106,t107,t108,t109]:List Int))).bind fun t113 => (some t113)))))=some r:=H
 have A3:=Aside0.mk A30
 clear A30
 replace H:=Option.bind_eq_some_iff.mp H
 obtain ⟨t107,A40,H⟩:=H
 replace H:((cmp_Compare_int.f a0_2 a1_2).bind fun t108 => ((ver_ahead.f a0_3 a1_3).bind fun t109 => ((cmp_Or_int.f k (([t106,t107,t108,t109]:List Int))).bind fun t113 => (some t113))))=some r:=H
 have A4:=Aside0.mk A40
 clear A40
 replace H:=Option.bind_eq_some_iff.mp H
 obtain ⟨t108,A50,H⟩:=H
 replace H:((ver_ahead.f a0_3 a1_3).bind fun t109 => ((cmp_Or_int.f k (([t106,t107,t108,t109]:List Int))).bind fun t113 => (some t113)))=some r:=H
 have A5:=Aside0.mk A50
 clear A50
 replace H:=Option.bind_eq_some_iff.mp H
 obtain ⟨t109,A60,H⟩:=H
 replace H:((cmp_Or_int.f k (([t106,t107,t108,t109]:List Int))).bind fun t113 => (some t113))=some r:=H
 have A6:=Aside0.mk A60
 clear A60
 obtain ⟨y110,hy110⟩:∃ y_:List Int,y_=(([t106,t107,t108,t109]:List Int)):=⟨_,rfl⟩
 replace H:((cmp_Or_int.f k y110).bind fun t113 => (some t113))=some r:=by first|(rw [hy110];with_reducible exact H)|(have H2_:=(Option.bind_some _ _).symm.trans H;rw [hy110];with_reducible exact H2_)|(have H2_:=(Option.bind_some _ _).symm.trans H;with_reducible exact H2_)|with_reducible exact H|(rw [hy110];exact H)|exact H
 have Ny110:=Aside0.mk hy110
 clear hy110
 replace H:=Option.bind_eq_some_iff.mp H
 obtain ⟨t113,A70,H⟩:=H
 replace H:(some t113)=some r:=H
 have A7:=Aside0.mk A70
 clear A70
 obtain rfl:=Option.some.inj H
 go_enter Tryz.func77,Tryz.ntmps77
 try go_wp2_with (first|((with_reducible refine gate_dst (N:=2) rfl ?_);refine box_event ?hg (N:=2) ?hd (cs:=#[.int .i64 a0_0,.int .i64 a0_1,.int .i64 a0_2,.string a0_3]) (t:=43) ?hr ?_;(case hd => rfl);(case hg => rfl);(case hr => first|(go_simp;done)|(go_simp;rfl));intro gb104 hg w8 hbox hb;have n0_:=Aside0.mk (below_step (by repeat (first|(with_reducible first|exact HB.out|apply below_alloc|apply pw_below_drewN|apply below_drew1)|exact HB.out)) hb);have n1_:=Aside0.mk (hbox);have n2_:=Aside0.mk ((by rw [hg];exact (below_size (by repeat (first|(with_reducible first|exact HB.out|apply below_alloc|apply pw_below_drewN|apply below_drew1)|exact HB.out))):w.heap.size≤gb104));have n3_:=Aside0.mk ((by rw [hg];exact (below_size (by repeat (first|(with_reducible first|exact HB.out|apply below_alloc|apply pw_below_drewN|apply below_drew1)|exact HB.out))):w.heap.size≤gb104));clear HB;have HB:=n0_;have BK104:=n1_;have GW104:=n2_;have GE104:=n3_;clear n0_ n1_ n2_ n3_;clear hb hbox hg)|((with_reducible refine gate_dst (N:=3) rfl ?_);refine box_event ?hg (N:=3) ?hd (cs:=#[.int .i64 a1_0,.int .i64 a1_1,.int .i64 a1_2,.string a1_3]) (t:=43) ?hr ?_;(case hd => rfl);(case hg => rfl);(case hr => first|(go_simp;done)|(go_simp;rfl));intro gb105 hg w9 hbox hb;have n0_:=Aside0.mk (blk_below (g:=gb104) (o:=.cells #[.int .i64 a0_0,.int .i64 a0_1,.int .i64 a0_2,.string a0_3] 43 (0,0)) (by (with_reducible repeat (first|refine blk_drewN ?_ _|refine blk_drew ?_|refine blk_alloc ?_ _));exact BK104.out) hb);have n1_:=Aside0.mk (below_step (by repeat (first|(with_reducible first|exact HB.out|apply below_alloc|apply pw_below_drewN|apply below_drew1|refine below_set ?_ GE104.out)|exact HB.out)) hb);have n2_:=Aside0.mk (hbox);have n3_:=Aside0.mk ((by rw [hg];exact (below_size (by repeat (first|(with_reducible first|exact HB.out|apply below_alloc|apply pw_below_drewN|apply below_drew1|refine below_set ?_ GE104.out)|exact HB.out))):w.heap.size≤gb105));have n4_:=Aside0.mk ((by rw [hg];exact (below_size (by repeat (first|(with_reducible first|exact HB.out|apply below_alloc|apply pw_below_drewN|apply below_drew1|refine below_set ?_ GE104.out)|exact HB.out))):w.heap.size≤gb105));have n5_:=Aside0.mk ((by rw [hg];exact Nat.ne_of_lt (blk_lt (g:=gb104) (o:=.cells #[.int .i64 a0_0,.int .i64 a0_1,.int .i64 a0_2,.string a0_3] 43 (0,0)) (by (with_reducible repeat (first|refine blk_drewN ?_ _|refine blk_drew ?_|refine blk_alloc ?_ _));exact BK104.out)):gb104≠gb105));have n6_:=Aside0.mk ((by rw [hg];exact Nat.ne_of_gt (blk_lt (g:=gb104) (o:=.cells #[.int .i64 a0_0,.int .i64 a0_1,.int .i64 a0_2,.string a0_3] 43 (0,0)) (by (with_reducible repeat (first|refine blk_drewN ?_ _|refine blk_drew ?_|refine blk_alloc ?_ _));exact BK104.out)):gb105≠gb104));clear BK104;clear HB;have BK104:=n0_;have HB:=n1_;have BK105:=n2_;have GW105:=n3_;have GE105:=n4_;have NB104_105:=n5_;have NB105_104:=n6_;clear n0_ n1_ n2_ n3_ n4_ n5_ n6_;clear hb hbox hg))
 have n0_:=Aside0.mk (blk_drew BK104.out)
 have n1_:=Aside0.mk (blk_drew BK105.out)
 have n2_:=Aside0.mk (below_drew1 HB.out)
 clear BK104
 clear BK105
 clear HB
 have BK104:=n0_
 have BK105:=n1_
 have HB:=n2_
 clear n0_ n1_ n2_
 refine start_ (n:=23) (S:=fun w' => w'.cell? ⟨gb104,0,none⟩=some (.int .i64 a0_0)∧w'.cell? ⟨gb104,1,none⟩=some (.int .i64 a0_1)∧w'.cell? ⟨gb104,2,none⟩=some (.int .i64 a0_2)∧w'.cell? ⟨gb104,3,none⟩=some (.string a0_3)∧w'.cell? ⟨gb105,0,none⟩=some (.int .i64 a1_0)∧w'.cell? ⟨gb105,1,none⟩=some (.int .i64 a1_1)∧w'.cell? ⟨gb105,2,none⟩=some (.int .i64 a1_2)∧w'.cell? ⟨gb105,3,none⟩=some (.string a1_3)) (ds:=[]) #[false,false,false,false,false,false,false,false,false,false,false,false,false,false,false,false,false,false,false,false,false,false,false] (by kernel_rfl) rfl rfl ⟨(blk_cell BK104.out 0).trans rfl,(blk_cell BK104.out 1).trans rfl,(blk_cell BK104.out 2).trans rfl,(blk_cell BK104.out 3).trans rfl,(blk_cell BK105.out 0).trans rfl,(blk_cell BK105.out 1).trans rfl,(blk_cell BK105.out 2).trans rfl,(blk_cell BK105.out 3).trans rfl⟩ (fun hHeld => ?_);refine with_tabW ver_Cmp.tab1 ver_Cmp.bits1 (fun HT_ HW_ => ?_)
 generalize w9.drew=w10 at BK104 BK105 HB hHeld ⊢
 refine pure_ (i:=0) (N:=some 5) (v:=?_) (a':=?_) #[true,false,false,false,false,false,false,false,false,false,false,false,false,false,false,false,false,false,false,false,false,false,false] rfl rfl (any_of HT_.out (by kernel_rfl)) (fun _ _ _ h => h) (Or.inl ⟨by rfl,?_⟩) ?_ ?_
 rotate_left
 ·intro w'
  go_simp
  with_reducible rfl
 rotate_left
 ·simp only [Act.put,List.setIfInBounds_toArray,List.set_cons_zero,List.set_cons_succ,i64_w,i32_w]
  rfl
 refine pure_ (i:=2) (N:=some 7) (v:=?_) (a':=?_) #[true,false,true,false,false,false,false,false,false,false,false,false,false,false,false,false,false,false,false,false,false,false,false] rfl rfl (any_of HT_.out (by kernel_rfl)) (fun _ _ _ h => h) (Or.inl ⟨by rfl,?_⟩) ?_ ?_
 rotate_left
 ·intro w'
  go_simp
  with_reducible rfl
 rotate_left
 ·simp only [Act.put,List.setIfInBounds_toArray,List.set_cons_zero,List.set_cons_succ,i64_w,i32_w]
  rfl
 refine pure_ (i:=5) (N:=some 10) (v:=?_) (a':=?_) #[true,false,true,false,false,true,false,false,false,false,false,false,false,false,false,false,false,false,false,false,false,false,false] rfl rfl (any_of HT_.out (by kernel_rfl)) (fun _ _ _ h => h) (Or.inl ⟨by rfl,?_⟩) ?_ ?_
 rotate_left
 ·intro w'
  go_simp
  with_reducible rfl
 rotate_left
 ·simp only [Act.put,List.setIfInBounds_toArray,List.set_cons_zero,List.set_cons_succ,i64_w,i32_w]
  rfl
 refine pure_ (i:=7) (N:=some 12) (v:=?_) (a':=?_) #[true,false,true,false,false,true,false,true,false,false,false,false,false,false,false,false,false,false,false,false,false,false,false] rfl rfl (any_of HT_.out (by kernel_rfl)) (fun _ _ _ h => h) (Or.inl ⟨by rfl,?_⟩) ?_ ?_
 rotate_left
 ·intro w'
  go_simp
  with_reducible rfl
 rotate_left
 ·simp only [Act.put,List.setIfInBounds_toArray,List.set_cons_zero,List.set_cons_succ,i64_w,i32_w]
  rfl
 refine pure_ (i:=10) (N:=some 15) (v:=?_) (a':=?_) #[true,false,true,false,false,true,false,true,false,false,true,false,false,false,false,false,false,false,false,false,false,false,false] rfl rfl (any_of HT_.out (by kernel_rfl)) (fun _ _ _ h => h) (Or.inl ⟨by rfl,?_⟩) ?_ ?_
 rotate_left
 ·intro w'
  go_simp
  with_reducible rfl
 rotate_left
 ·simp only [Act.put,List.setIfInBounds_toArray,List.set_cons_zero,List.set_cons_succ,i64_w,i32_w]
  rfl
 refine pure_ (i:=12) (N:=some 17) (v:=?_) (a':=?_) #[true,false,true,false,false,true,false,true,false,false,true,false,true,false,false,false,false,false,false,false,false,false,false] rfl rfl (any_of HT_.out (by kernel_rfl)) (fun _ _ _ h => h) (Or.inl ⟨by rfl,?_⟩) ?_ ?_
 rotate_left
 ·intro w'
  go_simp
  with_reducible rfl
 rotate_left
 ·simp only [Act.put,List.setIfInBounds_toArray,List.set_cons_zero,List.set_cons_succ,i64_w,i32_w]
  rfl
 refine pure_ (i:=15) (N:=some 20) (v:=?_) (a':=?_) #[true,false,true,false,false,true,false,true,false,false,true,false,true,false,false,true,false,false,false,false,false,false,false] rfl rfl (any_of HT_.out (by kernel_rfl)) (fun _ _ _ h => h) (Or.inl ⟨by rfl,?_⟩) ?_ ?_
 rotate_left
 ·intro w'
  go_simp
  with_reducible rfl
 rotate_left
 ·simp only [Act.put,List.setIfInBounds_toArray,List.set_cons_zero,List.set_cons_succ,i64_w,i32_w]
  rfl
 refine pure_ (i:=17) (N:=some 22) (v:=?_) (a':=?_) #[true,false,true,false,false,true,false,true,false,false,true,false,true,false,false,true,false,true,false,false,false,false,false] rfl rfl (any_of HT_.out (by kernel_rfl)) (fun _ _ _ h => h) (Or.inl ⟨by rfl,?_⟩) ?_ ?_
 rotate_left
 ·intro w'
  go_simp
  with_reducible rfl
 rotate_left
 ·simp only [Act.put,List.setIfInBounds_toArray,List.set_cons_zero,List.set_cons_succ,i64_w,i32_w]
  rfl
 refine take_ (i:=1) (N:=some 6) (v:=?_) (a':=?_) #[true,true,true,false,false,true,false,true,false,false,true,false,true,false,false,true,false,true,false,false,false,false,false] rfl rfl (take_ofW HT_.out HW_.out (by kernel_rfl)) (fun _ _ _ h => h) (Or.inl ⟨by rfl,?_⟩) hHeld ?_ ?_
 rotate_left
 ·rintro w' ⟨s0,s1,s2,s3,s4,s5,s6,s7⟩
  go_simp
  with_reducible rfl
 rotate_left
 ·simp only [Act.put,List.setIfInBounds_toArray,List.set_cons_zero,List.set_cons_succ,i64_w,i32_w]
  rfl
 refine take_ (i:=3) (N:=some 8) (v:=?_) (a':=?_) #[true,true,true,true,false,true,false,true,false,false,true,false,true,false,false,true,false,true,false,false,false,false,false] rfl rfl (take_ofW HT_.out HW_.out (by kernel_rfl)) (fun _ _ _ h => h) (Or.inl ⟨by rfl,?_⟩) hHeld ?_ ?_
 rotate_left
 ·rintro w' ⟨s0,s1,s2,s3,s4,s5,s6,s7⟩
  go_simp
  with_reducible rfl
 rotate_left
 ·simp only [Act.put,List.setIfInBounds_toArray,List.set_cons_zero,List.set_cons_succ,i64_w,i32_w]
  rfl
 refine take_ (i:=6) (N:=some 11) (v:=?_) (a':=?_) #[true,true,true,true,false,true,true,true,false,false,true,false,true,false,false,true,false,true,false,false,false,false,false] rfl rfl (take_ofW HT_.out HW_.out (by kernel_rfl)) (fun _ _ _ h => h) (Or.inl ⟨by rfl,?_⟩) hHeld ?_ ?_
 rotate_left
 ·rintro w' ⟨s0,s1,s2,s3,s4,s5,s6,s7⟩
  go_simp
  with_reducible rfl
 rotate_left
 ·simp only [Act.put,List.setIfInBounds_toArray,List.set_cons_zero,List.set_cons_succ,i64_w,i32_w]
  rfl
 refine take_ (i:=8) (N:=some 13) (v:=?_) (a':=?_) #[true,true,true,true,false,true,true,true,true,false,true,false,true,false,false,true,false,true,false,false,false,false,false] rfl rfl (take_ofW HT_.out HW_.out (by kernel_rfl)) (fun _ _ _ h => h) (Or.inl ⟨by rfl,?_⟩) hHeld ?_ ?_
 rotate_left
 ·rintro w' ⟨s0,s1,s2,s3,s4,s5,s6,s7⟩
  go_simp
  with_reducible rfl
 rotate_left
 ·simp only [Act.put,List.setIfInBounds_toArray,List.set_cons_zero,List.set_cons_succ,i64_w,i32_w]
  rfl
 refine take_ (i:=11) (N:=some 16) (v:=?_) (a':=?_) #[true,true,true,true,false,true,true,true,true,false,true,true,true,false,false,true,false,true,false,false,false,false,false] rfl rfl (take_ofW HT_.out HW_.out (by kernel_rfl)) (fun _ _ _ h => h) (Or.inl ⟨by rfl,?_⟩) hHeld ?_ ?_
 rotate_left
 ·rintro w' ⟨s0,s1,s2,s3,s4,s5,s6,s7⟩
  go_simp
  with_reducible rfl
 rotate_left
 ·simp only [Act.put,List.setIfInBounds_toArray,List.set_cons_zero,List.set_cons_succ,i64_w,i32_w]
  rfl
 refine take_ (i:=13) (N:=some 18) (v:=?_) (a':=?_) #[true,true,true,true,false,true,true,true,true,false,true,true,true,true,false,true,false,true,false,false,false,false,false] rfl rfl (take_ofW HT_.out HW_.out (by kernel_rfl)) (fun _ _ _ h => h) (Or.inl ⟨by rfl,?_⟩) hHeld ?_ ?_
 rotate_left
 ·rintro w' ⟨s0,s1,s2,s3,s4,s5,s6,s7⟩
  go_simp
  with_reducible rfl
 rotate_left
 ·simp only [Act.put,List.setIfInBounds_toArray,List.set_cons_zero,List.set_cons_succ,i64_w,i32_w]
  rfl
 refine take_ (i:=16) (N:=some 21) (v:=?_) (a':=?_) #[true,true,true,true,false,true,true,true,true,false,true,true,true,true,false,true,true,true,false,false,false,false,false] rfl rfl (take_ofW HT_.out HW_.out (by kernel_rfl)) (fun _ _ _ h => h) (Or.inl ⟨by rfl,?_⟩) hHeld ?_ ?_
 rotate_left
 ·rintro w' ⟨s0,s1,s2,s3,s4,s5,s6,s7⟩
  go_simp
  with_reducible rfl
 rotate_left
 ·simp only [Act.put,List.setIfInBounds_toArray,List.set_cons_zero,List.set_cons_succ,i64_w,i32_w]
  rfl
 refine take_ (i:=18) (N:=some 23) (v:=?_) (a':=?_) #[true,true,true,true,false,true,true,true,true,false,true,true,true,true,false,true,true,true,true,false,false,false,false] rfl rfl (take_ofW HT_.out HW_.out (by kernel_rfl)) (fun _ _ _ h => h) (Or.inl ⟨by rfl,?_⟩) hHeld ?_ ?_
 rotate_left
 ·rintro w' ⟨s0,s1,s2,s3,s4,s5,s6,s7⟩
  go_simp
  with_reducible rfl
 rotate_left
 ·simp only [Act.put,List.setIfInBounds_toArray,List.set_cons_zero,List.set_cons_succ,i64_w,i32_w]
  rfl
 refine one_ (i:=4) (N:=some 9) #[true,true,true,true,true,true,true,true,true,false,true,true,true,true,false,true,true,true,true,false,false,false,false] rfl rfl (one_of HT_.out (by kernel_rfl)) (by decide) (fun K hK => ?_)
 refine goes_ Tryz.func116 (by kernel_rfl) rfl #[.int .i64 a0_0,.int .i64 a1_0] (by rfl) rfl rfl (by (try simp only [List.map_toArray,List.map_cons,List.map_nil]);first|done|rfl|(simp only [List.length_drop,List.length_take];rfl)) ?_
 with_reducible refine (cmp_Compare_int.calls a0_0 a1_0 t106 _ A3.out).mono ?_
 rintro e w' ⟨rfl,⟨nd,rfl⟩⟩
 refine ⟨_,rfl,?_⟩
 refine hK.out _ _ ⟨(blk_cell BK104.out 0).trans rfl,(blk_cell BK104.out 1).trans rfl,(blk_cell BK104.out 2).trans rfl,(blk_cell BK104.out 3).trans rfl,(blk_cell BK105.out 0).trans rfl,(blk_cell BK105.out 1).trans rfl,(blk_cell BK105.out 2).trans rfl,(blk_cell BK105.out 3).trans rfl⟩ (fun hHeld => ?_)
 clear hK K
 refine norm_ (a':=?_) ?_ ?_
 rotate_left
 ·show Act.put _ (some 9) _=_
  simp only [Act.put,List.setIfInBounds_toArray,List.set_cons_zero,List.set_cons_succ,i64_w,i32_w]
  rfl
 refine one_ (i:=9) (N:=some 14) #[true,true,true,true,true,true,true,true,true,true,true,true,true,true,false,true,true,true,true,false,false,false,false] rfl rfl (one_of HT_.out (by kernel_rfl)) (by decide) (fun K hK => ?_)
 refine goes_ Tryz.func116 (by kernel_rfl) rfl #[.int .i64 a0_1,.int .i64 a1_1] (by rfl) rfl rfl (by (try simp only [List.map_toArray,List.map_cons,List.map_nil]);first|done|rfl|(simp only [List.length_drop,List.length_take];rfl)) ?_
 with_reducible refine (cmp_Compare_int.calls a0_1 a1_1 t107 _ A4.out).mono ?_
 rintro e w' ⟨rfl,⟨nd,rfl⟩⟩
 refine ⟨_,rfl,?_⟩
 refine hK.out _ _ ⟨(blk_cell BK104.out 0).trans rfl,(blk_cell BK104.out 1).trans rfl,(blk_cell BK104.out 2).trans rfl,(blk_cell BK104.out 3).trans rfl,(blk_cell BK105.out 0).trans rfl,(blk_cell BK105.out 1).trans rfl,(blk_cell BK105.out 2).trans rfl,(blk_cell BK105.out 3).trans rfl⟩ (fun hHeld => ?_)
 clear hK K
 refine norm_ (a':=?_) ?_ ?_
 rotate_left
 ·show Act.put _ (some 14) _=_
  simp only [Act.put,List.setIfInBounds_toArray,List.set_cons_zero,List.set_cons_succ,i64_w,i32_w]
  rfl
 refine one_ (i:=14) (N:=some 19) #[true,true,true,true,true,true,true,true,true,true,true,true,true,true,true,true,true,true,true,false,false,false,false] rfl rfl (one_of HT_.out (by kernel_rfl)) (by decide) (fun K hK => ?_)
 refine goes_ Tryz.func116 (by kernel_rfl) rfl #[.int .i64 a0_2,.int .i64 a1_2] (by rfl) rfl rfl (by (try simp only [List.map_toArray,List.map_cons,List.map_nil]);first|done|rfl|(simp only [List.length_drop,List.length_take];rfl)) ?_
 with_reducible refine (cmp_Compare_int.calls a0_2 a1_2 t108 _ A5.out).mono ?_
 rintro e w' ⟨rfl,⟨nd,rfl⟩⟩
 refine ⟨_,rfl,?_⟩
 refine hK.out _ _ ⟨(blk_cell BK104.out 0).trans rfl,(blk_cell BK104.out 1).trans rfl,(blk_cell BK104.out 2).trans rfl,(blk_cell BK104.out 3).trans rfl,(blk_cell BK105.out 0).trans rfl,(blk_cell BK105.out 1).trans rfl,(blk_cell BK105.out 2).trans rfl,(blk_cell BK105.out 3).trans rfl⟩ (fun hHeld => ?_)
 clear hK K
 refine norm_ (a':=?_) ?_ ?_
 rotate_left
 ·show Act.put _ (some 19) _=_
  simp only [Act.put,List.setIfInBounds_toArray,List.set_cons_zero,List.set_cons_succ,i64_w,i32_w]
  rfl
 refine one_ (i:=19) (N:=some 24) #[true,true,true,true,true,true,true,true,true,true,true,true,true,true,true,true,true,true,true,true,false,false,false] rfl rfl (one_of HT_.out (by kernel_rfl)) (by decide) (fun K hK => ?_)
 refine goes_ Tryz.func117 (by kernel_rfl) rfl #[.string a0_3,.string a1_3] (by rfl) rfl rfl (by (try simp only [List.map_toArray,List.map_cons,List.map_nil]);first|done|rfl|(simp only [List.length_drop,List.length_take];rfl)) ?_
 with_reducible refine (ver_ahead.calls a0_3 a1_3 t109 _ ?side1 A6.out).mono ?_
 (case side1 => exact GL.below0 hG (by repeat (first|(with_reducible first|exact HB.out|apply below_alloc|apply pw_below_drewN|apply below_drew1|refine below_set ?_ GE104.out|refine below_set ?_ GE105.out)|exact HB.out)))
 rintro e w11 ⟨rfl,hb⟩
 refine ⟨_,rfl,?_⟩
 have n0_:=Aside0.mk (blk_below (g:=gb104) (o:=.cells #[.int .i64 a0_0,.int .i64 a0_1,.int .i64 a0_2,.string a0_3] 43 (0,0)) (by (with_reducible repeat (first|refine blk_drewN ?_ _|refine blk_drew ?_|refine blk_alloc ?_ _));exact BK104.out) hb)
 have n1_:=Aside0.mk (blk_below (g:=gb105) (o:=.cells #[.int .i64 a1_0,.int .i64 a1_1,.int .i64 a1_2,.string a1_3] 43 (0,0)) (by (with_reducible repeat (first|refine blk_drewN ?_ _|refine blk_drew ?_|refine blk_alloc ?_ _));exact BK105.out) hb)
 have n2_:=Aside0.mk (below_step (by repeat (first|(with_reducible first|exact HB.out|apply below_alloc|apply pw_below_drewN|apply below_drew1|refine below_set ?_ GE104.out|refine below_set ?_ GE105.out)|exact HB.out)) hb)
 clear BK104
 clear BK105
 clear HB
 have BK104:=n0_
 have BK105:=n1_
 have HB:=n2_
 clear n0_ n1_ n2_
 (try clear hb)
 (try clear hb2)
 (try clear hk)
 (try clear hi)
 refine hK.out _ _ ⟨(blk_cell BK104.out 0).trans rfl,(blk_cell BK104.out 1).trans rfl,(blk_cell BK104.out 2).trans rfl,(blk_cell BK104.out 3).trans rfl,(blk_cell BK105.out 0).trans rfl,(blk_cell BK105.out 1).trans rfl,(blk_cell BK105.out 2).trans rfl,(blk_cell BK105.out 3).trans rfl⟩ (fun hHeld => ?_)
 clear hK K
 refine norm_ (a':=?_) ?_ ?_
 rotate_left
 ·show Act.put _ (some 24) _=_
  simp only [Act.put,List.setIfInBounds_toArray,List.set_cons_zero,List.set_cons_succ,i64_w,i32_w]
  rfl
 refine one_ (i:=20) (N:=some 25) #[true,true,true,true,true,true,true,true,true,true,true,true,true,true,true,true,true,true,true,true,true,false,false] rfl rfl (one_of HT_.out (by kernel_rfl)) (by decide) (fun K hK => ?_)
 refine Kd.R_lit_step (Kd.int .i64) _ 3 ?hg (N:=25) ?hd (xs:=([t106,t107,t108,t109]:List Int)) (inner:=[.int .i64 t106,.int .i64 t107,.int .i64 t108,.int .i64 t109]) (ok:=fun _ => True) (okp:=fun _ => True) ?hr ?hp (fun _ hk => hk) trivial (Below.refl _ _) (Nat.le_refl _) (by simp) ?_;(case hd => rfl);(case hg => rfl);(case hr => first|(go_simp;done)|(go_simp;rfl));(case hp => exact (Reps.one (show Kd.M (Kd.int .i64) _ _ _ t106 [.int .i64 t106] from rfl) (Reps.one (show Kd.M (Kd.int .i64) _ _ _ t107 [.int .i64 t107] from rfl) (Reps.one (show Kd.M (Kd.int .i64) _ _ _ t108 [.int .i64 t108] from rfl) (Reps.one (show Kd.M (Kd.int .i64) _ _ _ t109 [.int .i64 t109] from rfl) (Reps.none _ _))))))
 intro v111 w12 ho13 hb hg_ hnew_
 clear hg_ hnew_
 (first|rw [← Ny110.out] at ho13|(simp only [Int.reduceToNat] at ho13;rw [← Ny110.out] at ho13))
 have n0_:=Aside0.mk (Kd.R_lower ho13 (below_size (by repeat (first|(with_reducible first|exact HB.out|apply below_alloc|apply pw_below_drewN|apply below_drew1|refine below_set ?_ GE104.out|refine below_set ?_ GE105.out)|exact HB.out))))
 have n1_:=Aside0.mk (blk_below (g:=gb104) (o:=.cells #[.int .i64 a0_0,.int .i64 a0_1,.int .i64 a0_2,.string a0_3] 43 (0,0)) (by (with_reducible repeat (first|refine blk_drewN ?_ _|refine blk_drew ?_|refine blk_alloc ?_ _));exact BK104.out) hb)
 have n2_:=Aside0.mk (blk_below (g:=gb105) (o:=.cells #[.int .i64 a1_0,.int .i64 a1_1,.int .i64 a1_2,.string a1_3] 43 (0,0)) (by (with_reducible repeat (first|refine blk_drewN ?_ _|refine blk_drew ?_|refine blk_alloc ?_ _));exact BK105.out) hb)
 have n3_:=Aside0.mk (below_step (by repeat (first|(with_reducible first|exact HB.out|apply below_alloc|apply pw_below_drewN|apply below_drew1|refine below_set ?_ GE104.out|refine below_set ?_ GE105.out)|exact HB.out)) hb)
 clear BK104
 clear BK105
 clear HB
 have HO112:=n0_
 have BK104:=n1_
 have BK105:=n2_
 have HB:=n3_
 clear n0_ n1_ n2_ n3_
 clear hb ho13
 obtain ⟨Ao14,co14,eo14⟩:=Kd.R_slice HO112.out
 (first|subst eo14|(injection eo14 with f1_ f2_ f3_;have f4_:=f1_.symm;have f5_:=f3_.symm;clear f1_ f2_ f3_;subst f4_;subst f5_))
 refine hK.out _ _ ⟨(blk_cell BK104.out 0).trans rfl,(blk_cell BK104.out 1).trans rfl,(blk_cell BK104.out 2).trans rfl,(blk_cell BK104.out 3).trans rfl,(blk_cell BK105.out 0).trans rfl,(blk_cell BK105.out 1).trans rfl,(blk_cell BK105.out 2).trans rfl,(blk_cell BK105.out 3).trans rfl⟩ (fun hHeld => ?_)
 clear hK K
 refine norm_ (a':=?_) ?_ ?_
 rotate_left
 ·show Act.put _ (some 25) _=_
  simp only [Act.put,List.setIfInBounds_toArray,List.set_cons_zero,List.set_cons_succ,i64_w,i32_w]
  rfl
 refine one_ (i:=21) (N:=some 26) #[true,true,true,true,true,true,true,true,true,true,true,true,true,true,true,true,true,true,true,true,true,true,false] rfl rfl (one_of HT_.out (by kernel_rfl)) (by decide) (fun K hK => ?_)
 refine goes_ Tryz.func115 (by kernel_rfl) rfl #[.slice Ao14 y110.length co14] (by rfl) rfl rfl (by (try simp only [List.map_toArray,List.map_cons,List.map_nil]);first|done|rfl|(simp only [List.length_drop,List.length_take];rfl)) ?_
 with_reducible refine (cmp_Or_int.calls k _ _ y110 t113 _ ?side1 ?side2 A7.out).mono ?_
 (case side1 => repeat (first|exact (Kd.R_reads' HO112.out).2.2|(with_reducible refine Kd.C_alloc ?_ _)|(with_reducible refine Kd.C_drewN ?_ _)|(with_reducible refine Kd.C_drew ?_)))
 (case side2 => exact (Kd.R_reads' HO112.out).2.1)
 rintro e w' ⟨rfl,⟨nd,rfl⟩⟩
 refine ⟨_,rfl,?_⟩
 refine hK.out _ _ ⟨(blk_cell BK104.out 0).trans rfl,(blk_cell BK104.out 1).trans rfl,(blk_cell BK104.out 2).trans rfl,(blk_cell BK104.out 3).trans rfl,(blk_cell BK105.out 0).trans rfl,(blk_cell BK105.out 1).trans rfl,(blk_cell BK105.out 2).trans rfl,(blk_cell BK105.out 3).trans rfl⟩ (fun hHeld => ?_)
 clear hK K
 refine norm_ (a':=?_) ?_ ?_
 rotate_left
 ·show Act.put _ (some 26) _=_
  simp only [Act.put,List.setIfInBounds_toArray,List.set_cons_zero,List.set_cons_succ,i64_w,i32_w]
  rfl
 refine pure_ (i:=22) (N:=some 4) (v:=?_) (a':=?_) #[true,true,true,true,true,true,true,true,true,true,true,true,true,true,true,true,true,true,true,true,true,true,true] rfl rfl (any_of HT_.out (by kernel_rfl)) (fun _ _ _ h => h) (Or.inl ⟨by rfl,?_⟩) ?_ ?_
 rotate_left
 ·intro w'
  go_simp
  with_reducible rfl
 rotate_left
 ·simp only [Act.put,List.setIfInBounds_toArray,List.set_cons_zero,List.set_cons_succ,i64_w,i32_w]
  rfl
 refine done_ (done_of HT_.out (by kernel_rfl)) ?_
 try go_wp2
 go_ret
 exact ⟨by first|rfl|(simp [errW_none,errW_some] <;> rfl)|(simp [*,errW_none,errW_some] <;> rfl),by repeat (first|(with_reducible first|exact HB.out|apply below_alloc|apply pw_below_drewN|apply below_drew1|refine below_set ?_ GE104.out|refine below_set ?_ GE105.out)|exact HB.out)⟩
end Go.Proofs.YtjiidlkkkednoaaGreatDoor.Q
