import Derived.Test.YtjiidlkkkednoaaGreatDoorZBaseg
import Derived.Test.YtjiidlkkkednoaaGreatDoorZVrg
namespace Go.Proofs.YtjiidlkkkednoaaGreatDoor.Q
open Go.RowKit Go.Proofs.YtjiidlkkkednoaaGreatDoorW.PrintWords Go.Proofs.YtjiidlkkkednoaaGreatDoorW.PrintLast Go.Proofs.YtjiidlkkkednoaaGreatDoorW.PrintMore
attribute [local go_sem] max2_int min2_int max_two min_two max_three min_three max_four min_four
set_option linter.unusedVariables false
set_option linter.unusedSimpArgs false
mutual
def transhumanceref2_Cmp.l0:Nat→List Int→Int→Int→Int→Int→ByteArray→Int→Int→Int→ByteArray→Option (Int)
 | 0,_,_,_,_,_,_,_,_,_,_ => none
 | k+1,x5,x6,x243000,x243001,x243002,x243003,x244000,x244001,x244002,x244003 => if x6<3 then (if 0≤x6 then (if x6<(x5.length:Int) then (if (rd x5 x6)=0 then (transhumanceref2_Cmp.l0 k x5 (wrap64 (x6+1)) x243000 x243001 x243002 x243003 x244000 x244001 x244002 x244003) else (some (rd x5 x6))) else (none)) else (none)) else (if x243003.toList=([]:List UInt8) then (transhumanceref2_Cmp.j1 k true x243000 x243001 x243002 x243003 x244000 x244001 x244002 x244003) else (transhumanceref2_Cmp.j1 k (x244003.toList == ([]:List UInt8)) x243000 x243001 x243002 x243003 x244000 x244001 x244002 x244003))
def transhumanceref2_Cmp.j1:Nat→Bool→Int→Int→Int→ByteArray→Int→Int→Int→ByteArray→Option (Int)
 | 0,_,_,_,_,_,_,_,_,_ => none
 | k+1,x47,x243000,x243001,x243002,x243003,x244000,x244001,x244002,x244003 => if x47=true then ((transhumanceref2_sign.f (x244003.size:Int) (x243003.size:Int)).bind fun t252 => (some (wrap64 (t252 * (mn 1 (wrap64 ((x243003.size:Int)+(x244003.size:Int)))))))) else ((transhumanceref2_words.f k x243003).bind fun t253 => ((transhumanceref2_words.f k x244003).bind fun t256 => (transhumanceref2_Cmp.l1 k t253 t256 0)))
def transhumanceref2_Cmp.l1:Nat→List ByteArray→List ByteArray→Int→Option (Int)
 | 0,_,_,_ => none
 | k+1,x7,x8,x9 => if x9<(x7.length:Int) then (transhumanceref2_Cmp.j3 k x7 x8 x9 (decide (x9<(x8.length:Int)))) else (transhumanceref2_Cmp.j3 k x7 x8 x9 false)
def transhumanceref2_Cmp.j3:Nat→List ByteArray→List ByteArray→Int→Bool→Option (Int)
 | 0,_,_,_,_ => none
 | k+1,x7,x8,x9,x79 => if x79=true then (if 0≤x9 then (if x9<(x7.length:Int) then (if x9<(x8.length:Int) then ((transhumanceref2_order.f (rdOf ByteArray.empty x7 x9) (rdOf ByteArray.empty x8 x9)).bind fun t261 => (if t261=0 then (transhumanceref2_Cmp.l1 k x7 x8 (wrap64 (x9+1))) else (some t261))) else (none)) else (none)) else (none)) else ((transhumanceref2_sign.f (x7.length:Int) (x8.length:Int)).bind fun t262 => (some t262))
end
def transhumanceref2_Cmp.f (k:Nat) (a0_0:Int) (a0_1:Int) (a0_2:Int) (a0_3:ByteArray) (a1_0:Int) (a1_1:Int) (a1_2:Int) (a1_3:ByteArray):Option (Int):=(transhumanceref2_sign.f a0_0 a1_0).bind fun t244 => ((transhumanceref2_sign.f a0_1 a1_1).bind fun t245 => ((transhumanceref2_sign.f a0_2 a1_2).bind fun t246 => (transhumanceref2_Cmp.l0 k (([t244,t245,t246]:List Int)) 0 a0_0 a0_1 a0_2 a0_3 a1_0 a1_1 a1_2 a1_3)))
def transhumanceref2_Cmp.T1:Bool × List (List Nat × List Nat):=(true,[([],[]),([0],[0]),([],[]),([2],[2]),([1,3],[1,3]),([],[]),([5],[5]),([],[]),([7],[7]),([6,8,4],[6,8]),([],[]),([10],[10]),([],[]),([12],[12]),([11,13,9],[11,13]),([4,9,14],[4,9,14]),([15,14,0,1,2,3,4,5,6,7,8,9,10,11,12,13,14,15],[15])])
def transhumanceref2_Cmp.B1:List Nat:=[0,1,0,4,15,0,32,0,128,511,0,1024,0,4096,16383,32767,65535]
theorem transhumanceref2_Cmp.tab1:rtab .any (opsOf Tryz.f25 1)=transhumanceref2_Cmp.T1:=by kernel_rfl
theorem transhumanceref2_Cmp.bits1:waitsOk transhumanceref2_Cmp.T1.2 transhumanceref2_Cmp.B1=true:=by kernel_rfl
def transhumanceref2_Cmp.T8:Bool × List (List Nat × List Nat):=(true,[([],[]),([0],[0]),([1],[1]),([],[]),([3],[3]),([4],[4]),([2,5],[2,5]),([],[]),([7],[7]),([8],[8]),([],[]),([10],[10]),([11],[11]),([9,12],[9,12]),([13],[13]),([6,14],[6,14]),([15,6,0,1,2,3,4,5,6,7,8,9,10,11,12,13,14,15],[15])])
def transhumanceref2_Cmp.B8:List Nat:=[0,1,3,0,8,24,63,0,128,384,0,1024,3072,8064,16256,32767,65535]
theorem transhumanceref2_Cmp.tab8:rtab .any (opsOf Tryz.f25 8)=transhumanceref2_Cmp.T8:=by kernel_rfl
theorem transhumanceref2_Cmp.bits8:waitsOk transhumanceref2_Cmp.T8.2 transhumanceref2_Cmp.B8=true:=by kernel_rfl
def transhumanceref2_Cmp.T9:Bool × List (List Nat × List Nat):=(true,[([],[]),([0],[0]),([1],[1]),([],[]),([3],[3]),([4,2],[4]),([2,5,0,1,2],[2]),([5,6,0,1,2,3,4,5,6],[5])])
def transhumanceref2_Cmp.B9:List Nat:=[0,1,3,0,8,31,63,127]
theorem transhumanceref2_Cmp.tab9:rtab .any (opsOf Tryz.f25 9)=transhumanceref2_Cmp.T9:=by kernel_rfl
theorem transhumanceref2_Cmp.bits9:waitsOk transhumanceref2_Cmp.T9.2 transhumanceref2_Cmp.B9=true:=by kernel_rfl
def transhumanceref2_Cmp.T13:Bool × List (List Nat × List Nat):=(true,[([],[]),([],[]),([0,1],[0,1]),([2],[2]),([],[]),([],[]),([4,5],[4,5]),([6],[6]),([3,7],[3,7]),([8,8,0,1,2,3,4,5,6,7,8],[8])])
def transhumanceref2_Cmp.B13:List Nat:=[0,0,3,7,0,0,48,112,255,511]
theorem transhumanceref2_Cmp.tab13:rtab .any (opsOf Tryz.f25 13)=transhumanceref2_Cmp.T13:=by kernel_rfl
theorem transhumanceref2_Cmp.bits13:waitsOk transhumanceref2_Cmp.T13.2 transhumanceref2_Cmp.B13=true:=by kernel_rfl
set_option maxHeartbeats 8000000 in
set_option maxRecDepth 100000 in
theorem transhumanceref2_Cmp.calls (k:Nat) (a0_0:Int) (a0_1:Int) (a0_2:Int) (a0_3:ByteArray) (a1_0:Int) (a1_1:Int) (a1_2:Int) (a1_3:ByteArray) (r:Int) (w:World) (h:transhumanceref2_Cmp.f k a0_0 a0_1 a0_2 a0_3 a1_0 a1_1 a1_2 a1_3=some r) :
  Calls Tryz.prog 25 #[.agg #[.int .i64 a0_0,.int .i64 a0_1,.int .i64 a0_2,.string a0_3],.agg #[.int .i64 a1_0,.int .i64 a1_1,.int .i64 a1_2,.string a1_3]] w fun e w' => e=.returned (.int .i64 r)∧Below w.heap.size w w':=by
 have hu43:=Tryz.underlying43
 have HB:=Aside0.mk (Below.refl w.heap.size w)
 have H:((transhumanceref2_sign.f a0_0 a1_0).bind fun t244 => ((transhumanceref2_sign.f a0_1 a1_1).bind fun t245 => ((transhumanceref2_sign.f a0_2 a1_2).bind fun t246 => (transhumanceref2_Cmp.l0 k (([t244,t245,t246]:List Int)) 0 a0_0 a0_1 a0_2 a0_3 a1_0 a1_1 a1_2 a1_3))))=some r:=h
 clear h
 replace H:=Option.bind_eq_some_iff.mp H
 obtain ⟨t244,A30,H⟩:=H
 replace H:((transhumanceref2_sign.f a0_1 a1_1).bind fun t245 => ((transhumanceref2_sign.f a0_2 a1_2).bind fun t246 => (transhumanceref2_Cmp.l0 k (([t244,t245,t246]:List Int)) 0 a0_0 a0_1 a0_2 a0_3 a1_0 a1_1 a1_2 a1_3)))=some r:=H
 have A3:=Aside0.mk A30
 clear A30
 replace H:=Option.bind_eq_some_iff.mp H
 obtain ⟨t245,A40,H⟩:=H
 replace H:((transhumanceref2_sign.f a0_2 a1_2).bind fun t246 => (transhumanceref2_Cmp.l0 k (([t244,t245,t246]:List Int)) 0 a0_0 a0_1 a0_2 a0_3 a1_0 a1_1 a1_2 a1_3))=some r:=H
 have A4:=Aside0.mk A40
 clear A40
 replace H:=Option.bind_eq_some_iff.mp H
 obtain ⟨t246,A50,H⟩:=H
 replace H:(transhumanceref2_Cmp.l0 k (([t244,t245,t246]:List Int)) 0 a0_0 a0_1 a0_2 a0_3 a1_0 a1_1 a1_2 a1_3)=some r:=H
 have A5:=Aside0.mk A50
 clear A50
 obtain ⟨y247,hy247⟩:∃ y_:List Int,y_=(([t244,t245,t246]:List Int)):=⟨_,rfl⟩
 replace H:(transhumanceref2_Cmp.l0 k y247 0 a0_0 a0_1 a0_2 a0_3 a1_0 a1_1 a1_2 a1_3)=some r:=by first|(rw [hy247];with_reducible exact H)|(have H2_:=(Option.bind_some _ _).symm.trans H;rw [hy247];with_reducible exact H2_)|(have H2_:=(Option.bind_some _ _).symm.trans H;with_reducible exact H2_)|with_reducible exact H|(rw [hy247];exact H)|exact H
 have Ny247:=Aside0.mk hy247
 clear hy247
 have H':=Aside0.mk H
 clear H
 go_enter Tryz.func25,Tryz.ntmps25
 try go_wp2_with (first|((with_reducible refine gate_dst (N:=2) rfl ?_);(try (refine gate_guard (by rfl) ?_;dsimp only));refine box_event ?hg (N:=2) ?hd (cs:=#[.int .i64 a0_0,.int .i64 a0_1,.int .i64 a0_2,.string a0_3]) (t:=43) ?hr ?_;(case hd => rfl);(case hg => rfl);(case hr => first|(go_simp;done)|(go_simp;rfl));intro gb242 hg w6 hbox hb;have n0_:=Aside0.mk (below_step (by repeat (first|(with_reducible first|exact HB.out|apply below_alloc|apply pw_below_drewN|apply below_drew1)|exact HB.out)) hb);have n1_:=Aside0.mk (hbox);have n2_:=Aside0.mk ((by rw [hg];exact (below_size (by repeat (first|(with_reducible first|exact HB.out|apply below_alloc|apply pw_below_drewN|apply below_drew1)|exact HB.out))):w.heap.size≤gb242));have n3_:=Aside0.mk ((by rw [hg];exact (below_size (by repeat (first|(with_reducible first|exact HB.out|apply below_alloc|apply pw_below_drewN|apply below_drew1)|exact HB.out))):w.heap.size≤gb242));clear HB;have HB:=n0_;have BK242:=n1_;have GW242:=n2_;have GE242:=n3_;clear n0_ n1_ n2_ n3_;clear hb hbox hg)|((with_reducible refine gate_dst (N:=3) rfl ?_);(try (refine gate_guard (by rfl) ?_;dsimp only));refine box_event ?hg (N:=3) ?hd (cs:=#[.int .i64 a1_0,.int .i64 a1_1,.int .i64 a1_2,.string a1_3]) (t:=43) ?hr ?_;(case hd => rfl);(case hg => rfl);(case hr => first|(go_simp;done)|(go_simp;rfl));intro gb243 hg w7 hbox hb;have n0_:=Aside0.mk (blk_below (g:=gb242) (o:=.cells #[.int .i64 a0_0,.int .i64 a0_1,.int .i64 a0_2,.string a0_3] 43 (0,0)) (by (with_reducible repeat (first|refine blk_drewN ?_ _|refine blk_drew ?_|refine blk_alloc ?_ _));exact BK242.out) hb);have n1_:=Aside0.mk (below_step (by repeat (first|(with_reducible first|exact HB.out|apply below_alloc|apply pw_below_drewN|apply below_drew1|refine below_set ?_ GE242.out)|exact HB.out)) hb);have n2_:=Aside0.mk (hbox);have n3_:=Aside0.mk ((by rw [hg];exact (below_size (by repeat (first|(with_reducible first|exact HB.out|apply below_alloc|apply pw_below_drewN|apply below_drew1|refine below_set ?_ GE242.out)|exact HB.out))):w.heap.size≤gb243));have n4_:=Aside0.mk ((by rw [hg];exact (below_size (by repeat (first|(with_reducible first|exact HB.out|apply below_alloc|apply pw_below_drewN|apply below_drew1|refine below_set ?_ GE242.out)|exact HB.out))):w.heap.size≤gb243));have n5_:=Aside0.mk ((by rw [hg];exact Nat.ne_of_lt (blk_lt (g:=gb242) (o:=.cells #[.int .i64 a0_0,.int .i64 a0_1,.int .i64 a0_2,.string a0_3] 43 (0,0)) (by (with_reducible repeat (first|refine blk_drewN ?_ _|refine blk_drew ?_|refine blk_alloc ?_ _));exact BK242.out)):gb242≠gb243));have n6_:=Aside0.mk ((by rw [hg];exact Nat.ne_of_gt (blk_lt (g:=gb242) (o:=.cells #[.int .i64 a0_0,.int .i64 a0_1,.int .i64 a0_2,.string a0_3] 43 (0,0)) (by (with_reducible repeat (first|refine blk_drewN ?_ _|refine blk_drew ?_|refine blk_alloc ?_ _));exact BK242.out)):gb243≠gb242));clear BK242;clear HB;have BK242:=n0_;have HB:=n1_;have BK243:=n2_;have GW243:=n3_;have GE243:=n4_;have NB242_243:=n5_;have NB243_242:=n6_;clear n0_ n1_ n2_ n3_ n4_ n5_ n6_;clear hb hbox hg))
 have n0_:=Aside0.mk (blk_drew BK242.out)
 have n1_:=Aside0.mk (blk_drew BK243.out)
 have n2_:=Aside0.mk (below_drew1 HB.out)
 clear BK242
 clear BK243
 clear HB
 have BK242:=n0_
 have BK243:=n1_
 have HB:=n2_
 clear n0_ n1_ n2_
 refine start_ (n:=17) (S:=fun w' => w'.cell? ⟨gb242,0,none⟩=some (.int .i64 a0_0)∧w'.cell? ⟨gb242,1,none⟩=some (.int .i64 a0_1)∧w'.cell? ⟨gb242,2,none⟩=some (.int .i64 a0_2)∧w'.cell? ⟨gb242,3,none⟩=some (.string a0_3)∧w'.cell? ⟨gb243,0,none⟩=some (.int .i64 a1_0)∧w'.cell? ⟨gb243,1,none⟩=some (.int .i64 a1_1)∧w'.cell? ⟨gb243,2,none⟩=some (.int .i64 a1_2)∧w'.cell? ⟨gb243,3,none⟩=some (.string a1_3)) (ds:=[]) #[false,false,false,false,false,false,false,false,false,false,false,false,false,false,false,false,false] (by kernel_rfl) rfl rfl ⟨(blk_cell BK242.out 0).trans rfl,(blk_cell BK242.out 1).trans rfl,(blk_cell BK242.out 2).trans rfl,(blk_cell BK242.out 3).trans rfl,(blk_cell BK243.out 0).trans rfl,(blk_cell BK243.out 1).trans rfl,(blk_cell BK243.out 2).trans rfl,(blk_cell BK243.out 3).trans rfl⟩ (fun hHeld => ?_);refine with_tabW transhumanceref2_Cmp.tab1 transhumanceref2_Cmp.bits1 (fun HT_ HW_ => ?_)
 generalize w7.drew=w8 at BK242 BK243 HB hHeld ⊢
 refine pure_ (i:=0) (N:=some 11) (v:=?_) (a':=?_) #[true,false,false,false,false,false,false,false,false,false,false,false,false,false,false,false,false] rfl rfl (any_of HT_.out (by kernel_rfl)) (fun _ _ _ h => h) (Or.inl ⟨by rfl,?_⟩) ?_ ?_
 rotate_left
 ·intro w'
  go_simp
  with_reducible rfl
 rotate_left
 ·simp only [Act.put,List.setIfInBounds_toArray,List.set_cons_zero,List.set_cons_succ,i64_w,i32_w]
  rfl
 refine pure_ (i:=2) (N:=some 13) (v:=?_) (a':=?_) #[true,false,true,false,false,false,false,false,false,false,false,false,false,false,false,false,false] rfl rfl (any_of HT_.out (by kernel_rfl)) (fun _ _ _ h => h) (Or.inl ⟨by rfl,?_⟩) ?_ ?_
 rotate_left
 ·intro w'
  go_simp
  with_reducible rfl
 rotate_left
 ·simp only [Act.put,List.setIfInBounds_toArray,List.set_cons_zero,List.set_cons_succ,i64_w,i32_w]
  rfl
 refine pure_ (i:=5) (N:=some 16) (v:=?_) (a':=?_) #[true,false,true,false,false,true,false,false,false,false,false,false,false,false,false,false,false] rfl rfl (any_of HT_.out (by kernel_rfl)) (fun _ _ _ h => h) (Or.inl ⟨by rfl,?_⟩) ?_ ?_
 rotate_left
 ·intro w'
  go_simp
  with_reducible rfl
 rotate_left
 ·simp only [Act.put,List.setIfInBounds_toArray,List.set_cons_zero,List.set_cons_succ,i64_w,i32_w]
  rfl
 refine pure_ (i:=7) (N:=some 18) (v:=?_) (a':=?_) #[true,false,true,false,false,true,false,true,false,false,false,false,false,false,false,false,false] rfl rfl (any_of HT_.out (by kernel_rfl)) (fun _ _ _ h => h) (Or.inl ⟨by rfl,?_⟩) ?_ ?_
 rotate_left
 ·intro w'
  go_simp
  with_reducible rfl
 rotate_left
 ·simp only [Act.put,List.setIfInBounds_toArray,List.set_cons_zero,List.set_cons_succ,i64_w,i32_w]
  rfl
 refine pure_ (i:=10) (N:=some 21) (v:=?_) (a':=?_) #[true,false,true,false,false,true,false,true,false,false,true,false,false,false,false,false,false] rfl rfl (any_of HT_.out (by kernel_rfl)) (fun _ _ _ h => h) (Or.inl ⟨by rfl,?_⟩) ?_ ?_
 rotate_left
 ·intro w'
  go_simp
  with_reducible rfl
 rotate_left
 ·simp only [Act.put,List.setIfInBounds_toArray,List.set_cons_zero,List.set_cons_succ,i64_w,i32_w]
  rfl
 refine pure_ (i:=12) (N:=some 23) (v:=?_) (a':=?_) #[true,false,true,false,false,true,false,true,false,false,true,false,true,false,false,false,false] rfl rfl (any_of HT_.out (by kernel_rfl)) (fun _ _ _ h => h) (Or.inl ⟨by rfl,?_⟩) ?_ ?_
 rotate_left
 ·intro w'
  go_simp
  with_reducible rfl
 rotate_left
 ·simp only [Act.put,List.setIfInBounds_toArray,List.set_cons_zero,List.set_cons_succ,i64_w,i32_w]
  rfl
 refine take_ (i:=1) (N:=some 12) (v:=?_) (a':=?_) #[true,true,true,false,false,true,false,true,false,false,true,false,true,false,false,false,false] rfl rfl (take_ofW HT_.out HW_.out (by kernel_rfl)) (fun _ _ _ h => h) (Or.inl ⟨by rfl,?_⟩) hHeld ?_ ?_
 rotate_left
 ·rintro w' ⟨s0,s1,s2,s3,s4,s5,s6,s7⟩
  go_simp
  with_reducible rfl
 rotate_left
 ·simp only [Act.put,List.setIfInBounds_toArray,List.set_cons_zero,List.set_cons_succ,i64_w,i32_w]
  rfl
 refine take_ (i:=3) (N:=some 14) (v:=?_) (a':=?_) #[true,true,true,true,false,true,false,true,false,false,true,false,true,false,false,false,false] rfl rfl (take_ofW HT_.out HW_.out (by kernel_rfl)) (fun _ _ _ h => h) (Or.inl ⟨by rfl,?_⟩) hHeld ?_ ?_
 rotate_left
 ·rintro w' ⟨s0,s1,s2,s3,s4,s5,s6,s7⟩
  go_simp
  with_reducible rfl
 rotate_left
 ·simp only [Act.put,List.setIfInBounds_toArray,List.set_cons_zero,List.set_cons_succ,i64_w,i32_w]
  rfl
 refine take_ (i:=6) (N:=some 17) (v:=?_) (a':=?_) #[true,true,true,true,false,true,true,true,false,false,true,false,true,false,false,false,false] rfl rfl (take_ofW HT_.out HW_.out (by kernel_rfl)) (fun _ _ _ h => h) (Or.inl ⟨by rfl,?_⟩) hHeld ?_ ?_
 rotate_left
 ·rintro w' ⟨s0,s1,s2,s3,s4,s5,s6,s7⟩
  go_simp
  with_reducible rfl
 rotate_left
 ·simp only [Act.put,List.setIfInBounds_toArray,List.set_cons_zero,List.set_cons_succ,i64_w,i32_w]
  rfl
 refine take_ (i:=8) (N:=some 19) (v:=?_) (a':=?_) #[true,true,true,true,false,true,true,true,true,false,true,false,true,false,false,false,false] rfl rfl (take_ofW HT_.out HW_.out (by kernel_rfl)) (fun _ _ _ h => h) (Or.inl ⟨by rfl,?_⟩) hHeld ?_ ?_
 rotate_left
 ·rintro w' ⟨s0,s1,s2,s3,s4,s5,s6,s7⟩
  go_simp
  with_reducible rfl
 rotate_left
 ·simp only [Act.put,List.setIfInBounds_toArray,List.set_cons_zero,List.set_cons_succ,i64_w,i32_w]
  rfl
 refine take_ (i:=11) (N:=some 22) (v:=?_) (a':=?_) #[true,true,true,true,false,true,true,true,true,false,true,true,true,false,false,false,false] rfl rfl (take_ofW HT_.out HW_.out (by kernel_rfl)) (fun _ _ _ h => h) (Or.inl ⟨by rfl,?_⟩) hHeld ?_ ?_
 rotate_left
 ·rintro w' ⟨s0,s1,s2,s3,s4,s5,s6,s7⟩
  go_simp
  with_reducible rfl
 rotate_left
 ·simp only [Act.put,List.setIfInBounds_toArray,List.set_cons_zero,List.set_cons_succ,i64_w,i32_w]
  rfl
 refine take_ (i:=13) (N:=some 24) (v:=?_) (a':=?_) #[true,true,true,true,false,true,true,true,true,false,true,true,true,true,false,false,false] rfl rfl (take_ofW HT_.out HW_.out (by kernel_rfl)) (fun _ _ _ h => h) (Or.inl ⟨by rfl,?_⟩) hHeld ?_ ?_
 rotate_left
 ·rintro w' ⟨s0,s1,s2,s3,s4,s5,s6,s7⟩
  go_simp
  with_reducible rfl
 rotate_left
 ·simp only [Act.put,List.setIfInBounds_toArray,List.set_cons_zero,List.set_cons_succ,i64_w,i32_w]
  rfl
 refine one_ (i:=4) (N:=some 15) #[true,true,true,true,true,true,true,true,true,false,true,true,true,true,false,false,false] rfl rfl (one_of HT_.out (by kernel_rfl)) (by decide) (fun K hK => ?_)
 refine goes_ Tryz.func56 (by kernel_rfl) rfl #[.int .i64 a0_0,.int .i64 a1_0] (by rfl) rfl rfl (by (try simp only [List.map_toArray,List.map_cons,List.map_nil]);first|done|rfl|(simp only [List.length_drop,List.length_take];rfl)) ?_
 with_reducible refine (transhumanceref2_sign.calls a0_0 a1_0 t244 _ A3.out).mono ?_
 rintro e w' ⟨rfl,⟨nd,rfl⟩⟩
 refine ⟨_,rfl,?_⟩
 refine hK.out _ _ ⟨(blk_cell BK242.out 0).trans rfl,(blk_cell BK242.out 1).trans rfl,(blk_cell BK242.out 2).trans rfl,(blk_cell BK242.out 3).trans rfl,(blk_cell BK243.out 0).trans rfl,(blk_cell BK243.out 1).trans rfl,(blk_cell BK243.out 2).trans rfl,(blk_cell BK243.out 3).trans rfl⟩ (fun hHeld => ?_)
 clear hK K
 refine norm_ (a':=?_) ?_ ?_
 rotate_left
 ·show Act.put _ (some 15) _=_
  simp only [Act.put,List.setIfInBounds_toArray,List.set_cons_zero,List.set_cons_succ,i64_w,i32_w]
  rfl
 refine one_ (i:=9) (N:=some 20) #[true,true,true,true,true,true,true,true,true,true,true,true,true,true,false,false,false] rfl rfl (one_of HT_.out (by kernel_rfl)) (by decide) (fun K hK => ?_)
 refine goes_ Tryz.func56 (by kernel_rfl) rfl #[.int .i64 a0_1,.int .i64 a1_1] (by rfl) rfl rfl (by (try simp only [List.map_toArray,List.map_cons,List.map_nil]);first|done|rfl|(simp only [List.length_drop,List.length_take];rfl)) ?_
 with_reducible refine (transhumanceref2_sign.calls a0_1 a1_1 t245 _ A4.out).mono ?_
 rintro e w' ⟨rfl,⟨nd,rfl⟩⟩
 refine ⟨_,rfl,?_⟩
 refine hK.out _ _ ⟨(blk_cell BK242.out 0).trans rfl,(blk_cell BK242.out 1).trans rfl,(blk_cell BK242.out 2).trans rfl,(blk_cell BK242.out 3).trans rfl,(blk_cell BK243.out 0).trans rfl,(blk_cell BK243.out 1).trans rfl,(blk_cell BK243.out 2).trans rfl,(blk_cell BK243.out 3).trans rfl⟩ (fun hHeld => ?_)
 clear hK K
 refine norm_ (a':=?_) ?_ ?_
 rotate_left
 ·show Act.put _ (some 20) _=_
  simp only [Act.put,List.setIfInBounds_toArray,List.set_cons_zero,List.set_cons_succ,i64_w,i32_w]
  rfl
 refine one_ (i:=14) (N:=some 25) #[true,true,true,true,true,true,true,true,true,true,true,true,true,true,true,false,false] rfl rfl (one_of HT_.out (by kernel_rfl)) (by decide) (fun K hK => ?_)
 refine goes_ Tryz.func56 (by kernel_rfl) rfl #[.int .i64 a0_2,.int .i64 a1_2] (by rfl) rfl rfl (by (try simp only [List.map_toArray,List.map_cons,List.map_nil]);first|done|rfl|(simp only [List.length_drop,List.length_take];rfl)) ?_
 with_reducible refine (transhumanceref2_sign.calls a0_2 a1_2 t246 _ A5.out).mono ?_
 rintro e w' ⟨rfl,⟨nd,rfl⟩⟩
 refine ⟨_,rfl,?_⟩
 refine hK.out _ _ ⟨(blk_cell BK242.out 0).trans rfl,(blk_cell BK242.out 1).trans rfl,(blk_cell BK242.out 2).trans rfl,(blk_cell BK242.out 3).trans rfl,(blk_cell BK243.out 0).trans rfl,(blk_cell BK243.out 1).trans rfl,(blk_cell BK243.out 2).trans rfl,(blk_cell BK243.out 3).trans rfl⟩ (fun hHeld => ?_)
 clear hK K
 refine norm_ (a':=?_) ?_ ?_
 rotate_left
 ·show Act.put _ (some 25) _=_
  simp only [Act.put,List.setIfInBounds_toArray,List.set_cons_zero,List.set_cons_succ,i64_w,i32_w]
  rfl
 refine one_ (i:=15) (N:=some 26) #[true,true,true,true,true,true,true,true,true,true,true,true,true,true,true,true,false] rfl rfl (one_of HT_.out (by kernel_rfl)) (by decide) (fun K hK => ?_)
 refine Kd.R_lit_step (Kd.int .i64) _ 3 ?hg (N:=26) ?hd (xs:=([t244,t245,t246]:List Int)) (inner:=[.int .i64 t244,.int .i64 t245,.int .i64 t246]) (ok:=fun _ => True) (okp:=fun _ => True) ?hr ?hp (fun _ hk => hk) trivial (Below.refl _ _) (Nat.le_refl _) (by simp) ?_;(case hd => rfl);(case hg => rfl);(case hr => first|(go_simp;done)|(go_simp;rfl));(case hp => exact (Reps.one (show Kd.M (Kd.int .i64) _ _ _ t244 [.int .i64 t244] from rfl) (Reps.one (show Kd.M (Kd.int .i64) _ _ _ t245 [.int .i64 t245] from rfl) (Reps.one (show Kd.M (Kd.int .i64) _ _ _ t246 [.int .i64 t246] from rfl) (Reps.none _ _)))))
 intro v248 w9 ho10 hb hg_ hnew_
 clear hg_ hnew_
 (first|rw [← Ny247.out] at ho10|(simp only [Int.reduceToNat] at ho10;rw [← Ny247.out] at ho10))
 have n0_:=Aside0.mk (Kd.R_lower ho10 (below_size (by repeat (first|(with_reducible first|exact HB.out|apply below_alloc|apply pw_below_drewN|apply below_drew1|refine below_set ?_ GE242.out|refine below_set ?_ GE243.out)|exact HB.out))))
 have n1_:=Aside0.mk (blk_below (g:=gb242) (o:=.cells #[.int .i64 a0_0,.int .i64 a0_1,.int .i64 a0_2,.string a0_3] 43 (0,0)) (by (with_reducible repeat (first|refine blk_drewN ?_ _|refine blk_drew ?_|refine blk_alloc ?_ _));exact BK242.out) hb)
 have n2_:=Aside0.mk (blk_below (g:=gb243) (o:=.cells #[.int .i64 a1_0,.int .i64 a1_1,.int .i64 a1_2,.string a1_3] 43 (0,0)) (by (with_reducible repeat (first|refine blk_drewN ?_ _|refine blk_drew ?_|refine blk_alloc ?_ _));exact BK243.out) hb)
 have n3_:=Aside0.mk (below_step (by repeat (first|(with_reducible first|exact HB.out|apply below_alloc|apply pw_below_drewN|apply below_drew1|refine below_set ?_ GE242.out|refine below_set ?_ GE243.out)|exact HB.out)) hb)
 clear BK242
 clear BK243
 clear HB
 have HO249:=n0_
 have BK242:=n1_
 have BK243:=n2_
 have HB:=n3_
 clear n0_ n1_ n2_ n3_
 clear hb ho10
 refine hK.out _ _ ⟨(blk_cell BK242.out 0).trans rfl,(blk_cell BK242.out 1).trans rfl,(blk_cell BK242.out 2).trans rfl,(blk_cell BK242.out 3).trans rfl,(blk_cell BK243.out 0).trans rfl,(blk_cell BK243.out 1).trans rfl,(blk_cell BK243.out 2).trans rfl,(blk_cell BK243.out 3).trans rfl⟩ (fun hHeld => ?_)
 clear hK K
 refine norm_ (a':=?_) ?_ ?_
 rotate_left
 ·show Act.put _ (some 26) _=_
  simp only [Act.put,List.setIfInBounds_toArray,List.set_cons_zero,List.set_cons_succ,i64_w,i32_w]
  rfl
 refine pure_ (i:=16) (N:=some 5) (v:=?_) (a':=?_) #[true,true,true,true,true,true,true,true,true,true,true,true,true,true,true,true,true] rfl rfl (any_of HT_.out (by kernel_rfl)) (fun _ _ _ h => h) (Or.inl ⟨by rfl,?_⟩) ?_ ?_
 rotate_left
 ·intro w'
  go_simp
  with_reducible rfl
 rotate_left
 ·simp only [Act.put,List.setIfInBounds_toArray,List.set_cons_zero,List.set_cons_succ,i64_w,i32_w]
  rfl
 refine done_ (done_of HT_.out (by kernel_rfl)) ?_
 try go_wp2
 go_loopg [6] k (fun kq v6 w' => ∃ (x6_1:Int),v6=.int .i64 x6_1∧Aside0 (transhumanceref2_Cmp.l0 kq y247 x6_1 a0_0 a0_1 a0_2 a0_3 a1_0 a1_1 a1_2 a1_3=some r)∧Aside0 (kq≤k)∧Aside0 (Kd.R (Kd.int .i64) 3 w' w.heap.size (fun _ => True) v248 y247)∧Aside0 (w'.heap[gb242]?=some (.cells #[.int .i64 a0_0,.int .i64 a0_1,.int .i64 a0_2,.string a0_3] 43 (0,0)))∧Aside0 (w'.heap[gb243]?=some (.cells #[.int .i64 a1_0,.int .i64 a1_1,.int .i64 a1_2,.string a1_3] 43 (0,0)))∧Aside0 (Below w.heap.size w w'))
 case atStart => exact ⟨(0),(by first|rfl|(simp;done)|(simp [*];done)|(simp;exact (fun l_:List UInt8 => by cases l_ <;> rfl:∀ l_:List UInt8,l_.isEmpty=!(l_ != [])) _)),H',⟨Nat.le_refl _⟩,⟨by (with_reducible repeat (first|apply Kd.R_alloc|apply Kd.R_drewN|apply Kd.R_drew));exact HO249.out⟩,⟨by (with_reducible repeat (first|refine blk_drewN ?_ _|refine blk_drew ?_|refine blk_alloc ?_ _));exact BK242.out⟩,⟨by (with_reducible repeat (first|refine blk_drewN ?_ _|refine blk_drew ?_|refine blk_alloc ?_ _));exact BK243.out⟩,⟨by repeat (first|(with_reducible first|exact HB.out|apply below_alloc|apply pw_below_drewN|apply below_drew1|refine below_set ?_ GE242.out|refine below_set ?_ GE243.out)|exact HB.out)⟩⟩
 case round =>
  clear H'
  try clear c2
  try clear p2
  try clear c5
  obtain ⟨x6_1,rfl,HA,HK1,HO_5,BK242,BK243,HB⟩:=hrel
  cases gk with
  | zero => exact absurd HA.out (by simp [transhumanceref2_Cmp.l0])
  | succ k1 =>
   have H:=HA.out
   clear HA
   simp only [transhumanceref2_Cmp.l0] at H
   by_cases c11:x6_1<3
   ·rw [if_pos c11] at H
    have c11b0:decide (x6_1<3)=true:=decide_eq_true c11
    clear c11
    by_cases c12:0≤x6_1
    ·rw [if_pos c12] at H
     have c12b0:decide (0≤x6_1)=true:=decide_eq_true c12
     clear c12
     by_cases c13:x6_1<(y247.length:Int)
     ·rw [if_pos c13] at H
      have c13b0:decide (x6_1<(y247.length:Int))=true:=decide_eq_true c13
      clear c13
      by_cases c14:(rd y247 x6_1)=0
      ·rw [if_pos c14] at H
       have c14b0:((rd y247 x6_1) == 0)=true:=beq_iff_eq.mpr c14
       have c14b1:((rd y247 x6_1) != 0)=false:=bne_eq_false_iff_eq.mpr c14
       clear c14
       have H':=Aside0.mk H
       clear H
       obtain ⟨Ao15,co15,eo15⟩:=Kd.R_slice HO_5.out
       subst eo15
       have p250:0≤(x6_1:Int):=of_decide_eq_true (by first|(with_reducible assumption)|assumption)
       have q250:x6_1<(y247.length:Int):=of_decide_eq_true (by first|(with_reducible assumption)|assumption)
       obtain ⟨ad250,e250,hx250_0⟩:=Kd.at_int (Kd.R_reads' HO_5.out).2.2 x6_1 p250 q250
       cases e250
       replace p250:=eq_true p250
       replace q250:=eq_true q250
       go_wp2
       go_roundg k1
       case measure => have:=HK1.out;omega
       case rel => exact ⟨(wrap64 (x6_1+1)),(by first|rfl|(simp;done)|(simp [*];done)|(simp;exact (fun l_:List UInt8 => by cases l_ <;> rfl:∀ l_:List UInt8,l_.isEmpty=!(l_ != [])) _)),H',⟨by have:=HK1.out;omega⟩,⟨by (with_reducible repeat (first|apply Kd.R_alloc|apply Kd.R_drewN|apply Kd.R_drew));exact HO_5.out⟩,⟨by (with_reducible repeat (first|refine blk_drewN ?_ _|refine blk_drew ?_|refine blk_alloc ?_ _));exact BK242.out⟩,⟨by (with_reducible repeat (first|refine blk_drewN ?_ _|refine blk_drew ?_|refine blk_alloc ?_ _));exact BK243.out⟩,⟨by repeat (first|(with_reducible first|exact HB.out|apply below_alloc|apply pw_below_drewN|apply below_drew1|refine below_set ?_ GE242.out|refine below_set ?_ GE243.out)|exact HB.out)⟩⟩
      ·rw [if_neg c14] at H
       have c14b0:((rd y247 x6_1) == 0)=false:=beq_eq_false_iff_ne.mpr c14
       have c14b1:((rd y247 x6_1) != 0)=true:=bne_iff_ne.mpr c14
       obtain rfl:=Option.some.inj H
       obtain ⟨Ao16,co16,eo16⟩:=Kd.R_slice HO_5.out
       subst eo16
       have p250:0≤(x6_1:Int):=of_decide_eq_true (by first|(with_reducible assumption)|assumption)
       have q250:x6_1<(y247.length:Int):=of_decide_eq_true (by first|(with_reducible assumption)|assumption)
       obtain ⟨ad250,e250,hx250_0⟩:=Kd.at_int (Kd.R_reads' HO_5.out).2.2 x6_1 p250 q250
       cases e250
       replace p250:=eq_true p250
       replace q250:=eq_true q250
       have p251:0≤(x6_1:Int):=of_decide_eq_true (by first|(with_reducible assumption)|assumption)
       have q251:x6_1<(y247.length:Int):=of_decide_eq_true (by first|(with_reducible assumption)|assumption)
       obtain ⟨ad251,e251,hx251_0⟩:=Kd.at_int (Kd.R_reads' HO_5.out).2.2 x6_1 p251 q251
       obtain rfl:ad250=ad251:=(by injection e251)
       replace p251:=eq_true p251
       replace q251:=eq_true q251
       go_wp2
       go_ret
       exact ⟨by first|rfl|(simp [errW_none,errW_some] <;> rfl)|(simp [*,errW_none,errW_some] <;> rfl),by repeat (first|(with_reducible first|exact HB.out|apply below_alloc|apply pw_below_drewN|apply below_drew1|refine below_set ?_ GE242.out|refine below_set ?_ GE243.out)|exact HB.out)⟩
     ·rw [if_neg c13] at H
      exact absurd H (by simp)
    ·rw [if_neg c12] at H
     exact absurd H (by simp)
   ·rw [if_neg c11] at H
    have c11b0:decide (x6_1<3)=false:=decide_eq_false c11
    clear c11
    have HC17:=Aside0.mk H
    clear H
    go_upto_region 7 with (fail)
    go_cut [47] (fun v47 wc => ∃ (kq:Nat) (x47_16:Bool),v47=.bool x47_16∧Aside0 (transhumanceref2_Cmp.j1 kq x47_16 a0_0 a0_1 a0_2 a0_3 a1_0 a1_1 a1_2 a1_3=some r)∧Aside0 (kq≤k1)∧Aside0 (wc.heap[gb242]?=some (.cells #[.int .i64 a0_0,.int .i64 a0_1,.int .i64 a0_2,.string a0_3] 43 (0,0)))∧Aside0 (wc.heap[gb243]?=some (.cells #[.int .i64 a1_0,.int .i64 a1_1,.int .i64 a1_2,.string a1_3] 43 (0,0)))∧Aside0 (Below w.heap.size w wc))
    case first =>
     have H:=HC17.out
     clear HC17
     by_cases c18:a0_3.toList=([]:List UInt8)
     ·rw [if_pos c18] at H
      have c18b0:(a0_3.toList == ([]:List UInt8))=true:=beq_iff_eq.mpr c18
      have c18b1:(a0_3.toList != ([]:List UInt8))=false:=bne_eq_false_iff_eq.mpr c18
      clear c18
      (first|rw [c18b0]|(simp only [i64_w,i32_w];rw [c18b0])|skip)
      have H':=Aside0.mk H
      clear H
      have hnb19:=NB242_243.out
      have hnc19:=NB243_242.out
      have hcz20_0:wr.cell? ⟨gb242,0,none⟩=some (.int .i64 a0_0):=(blk_cell BK242.out 0).trans rfl
      have hcz20_1:wr.cell? ⟨gb242,1,none⟩=some (.int .i64 a0_1):=(blk_cell BK242.out 1).trans rfl
      have hcz20_2:wr.cell? ⟨gb242,2,none⟩=some (.int .i64 a0_2):=(blk_cell BK242.out 2).trans rfl
      have hcz20_3:wr.cell? ⟨gb242,3,none⟩=some (.string a0_3):=(blk_cell BK242.out 3).trans rfl
      have hfz20_0:=blk_frozen BK242.out 0
      have hfz20_1:=blk_frozen BK242.out 1
      have hfz20_2:=blk_frozen BK242.out 2
      have hfz20_3:=blk_frozen BK242.out 3
      go_wp2
      go_meet
      case rel => exact ⟨_,(true),(by first|rfl|(simp;done)|(simp [*];done)|(simp;exact (fun l_:List UInt8 => by cases l_ <;> rfl:∀ l_:List UInt8,l_.isEmpty=!(l_ != [])) _)),H',⟨by have:=HK1.out;first|omega|exact Nat.le_refl _⟩,⟨by (with_reducible repeat (first|refine blk_drewN ?_ _|refine blk_drew ?_|refine blk_alloc ?_ _));exact BK242.out⟩,⟨by (with_reducible repeat (first|refine blk_drewN ?_ _|refine blk_drew ?_|refine blk_alloc ?_ _));exact BK243.out⟩,⟨by repeat (first|(with_reducible first|exact HB.out|apply below_alloc|apply pw_below_drewN|apply below_drew1|refine below_set ?_ GE242.out|refine below_set ?_ GE243.out)|exact HB.out)⟩⟩
     ·rw [if_neg c18] at H
      have c18b0:(a0_3.toList == ([]:List UInt8))=false:=beq_eq_false_iff_ne.mpr c18
      have c18b1:(a0_3.toList != ([]:List UInt8))=true:=bne_iff_ne.mpr c18
      (first|rw [c18b0]|(simp only [i64_w,i32_w];rw [c18b0])|skip)
      have H':=Aside0.mk H
      clear H
      have hnb21:=NB242_243.out
      have hnc21:=NB243_242.out
      have hcz22_0:wr.cell? ⟨gb242,0,none⟩=some (.int .i64 a0_0):=(blk_cell BK242.out 0).trans rfl
      have hcz22_1:wr.cell? ⟨gb242,1,none⟩=some (.int .i64 a0_1):=(blk_cell BK242.out 1).trans rfl
      have hcz22_2:wr.cell? ⟨gb242,2,none⟩=some (.int .i64 a0_2):=(blk_cell BK242.out 2).trans rfl
      have hcz22_3:wr.cell? ⟨gb242,3,none⟩=some (.string a0_3):=(blk_cell BK242.out 3).trans rfl
      have hfz22_0:=blk_frozen BK242.out 0
      have hfz22_1:=blk_frozen BK242.out 1
      have hfz22_2:=blk_frozen BK242.out 2
      have hfz22_3:=blk_frozen BK242.out 3
      have hcz23_0:wr.cell? ⟨gb243,0,none⟩=some (.int .i64 a1_0):=(blk_cell BK243.out 0).trans rfl
      have hcz23_1:wr.cell? ⟨gb243,1,none⟩=some (.int .i64 a1_1):=(blk_cell BK243.out 1).trans rfl
      have hcz23_2:wr.cell? ⟨gb243,2,none⟩=some (.int .i64 a1_2):=(blk_cell BK243.out 2).trans rfl
      have hcz23_3:wr.cell? ⟨gb243,3,none⟩=some (.string a1_3):=(blk_cell BK243.out 3).trans rfl
      have hfz23_0:=blk_frozen BK243.out 0
      have hfz23_1:=blk_frozen BK243.out 1
      have hfz23_2:=blk_frozen BK243.out 2
      have hfz23_3:=blk_frozen BK243.out 3
      go_wp2
      go_meet
      case rel => exact ⟨_,((a1_3.toList == ([]:List UInt8))),(by first|rfl|(simp;done)|(simp [*];done)|(simp;exact (fun l_:List UInt8 => by cases l_ <;> rfl:∀ l_:List UInt8,l_.isEmpty=!(l_ != [])) _)),H',⟨by have:=HK1.out;first|omega|exact Nat.le_refl _⟩,⟨by (with_reducible repeat (first|refine blk_drewN ?_ _|refine blk_drew ?_|refine blk_alloc ?_ _));exact BK242.out⟩,⟨by (with_reducible repeat (first|refine blk_drewN ?_ _|refine blk_drew ?_|refine blk_alloc ?_ _));exact BK243.out⟩,⟨by repeat (first|(with_reducible first|exact HB.out|apply below_alloc|apply pw_below_drewN|apply below_drew1|refine below_set ?_ GE242.out|refine below_set ?_ GE243.out)|exact HB.out)⟩⟩
    case rest =>
     clear HC17
     try clear c1
     try clear c2
     try clear p2
     try clear q2
     try clear hx2
     try clear c5
     try clear p6
     try clear c11
     try clear c11b0
     try clear c12
     try clear c12b0
     try clear c13
     try clear c13b0
     try clear c14
     try clear c14b0
     try clear c14b1
     try clear c18
     try clear c18b0
     try clear c18b1
     try clear c19
     try clear c21
     try clear hcz20_0
     try clear hcz20_1
     try clear hcz20_2
     try clear hcz20_3
     try clear hcz22_0
     try clear hcz22_1
     try clear hcz22_2
     try clear hcz22_3
     try clear hcz23_0
     try clear hcz23_1
     try clear hcz23_2
     try clear hcz23_3
     try clear hfz20_0
     try clear hfz20_1
     try clear hfz20_2
     try clear hfz20_3
     try clear hfz22_0
     try clear hfz22_1
     try clear hfz22_2
     try clear hfz22_3
     try clear hfz23_0
     try clear hfz23_1
     try clear hfz23_2
     try clear hfz23_3
     try clear hx250_0
     try clear hx251_0
     try clear p2
     try clear p250
     try clear p251
     try clear q250
     try clear q251
     obtain ⟨kq,x47_16,rfl,HA,HJ16,BK242,BK243,HB⟩:=hcut
     cases kq with
     | zero => exact absurd HA.out (by simp [transhumanceref2_Cmp.j1])
     | succ kj16 =>
      have H:=HA.out
      clear HA
      simp only [transhumanceref2_Cmp.j1] at H
      by_cases c24:x47_16=true
      ·subst c24
       have H1:((transhumanceref2_sign.f (a1_3.size:Int) (a0_3.size:Int)).bind fun t252 => (some (wrap64 (t252 * (mn 1 (wrap64 ((a0_3.size:Int)+(a1_3.size:Int))))))))=some r:=by rw [if_pos rfl] at H;exact H
       clear H
       have H:=H1
       clear H1
       replace H:=Option.bind_eq_some_iff.mp H
       obtain ⟨t252,A250,H⟩:=H
       replace H:(some (wrap64 (t252 * (mn 1 (wrap64 ((a0_3.size:Int)+(a1_3.size:Int)))))))=some r:=H
       have A25:=Aside0.mk A250
       clear A250
       obtain ⟨ji26,hji26⟩:∃ j_:Int,(mn 1 (wrap64 ((a0_3.size:Int)+(a1_3.size:Int))))=j_:=⟨_,rfl⟩
       replace H:(some (wrap64 (t252 * (ji26))))=some r:=by first|(rw [hji26] at H;exact H)|(simp only [hji26] at H ⊢;exact H)
       (try rw [hji26] at A25)
       have hji26_:(if (wrap64 ((a0_3.size:Int)+(a1_3.size:Int)))<1 then (wrap64 ((a0_3.size:Int)+(a1_3.size:Int))) else 1)=ji26:=hji26
       obtain rfl:=Option.some.inj H
       try go_wp2
       have n0_:=Aside0.mk (blk_drew BK242.out)
       have n1_:=Aside0.mk (blk_drew BK243.out)
       have n2_:=Aside0.mk (below_drew1 HB.out)
       clear BK242
       clear BK243
       clear HB
       have BK242:=n0_
       have BK243:=n1_
       have HB:=n2_
       clear n0_ n1_ n2_
       refine start_ (n:=17) (S:=fun w' => w'.cell? ⟨gb243,0,none⟩=some (.int .i64 a1_0)∧w'.cell? ⟨gb243,1,none⟩=some (.int .i64 a1_1)∧w'.cell? ⟨gb243,2,none⟩=some (.int .i64 a1_2)∧w'.cell? ⟨gb243,3,none⟩=some (.string a1_3)∧w'.cell? ⟨gb242,0,none⟩=some (.int .i64 a0_0)∧w'.cell? ⟨gb242,1,none⟩=some (.int .i64 a0_1)∧w'.cell? ⟨gb242,2,none⟩=some (.int .i64 a0_2)∧w'.cell? ⟨gb242,3,none⟩=some (.string a0_3)) (ds:=[]) #[false,false,false,false,false,false,false,false,false,false,false,false,false,false,false,false,false] (by kernel_rfl) rfl rfl ⟨(blk_cell BK243.out 0).trans rfl,(blk_cell BK243.out 1).trans rfl,(blk_cell BK243.out 2).trans rfl,(blk_cell BK243.out 3).trans rfl,(blk_cell BK242.out 0).trans rfl,(blk_cell BK242.out 1).trans rfl,(blk_cell BK242.out 2).trans rfl,(blk_cell BK242.out 3).trans rfl⟩ (fun hHeld => ?_);refine with_tabW transhumanceref2_Cmp.tab8 transhumanceref2_Cmp.bits8 (fun HT_ HW_ => ?_)
       generalize wc.drew=w27 at BK242 BK243 HB hHeld ⊢
       refine pure_ (i:=0) (N:=some 48) (v:=?_) (a':=?_) #[true,false,false,false,false,false,false,false,false,false,false,false,false,false,false,false,false] rfl rfl (any_of HT_.out (by kernel_rfl)) (fun _ _ _ h => h) (Or.inl ⟨by rfl,?_⟩) ?_ ?_
       rotate_left
       ·intro w'
        go_simp
        with_reducible rfl
       rotate_left
       ·simp only [Act.put,List.setIfInBounds_toArray,List.set_cons_zero,List.set_cons_succ,i64_w,i32_w]
        rfl
       refine pure_ (i:=3) (N:=some 51) (v:=?_) (a':=?_) #[true,false,false,true,false,false,false,false,false,false,false,false,false,false,false,false,false] rfl rfl (any_of HT_.out (by kernel_rfl)) (fun _ _ _ h => h) (Or.inl ⟨by rfl,?_⟩) ?_ ?_
       rotate_left
       ·intro w'
        go_simp
        with_reducible rfl
       rotate_left
       ·simp only [Act.put,List.setIfInBounds_toArray,List.set_cons_zero,List.set_cons_succ,i64_w,i32_w]
        rfl
       refine pure_ (i:=7) (N:=some 55) (v:=?_) (a':=?_) #[true,false,false,true,false,false,false,true,false,false,false,false,false,false,false,false,false] rfl rfl (any_of HT_.out (by kernel_rfl)) (fun _ _ _ h => h) (Or.inl ⟨by rfl,?_⟩) ?_ ?_
       rotate_left
       ·intro w'
        go_simp
        with_reducible rfl
       rotate_left
       ·simp only [Act.put,List.setIfInBounds_toArray,List.set_cons_zero,List.set_cons_succ,i64_w,i32_w]
        rfl
       refine pure_ (i:=10) (N:=some 58) (v:=?_) (a':=?_) #[true,false,false,true,false,false,false,true,false,false,true,false,false,false,false,false,false] rfl rfl (any_of HT_.out (by kernel_rfl)) (fun _ _ _ h => h) (Or.inl ⟨by rfl,?_⟩) ?_ ?_
       rotate_left
       ·intro w'
        go_simp
        with_reducible rfl
       rotate_left
       ·simp only [Act.put,List.setIfInBounds_toArray,List.set_cons_zero,List.set_cons_succ,i64_w,i32_w]
        rfl
       refine take_ (i:=1) (N:=some 49) (v:=?_) (a':=?_) #[true,true,false,true,false,false,false,true,false,false,true,false,false,false,false,false,false] rfl rfl (take_ofW HT_.out HW_.out (by kernel_rfl)) (fun _ _ _ h => h) (Or.inl ⟨by rfl,?_⟩) hHeld ?_ ?_
       rotate_left
       ·rintro w' ⟨s0,s1,s2,s3,s4,s5,s6,s7⟩
        go_simp
        with_reducible rfl
       rotate_left
       ·simp only [Act.put,List.setIfInBounds_toArray,List.set_cons_zero,List.set_cons_succ,i64_w,i32_w]
        rfl
       refine pure_ (i:=2) (N:=some 50) (v:=?_) (a':=?_) #[true,true,true,true,false,false,false,true,false,false,true,false,false,false,false,false,false] rfl rfl (any_of HT_.out (by kernel_rfl)) (fun _ _ _ h => h) (Or.inl ⟨by rfl,?_⟩) ?_ ?_
       rotate_left
       ·intro w'
        go_simp
        with_reducible rfl
       rotate_left
       ·simp only [Act.put,List.setIfInBounds_toArray,List.set_cons_zero,List.set_cons_succ,i64_w,i32_w]
        rfl
       refine take_ (i:=4) (N:=some 52) (v:=?_) (a':=?_) #[true,true,true,true,true,false,false,true,false,false,true,false,false,false,false,false,false] rfl rfl (take_ofW HT_.out HW_.out (by kernel_rfl)) (fun _ _ _ h => h) (Or.inl ⟨by rfl,?_⟩) hHeld ?_ ?_
       rotate_left
       ·rintro w' ⟨s0,s1,s2,s3,s4,s5,s6,s7⟩
        go_simp
        with_reducible rfl
       rotate_left
       ·simp only [Act.put,List.setIfInBounds_toArray,List.set_cons_zero,List.set_cons_succ,i64_w,i32_w]
        rfl
       refine pure_ (i:=5) (N:=some 53) (v:=?_) (a':=?_) #[true,true,true,true,true,true,false,true,false,false,true,false,false,false,false,false,false] rfl rfl (any_of HT_.out (by kernel_rfl)) (fun _ _ _ h => h) (Or.inl ⟨by rfl,?_⟩) ?_ ?_
       rotate_left
       ·intro w'
        go_simp
        with_reducible rfl
       rotate_left
       ·simp only [Act.put,List.setIfInBounds_toArray,List.set_cons_zero,List.set_cons_succ,i64_w,i32_w]
        rfl
       refine take_ (i:=8) (N:=some 56) (v:=?_) (a':=?_) #[true,true,true,true,true,true,false,true,true,false,true,false,false,false,false,false,false] rfl rfl (take_ofW HT_.out HW_.out (by kernel_rfl)) (fun _ _ _ h => h) (Or.inl ⟨by rfl,?_⟩) hHeld ?_ ?_
       rotate_left
       ·rintro w' ⟨s0,s1,s2,s3,s4,s5,s6,s7⟩
        go_simp
        with_reducible rfl
       rotate_left
       ·simp only [Act.put,List.setIfInBounds_toArray,List.set_cons_zero,List.set_cons_succ,i64_w,i32_w]
        rfl
       refine pure_ (i:=9) (N:=some 57) (v:=?_) (a':=?_) #[true,true,true,true,true,true,false,true,true,true,true,false,false,false,false,false,false] rfl rfl (any_of HT_.out (by kernel_rfl)) (fun _ _ _ h => h) (Or.inl ⟨by rfl,?_⟩) ?_ ?_
       rotate_left
       ·intro w'
        go_simp
        with_reducible rfl
       rotate_left
       ·simp only [Act.put,List.setIfInBounds_toArray,List.set_cons_zero,List.set_cons_succ,i64_w,i32_w]
        rfl
       refine take_ (i:=11) (N:=some 59) (v:=?_) (a':=?_) #[true,true,true,true,true,true,false,true,true,true,true,true,false,false,false,false,false] rfl rfl (take_ofW HT_.out HW_.out (by kernel_rfl)) (fun _ _ _ h => h) (Or.inl ⟨by rfl,?_⟩) hHeld ?_ ?_
       rotate_left
       ·rintro w' ⟨s0,s1,s2,s3,s4,s5,s6,s7⟩
        go_simp
        with_reducible rfl
       rotate_left
       ·simp only [Act.put,List.setIfInBounds_toArray,List.set_cons_zero,List.set_cons_succ,i64_w,i32_w]
        rfl
       refine pure_ (i:=12) (N:=some 60) (v:=?_) (a':=?_) #[true,true,true,true,true,true,false,true,true,true,true,true,true,false,false,false,false] rfl rfl (any_of HT_.out (by kernel_rfl)) (fun _ _ _ h => h) (Or.inl ⟨by rfl,?_⟩) ?_ ?_
       rotate_left
       ·intro w'
        go_simp
        with_reducible rfl
       rotate_left
       ·simp only [Act.put,List.setIfInBounds_toArray,List.set_cons_zero,List.set_cons_succ,i64_w,i32_w]
        rfl
       refine pure_ (i:=13) (N:=some 61) (v:=?_) (a':=?_) #[true,true,true,true,true,true,false,true,true,true,true,true,true,true,false,false,false] rfl rfl (any_of HT_.out (by kernel_rfl)) (fun _ _ _ h => h) (Or.inl ⟨by rfl,?_⟩) ?_ ?_
       rotate_left
       ·intro w'
        go_simp
        with_reducible rfl
       rotate_left
       ·simp only [Act.put,List.setIfInBounds_toArray,List.set_cons_zero,List.set_cons_succ,i64_w,i32_w]
        rfl
       refine pure_ (i:=14) (N:=some 62) (v:=?_) (a':=?_) #[true,true,true,true,true,true,false,true,true,true,true,true,true,true,true,false,false] rfl rfl (any_of HT_.out (by kernel_rfl)) (fun _ _ _ h => h) (Or.inl ⟨by rfl,?_⟩) ?_ ?_
       rotate_left
       ·intro w'
        go_simp
        with_reducible rfl
       rotate_left
       ·simp only [Act.put,List.setIfInBounds_toArray,List.set_cons_zero,List.set_cons_succ,i64_w,i32_w]
        rfl
       refine one_ (i:=6) (N:=some 54) #[true,true,true,true,true,true,true,true,true,true,true,true,true,true,true,false,false] rfl rfl (one_of HT_.out (by kernel_rfl)) (by decide) (fun K hK => ?_)
       refine goes_ Tryz.func56 (by kernel_rfl) rfl #[.int .i64 (a1_3.size:Int),.int .i64 (a0_3.size:Int)] (by rfl) rfl rfl (by (try simp only [List.map_toArray,List.map_cons,List.map_nil]);first|done|rfl|(simp only [List.length_drop,List.length_take];rfl)) ?_
       with_reducible refine (transhumanceref2_sign.calls (a1_3.size:Int) (a0_3.size:Int) t252 _ A25.out).mono ?_
       rintro e w' ⟨rfl,⟨nd,rfl⟩⟩
       refine ⟨_,rfl,?_⟩
       refine hK.out _ _ ⟨(blk_cell BK243.out 0).trans rfl,(blk_cell BK243.out 1).trans rfl,(blk_cell BK243.out 2).trans rfl,(blk_cell BK243.out 3).trans rfl,(blk_cell BK242.out 0).trans rfl,(blk_cell BK242.out 1).trans rfl,(blk_cell BK242.out 2).trans rfl,(blk_cell BK242.out 3).trans rfl⟩ (fun hHeld => ?_)
       clear hK K
       refine norm_ (a':=?_) ?_ ?_
       rotate_left
       ·show Act.put _ (some 54) _=_
        simp only [Act.put,List.setIfInBounds_toArray,List.set_cons_zero,List.set_cons_succ,i64_w,i32_w]
        rfl
       refine pure_ (i:=15) (N:=some 63) (v:=?_) (a':=?_) #[true,true,true,true,true,true,true,true,true,true,true,true,true,true,true,true,false] rfl rfl (any_of HT_.out (by kernel_rfl)) (fun _ _ _ h => h) (Or.inl ⟨by rfl,?_⟩) ?_ ?_
       rotate_left
       ·intro w'
        go_simp
        with_reducible rfl
       rotate_left
       ·simp only [Act.put,List.setIfInBounds_toArray,List.set_cons_zero,List.set_cons_succ,i64_w,i32_w]
        rfl
       refine pure_ (i:=16) (N:=some 4) (v:=?_) (a':=?_) #[true,true,true,true,true,true,true,true,true,true,true,true,true,true,true,true,true] rfl rfl (any_of HT_.out (by kernel_rfl)) (fun _ _ _ h => h) (Or.inl ⟨by rfl,?_⟩) ?_ ?_
       rotate_left
       ·intro w'
        go_simp
        with_reducible rfl
       rotate_left
       ·simp only [Act.put,List.setIfInBounds_toArray,List.set_cons_zero,List.set_cons_succ,i64_w,i32_w]
        rfl
       refine done_ (done_of HT_.out (by kernel_rfl)) ?_
       try go_wp2
       go_ret
       exact ⟨by first|rfl|(simp [errW_none,errW_some] <;> rfl)|(simp only [← hji26];first|rfl|(simp [errW_none,errW_some] <;> rfl))|(simp [*,errW_none,errW_some] <;> rfl),by repeat (first|(with_reducible first|exact HB.out|apply below_alloc|apply pw_below_drewN|apply below_drew1|refine below_set ?_ GE242.out|refine below_set ?_ GE243.out)|exact HB.out)⟩
      ·replace c24:=Bool.eq_false_iff.mpr c24
       subst c24
       have H1:((transhumanceref2_words.f kj16 a0_3).bind fun t253 => ((transhumanceref2_words.f kj16 a1_3).bind fun t256 => (transhumanceref2_Cmp.l1 kj16 t253 t256 0)))=some r:=by rw [if_neg (show ¬ (false=true) by decide)] at H;exact H
       clear H
       have H:=H1
       clear H1
       replace H:=Option.bind_eq_some_iff.mp H
       obtain ⟨t253,A280,H⟩:=H
       replace H:((transhumanceref2_words.f kj16 a1_3).bind fun t256 => (transhumanceref2_Cmp.l1 kj16 t253 t256 0))=some r:=H
       have A28:=Aside0.mk A280
       clear A280
       replace H:=Option.bind_eq_some_iff.mp H
       obtain ⟨t256,A290,H⟩:=H
       replace H:(transhumanceref2_Cmp.l1 kj16 t253 t256 0)=some r:=H
       have A29:=Aside0.mk A290
       clear A290
       have H':=Aside0.mk H
       clear H
       try go_wp2
       have n0_:=Aside0.mk (blk_drew BK242.out)
       have n1_:=Aside0.mk (blk_drew BK243.out)
       have n2_:=Aside0.mk (below_drew1 HB.out)
       clear BK242
       clear BK243
       clear HB
       have BK242:=n0_
       have BK243:=n1_
       have HB:=n2_
       clear n0_ n1_ n2_
       refine start_ (n:=8) (S:=fun w' => w'.cell? ⟨gb242,0,none⟩=some (.int .i64 a0_0)∧w'.cell? ⟨gb242,1,none⟩=some (.int .i64 a0_1)∧w'.cell? ⟨gb242,2,none⟩=some (.int .i64 a0_2)∧w'.cell? ⟨gb242,3,none⟩=some (.string a0_3)∧w'.cell? ⟨gb243,0,none⟩=some (.int .i64 a1_0)∧w'.cell? ⟨gb243,1,none⟩=some (.int .i64 a1_1)∧w'.cell? ⟨gb243,2,none⟩=some (.int .i64 a1_2)∧w'.cell? ⟨gb243,3,none⟩=some (.string a1_3)) (ds:=[]) #[false,false,false,false,false,false,false,false] (by kernel_rfl) rfl rfl ⟨(blk_cell BK242.out 0).trans rfl,(blk_cell BK242.out 1).trans rfl,(blk_cell BK242.out 2).trans rfl,(blk_cell BK242.out 3).trans rfl,(blk_cell BK243.out 0).trans rfl,(blk_cell BK243.out 1).trans rfl,(blk_cell BK243.out 2).trans rfl,(blk_cell BK243.out 3).trans rfl⟩ (fun hHeld => ?_);refine with_tabW transhumanceref2_Cmp.tab9 transhumanceref2_Cmp.bits9 (fun HT_ HW_ => ?_)
       generalize wc.drew=w30 at BK242 BK243 HB hHeld ⊢
       refine pure_ (i:=0) (N:=some 64) (v:=?_) (a':=?_) #[true,false,false,false,false,false,false,false] rfl rfl (any_of HT_.out (by kernel_rfl)) (fun _ _ _ h => h) (Or.inl ⟨by rfl,?_⟩) ?_ ?_
       rotate_left
       ·intro w'
        go_simp
        with_reducible rfl
       rotate_left
       ·simp only [Act.put,List.setIfInBounds_toArray,List.set_cons_zero,List.set_cons_succ,i64_w,i32_w]
        rfl
       refine pure_ (i:=3) (N:=some 67) (v:=?_) (a':=?_) #[true,false,false,true,false,false,false,false] rfl rfl (any_of HT_.out (by kernel_rfl)) (fun _ _ _ h => h) (Or.inl ⟨by rfl,?_⟩) ?_ ?_
       rotate_left
       ·intro w'
        go_simp
        with_reducible rfl
       rotate_left
       ·simp only [Act.put,List.setIfInBounds_toArray,List.set_cons_zero,List.set_cons_succ,i64_w,i32_w]
        rfl
       refine take_ (i:=1) (N:=some 65) (v:=?_) (a':=?_) #[true,true,false,true,false,false,false,false] rfl rfl (take_ofW HT_.out HW_.out (by kernel_rfl)) (fun _ _ _ h => h) (Or.inl ⟨by rfl,?_⟩) hHeld ?_ ?_
       rotate_left
       ·rintro w' ⟨s0,s1,s2,s3,s4,s5,s6,s7⟩
        go_simp
        with_reducible rfl
       rotate_left
       ·simp only [Act.put,List.setIfInBounds_toArray,List.set_cons_zero,List.set_cons_succ,i64_w,i32_w]
        rfl
       refine take_ (i:=4) (N:=some 68) (v:=?_) (a':=?_) #[true,true,false,true,true,false,false,false] rfl rfl (take_ofW HT_.out HW_.out (by kernel_rfl)) (fun _ _ _ h => h) (Or.inl ⟨by rfl,?_⟩) hHeld ?_ ?_
       rotate_left
       ·rintro w' ⟨s0,s1,s2,s3,s4,s5,s6,s7⟩
        go_simp
        with_reducible rfl
       rotate_left
       ·simp only [Act.put,List.setIfInBounds_toArray,List.set_cons_zero,List.set_cons_succ,i64_w,i32_w]
        rfl
       refine one_ (i:=2) (N:=some 66) #[true,true,true,true,true,false,false,false] rfl rfl (one_of HT_.out (by kernel_rfl)) (by decide) (fun K hK => ?_)
       refine goes_ Tryz.func57 (by kernel_rfl) rfl #[.string a0_3] (by rfl) rfl rfl (by (try simp only [List.map_toArray,List.map_cons,List.map_nil]);first|done|rfl|(simp only [List.length_drop,List.length_take];rfl)) ?_
       with_reducible refine (transhumanceref2_words.calls kj16 a0_3 t253 _ A28.out).mono ?_
       rintro e w31 ⟨v254,rfl,ho0,hb⟩
       refine ⟨_,rfl,?_⟩
       have n0_:=Aside0.mk (Kd.R_lower ho0 (below_size (by repeat (first|(with_reducible first|exact HB.out|apply below_alloc|apply pw_below_drewN|apply below_drew1|refine below_set ?_ GE242.out|refine below_set ?_ GE243.out)|exact HB.out))))
       have n1_:=Aside0.mk (blk_below (g:=gb242) (o:=.cells #[.int .i64 a0_0,.int .i64 a0_1,.int .i64 a0_2,.string a0_3] 43 (0,0)) (by (with_reducible repeat (first|refine blk_drewN ?_ _|refine blk_drew ?_|refine blk_alloc ?_ _));exact BK242.out) hb)
       have n2_:=Aside0.mk (blk_below (g:=gb243) (o:=.cells #[.int .i64 a1_0,.int .i64 a1_1,.int .i64 a1_2,.string a1_3] 43 (0,0)) (by (with_reducible repeat (first|refine blk_drewN ?_ _|refine blk_drew ?_|refine blk_alloc ?_ _));exact BK243.out) hb)
       have n3_:=Aside0.mk (below_step (by repeat (first|(with_reducible first|exact HB.out|apply below_alloc|apply pw_below_drewN|apply below_drew1|refine below_set ?_ GE242.out|refine below_set ?_ GE243.out)|exact HB.out)) hb)
       clear BK242
       clear BK243
       clear HB
       have HO255:=n0_
       have BK242:=n1_
       have BK243:=n2_
       have HB:=n3_
       clear n0_ n1_ n2_ n3_
       (try clear hb)
       (try clear hb2)
       (try clear hk)
       (try clear hi)
       (try clear ho0)
       refine hK.out _ _ ⟨(blk_cell BK242.out 0).trans rfl,(blk_cell BK242.out 1).trans rfl,(blk_cell BK242.out 2).trans rfl,(blk_cell BK242.out 3).trans rfl,(blk_cell BK243.out 0).trans rfl,(blk_cell BK243.out 1).trans rfl,(blk_cell BK243.out 2).trans rfl,(blk_cell BK243.out 3).trans rfl⟩ (fun hHeld => ?_)
       clear hK K
       refine norm_ (a':=?_) ?_ ?_
       rotate_left
       ·show Act.put _ (some 66) _=_
        simp only [Act.put,List.setIfInBounds_toArray,List.set_cons_zero,List.set_cons_succ,i64_w,i32_w]
        rfl
       refine one_ (i:=5) (N:=some 69) #[true,true,true,true,true,true,false,false] rfl rfl (one_of HT_.out (by kernel_rfl)) (by decide) (fun K hK => ?_)
       refine goes_ Tryz.func57 (by kernel_rfl) rfl #[.string a1_3] (by rfl) rfl rfl (by (try simp only [List.map_toArray,List.map_cons,List.map_nil]);first|done|rfl|(simp only [List.length_drop,List.length_take];rfl)) ?_
       with_reducible refine (transhumanceref2_words.calls kj16 a1_3 t256 _ A29.out).mono ?_
       rintro e w32 ⟨v257,rfl,ho0,hb⟩
       refine ⟨_,rfl,?_⟩
       have n0_:=Aside0.mk (Kd.R_elder' (by (with_reducible repeat (first|apply Kd.R_alloc|apply Kd.R_drewN|apply Kd.R_drew));exact HO255.out) (Kd.R_base ho0) hb)
       have n1_:=Aside0.mk (Kd.R_lower (Kd.R_new' ho0 (Kd.R_lt (by (with_reducible repeat (first|apply Kd.R_alloc|apply Kd.R_drewN|apply Kd.R_drew));exact HO255.out))) (below_size (by repeat (first|(with_reducible first|exact HB.out|apply below_alloc|apply pw_below_drewN|apply below_drew1|refine below_set ?_ GE242.out|refine below_set ?_ GE243.out)|exact HB.out))))
       have n2_:=Aside0.mk (blk_below (g:=gb242) (o:=.cells #[.int .i64 a0_0,.int .i64 a0_1,.int .i64 a0_2,.string a0_3] 43 (0,0)) (by (with_reducible repeat (first|refine blk_drewN ?_ _|refine blk_drew ?_|refine blk_alloc ?_ _));exact BK242.out) hb)
       have n3_:=Aside0.mk (blk_below (g:=gb243) (o:=.cells #[.int .i64 a1_0,.int .i64 a1_1,.int .i64 a1_2,.string a1_3] 43 (0,0)) (by (with_reducible repeat (first|refine blk_drewN ?_ _|refine blk_drew ?_|refine blk_alloc ?_ _));exact BK243.out) hb)
       have n4_:=Aside0.mk (below_step (by repeat (first|(with_reducible first|exact HB.out|apply below_alloc|apply pw_below_drewN|apply below_drew1|refine below_set ?_ GE242.out|refine below_set ?_ GE243.out)|exact HB.out)) hb)
       clear HO255
       clear BK242
       clear BK243
       clear HB
       have HO255:=n0_
       have HO258:=n1_
       have BK242:=n2_
       have BK243:=n3_
       have HB:=n4_
       clear n0_ n1_ n2_ n3_ n4_
       (try clear hb)
       (try clear hb2)
       (try clear hk)
       (try clear hi)
       (try clear ho0)
       refine hK.out _ _ ⟨(blk_cell BK242.out 0).trans rfl,(blk_cell BK242.out 1).trans rfl,(blk_cell BK242.out 2).trans rfl,(blk_cell BK242.out 3).trans rfl,(blk_cell BK243.out 0).trans rfl,(blk_cell BK243.out 1).trans rfl,(blk_cell BK243.out 2).trans rfl,(blk_cell BK243.out 3).trans rfl⟩ (fun hHeld => ?_)
       clear hK K
       refine norm_ (a':=?_) ?_ ?_
       rotate_left
       ·show Act.put _ (some 69) _=_
        simp only [Act.put,List.setIfInBounds_toArray,List.set_cons_zero,List.set_cons_succ,i64_w,i32_w]
        rfl
       refine pure_ (i:=6) (N:=some 7) (v:=?_) (a':=?_) #[true,true,true,true,true,true,true,false] rfl rfl (any_of HT_.out (by kernel_rfl)) (fun _ _ _ h => h) (Or.inl ⟨by rfl,?_⟩) ?_ ?_
       rotate_left
       ·intro w'
        go_simp
        with_reducible rfl
       rotate_left
       ·simp only [Act.put,List.setIfInBounds_toArray,List.set_cons_zero,List.set_cons_succ,i64_w,i32_w]
        rfl
       refine pure_ (i:=7) (N:=some 8) (v:=?_) (a':=?_) #[true,true,true,true,true,true,true,true] rfl rfl (any_of HT_.out (by kernel_rfl)) (fun _ _ _ h => h) (Or.inl ⟨by rfl,?_⟩) ?_ ?_
       rotate_left
       ·intro w'
        go_simp
        with_reducible rfl
       rotate_left
       ·simp only [Act.put,List.setIfInBounds_toArray,List.set_cons_zero,List.set_cons_succ,i64_w,i32_w]
        rfl
       refine done_ (done_of HT_.out (by kernel_rfl)) ?_
       try go_wp2
       go_loopg [9] kj16 (fun kq v9 w' => ∃ (x9_3:Int),v9=.int .i64 x9_3∧Aside0 (transhumanceref2_Cmp.l1 kq t253 t256 x9_3=some r)∧Aside0 (kq≤kj16)∧Aside0 (Kd.R Kd.string 9 w' w.heap.size (fun k_ => some k_≠(v257:Value).ownBlock) v254 t253)∧Aside0 (Kd.R Kd.string 9 w' w.heap.size (fun k_ => some k_≠(v254:Value).ownBlock) v257 t256)∧Aside0 (w'.heap[gb242]?=some (.cells #[.int .i64 a0_0,.int .i64 a0_1,.int .i64 a0_2,.string a0_3] 43 (0,0)))∧Aside0 (w'.heap[gb243]?=some (.cells #[.int .i64 a1_0,.int .i64 a1_1,.int .i64 a1_2,.string a1_3] 43 (0,0)))∧Aside0 (Below w.heap.size w w'))
       case atStart => exact ⟨(0),(by first|rfl|(simp;done)|(simp [*];done)|(simp;exact (fun l_:List UInt8 => by cases l_ <;> rfl:∀ l_:List UInt8,l_.isEmpty=!(l_ != [])) _)),H',⟨Nat.le_refl _⟩,⟨by (with_reducible repeat (first|apply Kd.R_alloc|apply Kd.R_drewN|apply Kd.R_drew));exact Kd.R_mono HO255.out (fun _ hk => hk.2)⟩,⟨by (with_reducible repeat (first|apply Kd.R_alloc|apply Kd.R_drewN|apply Kd.R_drew));exact Kd.R_mono HO258.out (fun _ hk => hk.2)⟩,⟨by (with_reducible repeat (first|refine blk_drewN ?_ _|refine blk_drew ?_|refine blk_alloc ?_ _));exact BK242.out⟩,⟨by (with_reducible repeat (first|refine blk_drewN ?_ _|refine blk_drew ?_|refine blk_alloc ?_ _));exact BK243.out⟩,⟨by repeat (first|(with_reducible first|exact HB.out|apply below_alloc|apply pw_below_drewN|apply below_drew1|refine below_set ?_ GE242.out|refine below_set ?_ GE243.out)|exact HB.out)⟩⟩
       case round =>
        clear H'
        try clear c1
        try clear c2
        try clear p2
        try clear q2
        try clear hx2
        try clear c5
        try clear p6
        try clear c11
        try clear c11b0
        try clear c12
        try clear c12b0
        try clear c13
        try clear c13b0
        try clear c14
        try clear c14b0
        try clear c14b1
        try clear c18
        try clear c18b0
        try clear c18b1
        try clear c19
        try clear c21
        try clear c24
        try clear p25
        try clear q25
        try clear hx25
        try clear hcz20_0
        try clear hcz20_1
        try clear hcz20_2
        try clear hcz20_3
        try clear hcz22_0
        try clear hcz22_1
        try clear hcz22_2
        try clear hcz22_3
        try clear hcz23_0
        try clear hcz23_1
        try clear hcz23_2
        try clear hcz23_3
        try clear hfz20_0
        try clear hfz20_1
        try clear hfz20_2
        try clear hfz20_3
        try clear hfz22_0
        try clear hfz22_1
        try clear hfz22_2
        try clear hfz22_3
        try clear hfz23_0
        try clear hfz23_1
        try clear hfz23_2
        try clear hfz23_3
        try clear hx250_0
        try clear hx251_0
        try clear p2
        try clear p250
        try clear p251
        try clear p6
        try clear q2
        try clear q250
        try clear q251
        obtain ⟨x9_3,rfl,HA,HK3,HO_7,HO_8,BK242,BK243,HB⟩:=hrel
        cases gk with
        | zero => exact absurd HA.out (by simp [transhumanceref2_Cmp.l1])
        | succ k3 =>
         have H:=HA.out
         clear HA
         simp only [transhumanceref2_Cmp.l1] at H
         have HC33:=Aside0.mk H
         clear H
         go_upto_region 11 with (fail)
         go_cut [79] (fun v79 wc => ∃ (kq:Nat) (x79_32:Bool),v79=.bool x79_32∧Aside0 (transhumanceref2_Cmp.j3 kq t253 t256 x9_3 x79_32=some r)∧Aside0 (kq≤k3)∧Aside0 (Kd.R Kd.string 9 wc w.heap.size (fun k_ => some k_≠(v257:Value).ownBlock) v254 t253)∧Aside0 (Kd.R Kd.string 9 wc w.heap.size (fun k_ => some k_≠(v254:Value).ownBlock) v257 t256)∧Aside0 (wc.heap[gb242]?=some (.cells #[.int .i64 a0_0,.int .i64 a0_1,.int .i64 a0_2,.string a0_3] 43 (0,0)))∧Aside0 (wc.heap[gb243]?=some (.cells #[.int .i64 a1_0,.int .i64 a1_1,.int .i64 a1_2,.string a1_3] 43 (0,0)))∧Aside0 (Below w.heap.size w wc))
         case first =>
          have H:=HC33.out
          clear HC33
          by_cases c34:x9_3<(t253.length:Int)
          ·rw [if_pos c34] at H
           have c34b0:decide (x9_3<(t253.length:Int))=true:=decide_eq_true c34
           clear c34
           (first|rw [c34b0]|(simp only [i64_w,i32_w];rw [c34b0])|skip)
           have H':=Aside0.mk H
           clear H
           obtain ⟨Ao35,co35,eo35⟩:=Kd.R_slice HO_7.out
           subst eo35
           obtain ⟨Ao36,co36,eo36⟩:=Kd.R_slice HO_8.out
           subst eo36
           go_wp2
           go_meet
           case rel => exact ⟨_,(decide (x9_3<(t256.length:Int))),(by first|rfl|(simp;done)|(simp [*];done)|(simp;exact (fun l_:List UInt8 => by cases l_ <;> rfl:∀ l_:List UInt8,l_.isEmpty=!(l_ != [])) _)),H',⟨by have:=HK1.out;have:=HJ16.out;have:=HK3.out;first|omega|exact Nat.le_refl _⟩,⟨by (with_reducible repeat (first|apply Kd.R_alloc|apply Kd.R_drewN|apply Kd.R_drew));exact HO_7.out⟩,⟨by (with_reducible repeat (first|apply Kd.R_alloc|apply Kd.R_drewN|apply Kd.R_drew));exact HO_8.out⟩,⟨by (with_reducible repeat (first|refine blk_drewN ?_ _|refine blk_drew ?_|refine blk_alloc ?_ _));exact BK242.out⟩,⟨by (with_reducible repeat (first|refine blk_drewN ?_ _|refine blk_drew ?_|refine blk_alloc ?_ _));exact BK243.out⟩,⟨by repeat (first|(with_reducible first|exact HB.out|apply below_alloc|apply pw_below_drewN|apply below_drew1|refine below_set ?_ GE242.out|refine below_set ?_ GE243.out)|exact HB.out)⟩⟩
          ·rw [if_neg c34] at H
           have c34b0:decide (x9_3<(t253.length:Int))=false:=decide_eq_false c34
           clear c34
           (first|rw [c34b0]|(simp only [i64_w,i32_w];rw [c34b0])|skip)
           have H':=Aside0.mk H
           clear H
           obtain ⟨Ao37,co37,eo37⟩:=Kd.R_slice HO_7.out
           subst eo37
           go_wp2
           go_meet
           case rel => exact ⟨_,(false),(by first|rfl|(simp;done)|(simp [*];done)|(simp;exact (fun l_:List UInt8 => by cases l_ <;> rfl:∀ l_:List UInt8,l_.isEmpty=!(l_ != [])) _)),H',⟨by have:=HK1.out;have:=HJ16.out;have:=HK3.out;first|omega|exact Nat.le_refl _⟩,⟨by (with_reducible repeat (first|apply Kd.R_alloc|apply Kd.R_drewN|apply Kd.R_drew));exact HO_7.out⟩,⟨by (with_reducible repeat (first|apply Kd.R_alloc|apply Kd.R_drewN|apply Kd.R_drew));exact HO_8.out⟩,⟨by (with_reducible repeat (first|refine blk_drewN ?_ _|refine blk_drew ?_|refine blk_alloc ?_ _));exact BK242.out⟩,⟨by (with_reducible repeat (first|refine blk_drewN ?_ _|refine blk_drew ?_|refine blk_alloc ?_ _));exact BK243.out⟩,⟨by repeat (first|(with_reducible first|exact HB.out|apply below_alloc|apply pw_below_drewN|apply below_drew1|refine below_set ?_ GE242.out|refine below_set ?_ GE243.out)|exact HB.out)⟩⟩
         case rest =>
          clear HC33
          try clear c1
          try clear c2
          try clear p2
          try clear q2
          try clear hx2
          try clear c3
          try clear c5
          try clear p6
          try clear c11
          try clear c11b0
          try clear c12
          try clear c12b0
          try clear c13
          try clear c13b0
          try clear c14
          try clear c14b0
          try clear c14b1
          try clear c18
          try clear c18b0
          try clear c18b1
          try clear c19
          try clear c21
          try clear c24
          try clear p25
          try clear q25
          try clear hx25
          try clear c34
          try clear c34b0
          try clear hcz20_0
          try clear hcz20_1
          try clear hcz20_2
          try clear hcz20_3
          try clear hcz22_0
          try clear hcz22_1
          try clear hcz22_2
          try clear hcz22_3
          try clear hcz23_0
          try clear hcz23_1
          try clear hcz23_2
          try clear hcz23_3
          try clear hfz20_0
          try clear hfz20_1
          try clear hfz20_2
          try clear hfz20_3
          try clear hfz22_0
          try clear hfz22_1
          try clear hfz22_2
          try clear hfz22_3
          try clear hfz23_0
          try clear hfz23_1
          try clear hfz23_2
          try clear hfz23_3
          try clear hx250_0
          try clear hx251_0
          try clear p2
          try clear p25
          try clear p250
          try clear p251
          try clear p6
          try clear q2
          try clear q25
          try clear q250
          try clear q251
          obtain ⟨kq,x79_32,rfl,HA,HJ32,HO_7,HO_8,BK242,BK243,HB⟩:=hcut
          cases kq with
          | zero => exact absurd HA.out (by simp [transhumanceref2_Cmp.j3])
          | succ kj32 =>
           have H:=HA.out
           clear HA
           simp only [transhumanceref2_Cmp.j3] at H
           by_cases c38:x79_32=true
           ·subst c38
            have H1:(if 0≤x9_3 then (if x9_3<(t253.length:Int) then (if x9_3<(t256.length:Int) then ((transhumanceref2_order.f (rdOf ByteArray.empty t253 x9_3) (rdOf ByteArray.empty t256 x9_3)).bind fun t261 => (if t261=0 then (transhumanceref2_Cmp.l1 kj32 t253 t256 (wrap64 (x9_3+1))) else (some t261))) else (none)) else (none)) else (none))=some r:=by rw [if_pos rfl] at H;exact H
            clear H
            have H:=H1
            clear H1
            by_cases c39:0≤x9_3
            ·rw [if_pos c39] at H
             have c39b0:decide (0≤x9_3)=true:=decide_eq_true c39
             clear c39
             by_cases c40:x9_3<(t253.length:Int)
             ·rw [if_pos c40] at H
              have c40b0:decide (x9_3<(t253.length:Int))=true:=decide_eq_true c40
              clear c40
              by_cases c41:x9_3<(t256.length:Int)
              ·rw [if_pos c41] at H
               have c41b0:decide (x9_3<(t256.length:Int))=true:=decide_eq_true c41
               clear c41
               replace H:=Option.bind_eq_some_iff.mp H
               obtain ⟨t261,A420,H⟩:=H
               replace H:(if t261=0 then (transhumanceref2_Cmp.l1 kj32 t253 t256 (wrap64 (x9_3+1))) else (some t261))=some r:=H
               have A42:=Aside0.mk A420
               clear A420
               by_cases c43:t261=0
               ·rw [if_pos c43] at H
                have c43b0:(t261 == 0)=true:=beq_iff_eq.mpr c43
                have c43b1:(t261 != 0)=false:=bne_eq_false_iff_eq.mpr c43
                clear c43
                have H':=Aside0.mk H
                clear H
                try go_wp2
                have n0_:=Aside0.mk (Kd.R_drew HO_7.out)
                have n1_:=Aside0.mk (Kd.R_drew HO_8.out)
                have n2_:=Aside0.mk (blk_drew BK242.out)
                have n3_:=Aside0.mk (blk_drew BK243.out)
                have n4_:=Aside0.mk (below_drew1 HB.out)
                clear HO_7
                clear HO_8
                clear BK242
                clear BK243
                clear HB
                have HO_7:=n0_
                have HO_8:=n1_
                have BK242:=n2_
                have BK243:=n3_
                have HB:=n4_
                clear n0_ n1_ n2_ n3_ n4_
                obtain ⟨Ao45,co45,eo45⟩:=Kd.R_slice HO_7.out
                (first|subst eo45|(injection eo45 with f1_ f2_ f3_;have f4_:=f1_.symm;have f5_:=f3_.symm;clear f1_ f2_ f3_;subst f4_;subst f5_))
                have p259:0≤(x9_3:Int):=of_decide_eq_true (by first|(with_reducible assumption)|assumption)
                have q259:x9_3<(t253.length:Int):=of_decide_eq_true (by first|(with_reducible assumption)|assumption)
                obtain ⟨ad259,e259,hx259_0⟩:=Kd.at_string (Kd.R_reads' HO_7.out).2.2 x9_3 p259 q259
                cases e259
                replace p259:=eq_true p259
                replace q259:=eq_true q259
                obtain ⟨Ao46,co46,eo46⟩:=Kd.R_slice HO_8.out
                (first|subst eo46|(injection eo46 with f1_ f2_ f3_;have f4_:=f1_.symm;have f5_:=f3_.symm;clear f1_ f2_ f3_;subst f4_;subst f5_))
                have p260:0≤(x9_3:Int):=of_decide_eq_true (by first|(with_reducible assumption)|assumption)
                have q260:x9_3<(t256.length:Int):=of_decide_eq_true (by first|(with_reducible assumption)|assumption)
                obtain ⟨ad260,e260,hx260_0⟩:=Kd.at_string (Kd.R_reads' HO_8.out).2.2 x9_3 p260 q260
                cases e260
                replace p260:=eq_true p260
                replace q260:=eq_true q260
                refine start_ (n:=10) (S:=fun w' => w'.cell? (ad259.add (x9_3).toNat)=some (.string (rdOf ByteArray.empty t253 x9_3))∧w'.cell? (ad260.add (x9_3).toNat)=some (.string (rdOf ByteArray.empty t256 x9_3))) (ds:=[]) #[false,false,false,false,false,false,false,false,false,false] (by kernel_rfl) rfl rfl ⟨hx259_0,hx260_0⟩ (fun hHeld => ?_);refine with_tabW transhumanceref2_Cmp.tab13 transhumanceref2_Cmp.bits13 (fun HT_ HW_ => ?_)
                generalize wc.drew=w44 at HO_7 HO_8 BK242 BK243 HB hx259_0 hx260_0 hHeld ⊢
                refine pure_ (i:=0) (N:=some 82) (v:=?_) (a':=?_) #[true,false,false,false,false,false,false,false,false,false] rfl rfl (any_of HT_.out (by kernel_rfl)) (fun _ _ _ h => h) (Or.inl ⟨by rfl,?_⟩) ?_ ?_
                rotate_left
                ·intro w'
                 go_simp
                 with_reducible rfl
                rotate_left
                ·simp only [Act.put,List.setIfInBounds_toArray,List.set_cons_zero,List.set_cons_succ,i64_w,i32_w]
                 rfl
                refine pure_ (i:=1) (N:=some 83) (v:=?_) (a':=?_) #[true,true,false,false,false,false,false,false,false,false] rfl rfl (any_of HT_.out (by kernel_rfl)) (fun _ _ _ h => h) (Or.inl ⟨by rfl,?_⟩) ?_ ?_
                rotate_left
                ·intro w'
                 go_simp
                 with_reducible rfl
                rotate_left
                ·simp only [Act.put,List.setIfInBounds_toArray,List.set_cons_zero,List.set_cons_succ,i64_w,i32_w]
                 rfl
                refine pure_ (i:=2) (N:=some 84) (v:=?_) (a':=?_) #[true,true,true,false,false,false,false,false,false,false] rfl rfl (any_of HT_.out (by kernel_rfl)) (fun _ _ _ h => h) (Or.inl ⟨by rfl,?_⟩) ?_ ?_
                rotate_left
                ·intro w'
                 go_simp
                 with_reducible rfl
                rotate_left
                ·simp only [Act.put,List.setIfInBounds_toArray,List.set_cons_zero,List.set_cons_succ,i64_w,i32_w]
                 rfl
                refine pure_ (i:=4) (N:=some 86) (v:=?_) (a':=?_) #[true,true,true,false,true,false,false,false,false,false] rfl rfl (any_of HT_.out (by kernel_rfl)) (fun _ _ _ h => h) (Or.inl ⟨by rfl,?_⟩) ?_ ?_
                rotate_left
                ·intro w'
                 go_simp
                 with_reducible rfl
                rotate_left
                ·simp only [Act.put,List.setIfInBounds_toArray,List.set_cons_zero,List.set_cons_succ,i64_w,i32_w]
                 rfl
                refine pure_ (i:=5) (N:=some 87) (v:=?_) (a':=?_) #[true,true,true,false,true,true,false,false,false,false] rfl rfl (any_of HT_.out (by kernel_rfl)) (fun _ _ _ h => h) (Or.inl ⟨by rfl,?_⟩) ?_ ?_
                rotate_left
                ·intro w'
                 go_simp
                 with_reducible rfl
                rotate_left
                ·simp only [Act.put,List.setIfInBounds_toArray,List.set_cons_zero,List.set_cons_succ,i64_w,i32_w]
                 rfl
                refine pure_ (i:=6) (N:=some 88) (v:=?_) (a':=?_) #[true,true,true,false,true,true,true,false,false,false] rfl rfl (any_of HT_.out (by kernel_rfl)) (fun _ _ _ h => h) (Or.inl ⟨by rfl,?_⟩) ?_ ?_
                rotate_left
                ·intro w'
                 go_simp
                 with_reducible rfl
                rotate_left
                ·simp only [Act.put,List.setIfInBounds_toArray,List.set_cons_zero,List.set_cons_succ,i64_w,i32_w]
                 rfl
                refine take_ (i:=3) (N:=some 85) (v:=?_) (a':=?_) #[true,true,true,true,true,true,true,false,false,false] rfl rfl (take_ofW HT_.out HW_.out (by kernel_rfl)) (fun _ _ _ h => h) (Or.inl ⟨by rfl,?_⟩) hHeld ?_ ?_
                rotate_left
                ·rintro w' ⟨s0,s1⟩
                 go_simp
                 with_reducible rfl
                rotate_left
                ·simp only [Act.put,List.setIfInBounds_toArray,List.set_cons_zero,List.set_cons_succ,i64_w,i32_w]
                 rfl
                refine take_ (i:=7) (N:=some 89) (v:=?_) (a':=?_) #[true,true,true,true,true,true,true,true,false,false] rfl rfl (take_ofW HT_.out HW_.out (by kernel_rfl)) (fun _ _ _ h => h) (Or.inl ⟨by rfl,?_⟩) hHeld ?_ ?_
                rotate_left
                ·rintro w' ⟨s0,s1⟩
                 go_simp
                 with_reducible rfl
                rotate_left
                ·simp only [Act.put,List.setIfInBounds_toArray,List.set_cons_zero,List.set_cons_succ,i64_w,i32_w]
                 rfl
                refine one_ (i:=8) (N:=some 90) #[true,true,true,true,true,true,true,true,true,false] rfl rfl (one_of HT_.out (by kernel_rfl)) (by decide) (fun K hK => ?_)
                refine goes_ Tryz.func58 (by kernel_rfl) rfl #[.string (rdOf ByteArray.empty t253 x9_3),.string (rdOf ByteArray.empty t256 x9_3)] (by rfl) rfl rfl (by (try simp only [List.map_toArray,List.map_cons,List.map_nil]);first|done|rfl|(simp only [List.length_drop,List.length_take];rfl)) ?_
                with_reducible refine (transhumanceref2_order.calls (rdOf ByteArray.empty t253 x9_3) (rdOf ByteArray.empty t256 x9_3) t261 _ A42.out).mono ?_
                rintro e w' ⟨rfl,⟨nd,rfl⟩⟩
                refine ⟨_,rfl,?_⟩
                refine hK.out _ _ ⟨hHeld.1,hHeld.2⟩ (fun hHeld => ?_)
                clear hK K
                refine norm_ (a':=?_) ?_ ?_
                rotate_left
                ·show Act.put _ (some 90) _=_
                 simp only [Act.put,List.setIfInBounds_toArray,List.set_cons_zero,List.set_cons_succ,i64_w,i32_w]
                 rfl
                refine pure_ (i:=9) (N:=some 10) (v:=?_) (a':=?_) #[true,true,true,true,true,true,true,true,true,true] rfl rfl (any_of HT_.out (by kernel_rfl)) (fun _ _ _ h => h) (Or.inl ⟨by rfl,?_⟩) ?_ ?_
                rotate_left
                ·intro w'
                 go_simp
                 with_reducible rfl
                rotate_left
                ·simp only [Act.put,List.setIfInBounds_toArray,List.set_cons_zero,List.set_cons_succ,i64_w,i32_w]
                 rfl
                refine done_ (done_of HT_.out (by kernel_rfl)) ?_
                try go_wp2
                go_roundg kj32
                case measure => have:=HK1.out;have:=HJ16.out;have:=HK3.out;have:=HJ32.out;omega
                case rel => exact ⟨(wrap64 (x9_3+1)),(by first|rfl|(simp;done)|(simp [*];done)|(simp;exact (fun l_:List UInt8 => by cases l_ <;> rfl:∀ l_:List UInt8,l_.isEmpty=!(l_ != [])) _)),H',⟨by have:=HK1.out;have:=HJ16.out;have:=HK3.out;have:=HJ32.out;omega⟩,⟨by (with_reducible repeat (first|apply Kd.R_alloc|apply Kd.R_drewN|apply Kd.R_drew));exact HO_7.out⟩,⟨by (with_reducible repeat (first|apply Kd.R_alloc|apply Kd.R_drewN|apply Kd.R_drew));exact HO_8.out⟩,⟨by (with_reducible repeat (first|refine blk_drewN ?_ _|refine blk_drew ?_|refine blk_alloc ?_ _));exact BK242.out⟩,⟨by (with_reducible repeat (first|refine blk_drewN ?_ _|refine blk_drew ?_|refine blk_alloc ?_ _));exact BK243.out⟩,⟨by repeat (first|(with_reducible first|exact HB.out|apply below_alloc|apply pw_below_drewN|apply below_drew1|refine below_set ?_ GE242.out|refine below_set ?_ GE243.out)|exact HB.out)⟩⟩
               ·rw [if_neg c43] at H
                have c43b0:(t261 == 0)=false:=beq_eq_false_iff_ne.mpr c43
                have c43b1:(t261 != 0)=true:=bne_iff_ne.mpr c43
                obtain rfl:=Option.some.inj H
                try go_wp2
                have n0_:=Aside0.mk (Kd.R_drew HO_7.out)
                have n1_:=Aside0.mk (Kd.R_drew HO_8.out)
                have n2_:=Aside0.mk (blk_drew BK242.out)
                have n3_:=Aside0.mk (blk_drew BK243.out)
                have n4_:=Aside0.mk (below_drew1 HB.out)
                clear HO_7
                clear HO_8
                clear BK242
                clear BK243
                clear HB
                have HO_7:=n0_
                have HO_8:=n1_
                have BK242:=n2_
                have BK243:=n3_
                have HB:=n4_
                clear n0_ n1_ n2_ n3_ n4_
                obtain ⟨Ao48,co48,eo48⟩:=Kd.R_slice HO_7.out
                (first|subst eo48|(injection eo48 with f1_ f2_ f3_;have f4_:=f1_.symm;have f5_:=f3_.symm;clear f1_ f2_ f3_;subst f4_;subst f5_))
                have p259:0≤(x9_3:Int):=of_decide_eq_true (by first|(with_reducible assumption)|assumption)
                have q259:x9_3<(t253.length:Int):=of_decide_eq_true (by first|(with_reducible assumption)|assumption)
                obtain ⟨ad259,e259,hx259_0⟩:=Kd.at_string (Kd.R_reads' HO_7.out).2.2 x9_3 p259 q259
                cases e259
                replace p259:=eq_true p259
                replace q259:=eq_true q259
                obtain ⟨Ao49,co49,eo49⟩:=Kd.R_slice HO_8.out
                (first|subst eo49|(injection eo49 with f1_ f2_ f3_;have f4_:=f1_.symm;have f5_:=f3_.symm;clear f1_ f2_ f3_;subst f4_;subst f5_))
                have p260:0≤(x9_3:Int):=of_decide_eq_true (by first|(with_reducible assumption)|assumption)
                have q260:x9_3<(t256.length:Int):=of_decide_eq_true (by first|(with_reducible assumption)|assumption)
                obtain ⟨ad260,e260,hx260_0⟩:=Kd.at_string (Kd.R_reads' HO_8.out).2.2 x9_3 p260 q260
                cases e260
                replace p260:=eq_true p260
                replace q260:=eq_true q260
                refine start_ (n:=10) (S:=fun w' => w'.cell? (ad259.add (x9_3).toNat)=some (.string (rdOf ByteArray.empty t253 x9_3))∧w'.cell? (ad260.add (x9_3).toNat)=some (.string (rdOf ByteArray.empty t256 x9_3))) (ds:=[]) #[false,false,false,false,false,false,false,false,false,false] (by kernel_rfl) rfl rfl ⟨hx259_0,hx260_0⟩ (fun hHeld => ?_);refine with_tabW transhumanceref2_Cmp.tab13 transhumanceref2_Cmp.bits13 (fun HT_ HW_ => ?_)
                generalize wc.drew=w47 at HO_7 HO_8 BK242 BK243 HB hx259_0 hx260_0 hHeld ⊢
                refine pure_ (i:=0) (N:=some 82) (v:=?_) (a':=?_) #[true,false,false,false,false,false,false,false,false,false] rfl rfl (any_of HT_.out (by kernel_rfl)) (fun _ _ _ h => h) (Or.inl ⟨by rfl,?_⟩) ?_ ?_
                rotate_left
                ·intro w'
                 go_simp
                 with_reducible rfl
                rotate_left
                ·simp only [Act.put,List.setIfInBounds_toArray,List.set_cons_zero,List.set_cons_succ,i64_w,i32_w]
                 rfl
                refine pure_ (i:=1) (N:=some 83) (v:=?_) (a':=?_) #[true,true,false,false,false,false,false,false,false,false] rfl rfl (any_of HT_.out (by kernel_rfl)) (fun _ _ _ h => h) (Or.inl ⟨by rfl,?_⟩) ?_ ?_
                rotate_left
                ·intro w'
                 go_simp
                 with_reducible rfl
                rotate_left
                ·simp only [Act.put,List.setIfInBounds_toArray,List.set_cons_zero,List.set_cons_succ,i64_w,i32_w]
                 rfl
                refine pure_ (i:=2) (N:=some 84) (v:=?_) (a':=?_) #[true,true,true,false,false,false,false,false,false,false] rfl rfl (any_of HT_.out (by kernel_rfl)) (fun _ _ _ h => h) (Or.inl ⟨by rfl,?_⟩) ?_ ?_
                rotate_left
                ·intro w'
                 go_simp
                 with_reducible rfl
                rotate_left
                ·simp only [Act.put,List.setIfInBounds_toArray,List.set_cons_zero,List.set_cons_succ,i64_w,i32_w]
                 rfl
                refine pure_ (i:=4) (N:=some 86) (v:=?_) (a':=?_) #[true,true,true,false,true,false,false,false,false,false] rfl rfl (any_of HT_.out (by kernel_rfl)) (fun _ _ _ h => h) (Or.inl ⟨by rfl,?_⟩) ?_ ?_
                rotate_left
                ·intro w'
                 go_simp
                 with_reducible rfl
                rotate_left
                ·simp only [Act.put,List.setIfInBounds_toArray,List.set_cons_zero,List.set_cons_succ,i64_w,i32_w]
                 rfl
                refine pure_ (i:=5) (N:=some 87) (v:=?_) (a':=?_) #[true,true,true,false,true,true,false,false,false,false] rfl rfl (any_of HT_.out (by kernel_rfl)) (fun _ _ _ h => h) (Or.inl ⟨by rfl,?_⟩) ?_ ?_
                rotate_left
                ·intro w'
                 go_simp
                 with_reducible rfl
                rotate_left
                ·simp only [Act.put,List.setIfInBounds_toArray,List.set_cons_zero,List.set_cons_succ,i64_w,i32_w]
                 rfl
                refine pure_ (i:=6) (N:=some 88) (v:=?_) (a':=?_) #[true,true,true,false,true,true,true,false,false,false] rfl rfl (any_of HT_.out (by kernel_rfl)) (fun _ _ _ h => h) (Or.inl ⟨by rfl,?_⟩) ?_ ?_
                rotate_left
                ·intro w'
                 go_simp
                 with_reducible rfl
                rotate_left
                ·simp only [Act.put,List.setIfInBounds_toArray,List.set_cons_zero,List.set_cons_succ,i64_w,i32_w]
                 rfl
                refine take_ (i:=3) (N:=some 85) (v:=?_) (a':=?_) #[true,true,true,true,true,true,true,false,false,false] rfl rfl (take_ofW HT_.out HW_.out (by kernel_rfl)) (fun _ _ _ h => h) (Or.inl ⟨by rfl,?_⟩) hHeld ?_ ?_
                rotate_left
                ·rintro w' ⟨s0,s1⟩
                 go_simp
                 with_reducible rfl
                rotate_left
                ·simp only [Act.put,List.setIfInBounds_toArray,List.set_cons_zero,List.set_cons_succ,i64_w,i32_w]
                 rfl
                refine take_ (i:=7) (N:=some 89) (v:=?_) (a':=?_) #[true,true,true,true,true,true,true,true,false,false] rfl rfl (take_ofW HT_.out HW_.out (by kernel_rfl)) (fun _ _ _ h => h) (Or.inl ⟨by rfl,?_⟩) hHeld ?_ ?_
                rotate_left
                ·rintro w' ⟨s0,s1⟩
                 go_simp
                 with_reducible rfl
                rotate_left
                ·simp only [Act.put,List.setIfInBounds_toArray,List.set_cons_zero,List.set_cons_succ,i64_w,i32_w]
                 rfl
                refine one_ (i:=8) (N:=some 90) #[true,true,true,true,true,true,true,true,true,false] rfl rfl (one_of HT_.out (by kernel_rfl)) (by decide) (fun K hK => ?_)
                refine goes_ Tryz.func58 (by kernel_rfl) rfl #[.string (rdOf ByteArray.empty t253 x9_3),.string (rdOf ByteArray.empty t256 x9_3)] (by rfl) rfl rfl (by (try simp only [List.map_toArray,List.map_cons,List.map_nil]);first|done|rfl|(simp only [List.length_drop,List.length_take];rfl)) ?_
                with_reducible refine (transhumanceref2_order.calls (rdOf ByteArray.empty t253 x9_3) (rdOf ByteArray.empty t256 x9_3) t261 _ A42.out).mono ?_
                rintro e w' ⟨rfl,⟨nd,rfl⟩⟩
                refine ⟨_,rfl,?_⟩
                refine hK.out _ _ ⟨hHeld.1,hHeld.2⟩ (fun hHeld => ?_)
                clear hK K
                refine norm_ (a':=?_) ?_ ?_
                rotate_left
                ·show Act.put _ (some 90) _=_
                 simp only [Act.put,List.setIfInBounds_toArray,List.set_cons_zero,List.set_cons_succ,i64_w,i32_w]
                 rfl
                refine pure_ (i:=9) (N:=some 10) (v:=?_) (a':=?_) #[true,true,true,true,true,true,true,true,true,true] rfl rfl (any_of HT_.out (by kernel_rfl)) (fun _ _ _ h => h) (Or.inl ⟨by rfl,?_⟩) ?_ ?_
                rotate_left
                ·intro w'
                 go_simp
                 with_reducible rfl
                rotate_left
                ·simp only [Act.put,List.setIfInBounds_toArray,List.set_cons_zero,List.set_cons_succ,i64_w,i32_w]
                 rfl
                refine done_ (done_of HT_.out (by kernel_rfl)) ?_
                try go_wp2
                go_ret
                exact ⟨by first|rfl|(simp [errW_none,errW_some] <;> rfl)|(simp [*,errW_none,errW_some] <;> rfl),by repeat (first|(with_reducible first|exact HB.out|apply below_alloc|apply pw_below_drewN|apply below_drew1|refine below_set ?_ GE242.out|refine below_set ?_ GE243.out)|exact HB.out)⟩
              ·rw [if_neg c41] at H
               exact absurd H (by simp)
             ·rw [if_neg c40] at H
              exact absurd H (by simp)
            ·rw [if_neg c39] at H
             exact absurd H (by simp)
           ·replace c38:=Bool.eq_false_iff.mpr c38
            subst c38
            have H1:((transhumanceref2_sign.f (t253.length:Int) (t256.length:Int)).bind fun t262 => (some t262))=some r:=by rw [if_neg (show ¬ (false=true) by decide)] at H;exact H
            clear H
            have H:=H1
            clear H1
            replace H:=Option.bind_eq_some_iff.mp H
            obtain ⟨t262,A500,H⟩:=H
            replace H:(some t262)=some r:=H
            have A50:=Aside0.mk A500
            clear A500
            obtain rfl:=Option.some.inj H
            obtain ⟨Ao51,co51,eo51⟩:=Kd.R_slice HO_7.out
            subst eo51
            obtain ⟨Ao52,co52,eo52⟩:=Kd.R_slice HO_8.out
            subst eo52
            go_wp2_with (first|((with_reducible refine gate_callee (f:=56) rfl ?_);refine goesL_ (some 98) rfl rfl Tryz.func56 (by kernel_rfl) rfl #[.int .i64 (t253.length:Int),.int .i64 (t256.length:Int)] rfl (by (try simp only [List.map_toArray,List.map_cons,List.map_nil]);first|done|rfl|(simp only [List.length_drop,List.length_take];rfl)) ?_;(with_reducible refine (transhumanceref2_sign.calls (t253.length:Int) (t256.length:Int) t262 _ A50.out).mono ?_);rintro e w' ⟨rfl,⟨nd,rfl⟩⟩;refine ⟨_,rfl,?_⟩))
            go_ret
            exact ⟨by first|rfl|(simp [errW_none,errW_some] <;> rfl)|(simp [*,errW_none,errW_some] <;> rfl),by repeat (first|(with_reducible first|exact HB.out|apply below_alloc|apply pw_below_drewN|apply below_drew1|refine below_set ?_ GE242.out|refine below_set ?_ GE243.out)|exact HB.out)⟩
end Go.Proofs.YtjiidlkkkednoaaGreatDoor.Q
