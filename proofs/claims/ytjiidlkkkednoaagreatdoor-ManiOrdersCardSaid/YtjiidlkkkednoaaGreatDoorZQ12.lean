import Derived.Test.YtjiidlkkkednoaaGreatDoorZBaseg
import Derived.Test.YtjiidlkkkednoaaGreatDoorZQ11g
namespace Go.Proofs.YtjiidlkkkednoaaGreatDoor.Q
open Go.RowKit Go.Proofs.YtjiidlkkkednoaaGreatDoorW.PrintWords Go.Proofs.YtjiidlkkkednoaaGreatDoorW.PrintLast Go.Proofs.YtjiidlkkkednoaaGreatDoorW.PrintMore
attribute [local go_sem] max2_int min2_int max_two min_two max_three min_three max_four min_four
set_option linter.unusedVariables false
set_option linter.unusedSimpArgs false
mutual
def transhumancelaw2_Make.j0:Nat→Int→Int→Int→Int→ByteArray→Option (Int × Int × Int × ByteArray)
 | 0,_,_,_,_,_ => none
 | k+1,x1,x162000,x162001,x162002,x162003 => (transhumancelaw2_within.f x1 1099511627776).bind fun t165 => (transhumancelaw2_Make.l0 k (([(⟨#[48]⟩:ByteArray),(⟨#[49]⟩:ByteArray),(⟨#[49,48]⟩:ByteArray),(⟨#[50]⟩:ByteArray),(⟨#[97]⟩:ByteArray),(⟨#[114,99]⟩:ByteArray),(⟨#[114,99,49]⟩:ByteArray),(⟨#[65]⟩:ByteArray),(⟨#[45]⟩:ByteArray),(⟨#[48,97]⟩:ByteArray),(⟨#[97,108,112,104,97]⟩:ByteArray),(⟨#[57,57,57,57,57,57,57,57,57,57]⟩:ByteArray),(⟨#[50,48,50,48,48,49,48,49,48,48,48,48,48,48,45,97,98,99,100,101,102,48,49,50,51,52,53]⟩:ByteArray)]:List ByteArray)) t165 0 x162000 x162001 x162002 x162003)
def transhumancelaw2_Make.l0:Nat→List ByteArray→Int→Int→Int→Int→Int→ByteArray→Option (Int × Int × Int × ByteArray)
 | 0,_,_,_,_,_,_,_ => none
 | k+1,x7,x8,x9,x162000,x162001,x162002,x162003 => if x9<(Int.tmod x8 4) then (if x9 > 0 then (if x162003.size+1≤9223372036854775807 then (if 0≤(Int.tmod (wrap64 (Int.tdiv x8 4)) 13) then (if (Int.tmod (wrap64 (Int.tdiv x8 4)) 13)<(x7.length:Int) then (if (x162003++(⟨#[46]⟩:ByteArray)).size+(rdOf ByteArray.empty x7 (Int.tmod (wrap64 (Int.tdiv x8 4)) 13)).size≤9223372036854775807 then (transhumancelaw2_Make.l0 k x7 (wrap64 (Int.tdiv x8 13)) (wrap64 (x9+1)) x162000 x162001 x162002 ((x162003++(⟨#[46]⟩:ByteArray))++(rdOf ByteArray.empty x7 (Int.tmod (wrap64 (Int.tdiv x8 4)) 13)))) else (none)) else (none)) else (none)) else (none)) else (if 0≤(Int.tmod (wrap64 (Int.tdiv x8 4)) 13) then (if (Int.tmod (wrap64 (Int.tdiv x8 4)) 13)<(x7.length:Int) then (if x162003.size+(rdOf ByteArray.empty x7 (Int.tmod (wrap64 (Int.tdiv x8 4)) 13)).size≤9223372036854775807 then (transhumancelaw2_Make.l0 k x7 (wrap64 (Int.tdiv x8 13)) (wrap64 (x9+1)) x162000 x162001 x162002 (x162003++(rdOf ByteArray.empty x7 (Int.tmod (wrap64 (Int.tdiv x8 4)) 13)))) else (none)) else (none)) else (none))) else (if (x162003.size:Int) > 40 then (some (x162000,x162001,x162002,(⟨#[114,99,46,49]⟩:ByteArray))) else (some (x162000,x162001,x162002,x162003)))
end
def transhumancelaw2_Make.f (k:Nat) (a0:Int) (a1:Int):Option (Int × Int × Int × ByteArray):=(transhumancelaw2_within.f a0 1099511627776).bind fun t160 => (if (Int.tmod (wrap64 (Int.tdiv t160 48)) 9)=0 then (transhumancelaw2_Make.j0 k a1 (wrap64 (999999 - (Int.tmod (wrap64 (Int.tdiv t160 432)) 2))) (Int.tmod (wrap64 (Int.tdiv t160 3)) 4) (Int.tmod (wrap64 (Int.tdiv t160 12)) 4) (⟨#[]⟩:ByteArray)) else (if (Int.tmod (wrap64 (Int.tdiv t160 48)) 9)=1 then (transhumancelaw2_Make.j0 k a1 (Int.tmod t160 3) (wrap64 (999999 - (Int.tmod (wrap64 (Int.tdiv t160 432)) 2))) (Int.tmod (wrap64 (Int.tdiv t160 12)) 4) (⟨#[]⟩:ByteArray)) else (if (Int.tmod (wrap64 (Int.tdiv t160 48)) 9)=2 then (transhumancelaw2_Make.j0 k a1 (Int.tmod t160 3) (Int.tmod (wrap64 (Int.tdiv t160 3)) 4) (wrap64 (999999 - (Int.tmod (wrap64 (Int.tdiv t160 432)) 2))) (⟨#[]⟩:ByteArray)) else (transhumancelaw2_Make.j0 k a1 (Int.tmod t160 3) (Int.tmod (wrap64 (Int.tdiv t160 3)) 4) (Int.tmod (wrap64 (Int.tdiv t160 12)) 4) (⟨#[]⟩:ByteArray)))))
def transhumancelaw2_Make.T17:Bool × List (List Nat × List Nat):=(true,[([],[]),([0],[0]),([],[]),([],[]),([3],[3]),([4],[4]),([2,5],[2,5]),([6],[6]),([1,7],[1,7]),([0,1,2,3,4,5,6,7,8],[]),([9,8,0,1,2,3,4,5,6,7,8],[8,9])])
def transhumancelaw2_Make.B17:List Nat:=[0,1,0,0,8,24,60,124,255,511,1023]
theorem transhumancelaw2_Make.tab17:rtab .any (opsOf Tryz.f22 17)=transhumancelaw2_Make.T17:=by kernel_rfl
theorem transhumancelaw2_Make.bits17:waitsOk transhumancelaw2_Make.T17.2 transhumancelaw2_Make.B17=true:=by kernel_rfl
set_option maxHeartbeats 8000000 in
set_option maxRecDepth 100000 in
theorem transhumancelaw2_Make.calls (k:Nat) (a0:Int) (a1:Int) (r1:Int) (r2:Int) (r3:Int) (r4:ByteArray) (w:World) (h:transhumancelaw2_Make.f k a0 a1=some (r1,r2,r3,r4)) :
  Calls Tryz.prog 22 #[.int .i64 a0,.int .i64 a1] w fun e w' => e=.returned (.agg #[.int .i64 r1,.int .i64 r2,.int .i64 r3,.string r4])∧Below w.heap.size w w':=by
 have hu43:=Tryz.underlying43
 have HB:=Aside0.mk (Below.refl w.heap.size w)
 have H:((transhumancelaw2_within.f a0 1099511627776).bind fun t160 => (if (Int.tmod (wrap64 (Int.tdiv t160 48)) 9)=0 then (transhumancelaw2_Make.j0 k a1 (wrap64 (999999 - (Int.tmod (wrap64 (Int.tdiv t160 432)) 2))) (Int.tmod (wrap64 (Int.tdiv t160 3)) 4) (Int.tmod (wrap64 (Int.tdiv t160 12)) 4) (⟨#[]⟩:ByteArray)) else (if (Int.tmod (wrap64 (Int.tdiv t160 48)) 9)=1 then (transhumancelaw2_Make.j0 k a1 (Int.tmod t160 3) (wrap64 (999999 - (Int.tmod (wrap64 (Int.tdiv t160 432)) 2))) (Int.tmod (wrap64 (Int.tdiv t160 12)) 4) (⟨#[]⟩:ByteArray)) else (if (Int.tmod (wrap64 (Int.tdiv t160 48)) 9)=2 then (transhumancelaw2_Make.j0 k a1 (Int.tmod t160 3) (Int.tmod (wrap64 (Int.tdiv t160 3)) 4) (wrap64 (999999 - (Int.tmod (wrap64 (Int.tdiv t160 432)) 2))) (⟨#[]⟩:ByteArray)) else (transhumancelaw2_Make.j0 k a1 (Int.tmod t160 3) (Int.tmod (wrap64 (Int.tdiv t160 3)) 4) (Int.tmod (wrap64 (Int.tdiv t160 12)) 4) (⟨#[]⟩:ByteArray))))))=some (r1,r2,r3,r4):=h
 clear h
 replace H:=Option.bind_eq_some_iff.mp H
 obtain ⟨t160,A30,H⟩:=H
 replace H:(if (Int.tmod (wrap64 (Int.tdiv t160 48)) 9)=0 then (transhumancelaw2_Make.j0 k a1 (wrap64 (999999 - (Int.tmod (wrap64 (Int.tdiv t160 432)) 2))) (Int.tmod (wrap64 (Int.tdiv t160 3)) 4) (Int.tmod (wrap64 (Int.tdiv t160 12)) 4) (⟨#[]⟩:ByteArray)) else (if (Int.tmod (wrap64 (Int.tdiv t160 48)) 9)=1 then (transhumancelaw2_Make.j0 k a1 (Int.tmod t160 3) (wrap64 (999999 - (Int.tmod (wrap64 (Int.tdiv t160 432)) 2))) (Int.tmod (wrap64 (Int.tdiv t160 12)) 4) (⟨#[]⟩:ByteArray)) else (if (Int.tmod (wrap64 (Int.tdiv t160 48)) 9)=2 then (transhumancelaw2_Make.j0 k a1 (Int.tmod t160 3) (Int.tmod (wrap64 (Int.tdiv t160 3)) 4) (wrap64 (999999 - (Int.tmod (wrap64 (Int.tdiv t160 432)) 2))) (⟨#[]⟩:ByteArray)) else (transhumancelaw2_Make.j0 k a1 (Int.tmod t160 3) (Int.tmod (wrap64 (Int.tdiv t160 3)) 4) (Int.tmod (wrap64 (Int.tdiv t160 12)) 4) (⟨#[]⟩:ByteArray)))))=some (r1,r2,r3,r4):=H
 have A3:=Aside0.mk A30
 clear A30
 have HC4:=Aside0.mk H
 clear H
 go_enter Tryz.func22,Tryz.ntmps22
 go_upto_block 0 with (first|((with_reducible refine gate_dst (N:=4) rfl ?_);refine box_event ?hg (N:=4) ?hd (cs:=#[.int .i64 0,.int .i64 0,.int .i64 0,.string (⟨#[]⟩:ByteArray)]) (t:=43) ?hr ?_;(case hd => rfl);(case hg => rfl);(case hr => first|(go_simp;done)|(go_simp;rfl));intro gb159 hg w5 hbox hb;have n0_:=Aside0.mk (below_step (by repeat (first|(with_reducible first|exact HB.out|apply below_alloc|apply pw_below_drewN|apply below_drew1)|exact HB.out)) hb);have n1_:=Aside0.mk (hbox);have n2_:=Aside0.mk ((by rw [hg];exact (below_size (by repeat (first|(with_reducible first|exact HB.out|apply below_alloc|apply pw_below_drewN|apply below_drew1)|exact HB.out))):w.heap.size≤gb159));have n3_:=Aside0.mk ((by rw [hg];exact (below_size (by repeat (first|(with_reducible first|exact HB.out|apply below_alloc|apply pw_below_drewN|apply below_drew1)|exact HB.out))):w.heap.size≤gb159));clear HB;have HB:=n0_;have BK159:=n1_;have GW159:=n2_;have GE159:=n3_;clear n0_ n1_ n2_ n3_;clear hb hbox hg)|((with_reducible refine gate_callee (f:=54) rfl ?_);refine goesL_ (some 11) rfl rfl Tryz.func54 (by kernel_rfl) rfl #[.int .i64 a0,.int .i64 1099511627776] rfl (by (try simp only [List.map_toArray,List.map_cons,List.map_nil]);first|done|rfl|(simp only [List.length_drop,List.length_take];rfl)) ?_;(with_reducible refine (transhumancelaw2_within.calls a0 1099511627776 t160 _ A3.out).mono ?_);rintro e w' ⟨rfl,⟨nd,rfl⟩⟩;refine ⟨_,rfl,?_⟩;(try (rw [drewN_self w5];generalize hq_:World.drewN w5 _=w5;have n0_:Aside0 (w5.heap[gb159]?=some (.cells #[.int .i64 0,.int .i64 0,.int .i64 0,.string (⟨#[]⟩:ByteArray)] 43 (0,0))):=⟨by rw [← hq_];exact (by (with_reducible repeat (first|refine blk_drewN ?_ _|refine blk_drew ?_|refine blk_alloc ?_ _));exact BK159.out)⟩;have n1_:Aside0 (Below w.heap.size w w5):=⟨by rw [← hq_];exact (by repeat (first|(with_reducible first|exact HB.out|apply below_alloc|apply pw_below_drewN|apply below_drew1|refine below_set ?_ GE159.out)|exact HB.out))⟩;clear BK159 HB hq_;have BK159:=n0_;have HB:=n1_;clear n0_ n1_)))|((with_reducible refine gate_dst (N:=6) rfl ?_);refine box_event ?hg (N:=6) ?hd (cs:=#[.int .i64 0,.int .i64 0,.int .i64 0,.string (⟨#[]⟩:ByteArray)]) (t:=43) ?hr ?_;(case hd => rfl);(case hg => rfl);(case hr => first|(go_simp;done)|(go_simp;rfl));intro gb161 hg w6 hbox hb;have n0_:=Aside0.mk (blk_below (g:=gb159) (o:=.cells #[.int .i64 0,.int .i64 0,.int .i64 0,.string (⟨#[]⟩:ByteArray)] 43 (0,0)) (by (with_reducible repeat (first|refine blk_drewN ?_ _|refine blk_drew ?_|refine blk_alloc ?_ _));exact BK159.out) hb);have n1_:=Aside0.mk (below_step (by repeat (first|(with_reducible first|exact HB.out|apply below_alloc|apply pw_below_drewN|apply below_drew1|refine below_set ?_ GE159.out)|exact HB.out)) hb);have n2_:=Aside0.mk (hbox);have n3_:=Aside0.mk ((by rw [hg];exact (below_size (by repeat (first|(with_reducible first|exact HB.out|apply below_alloc|apply pw_below_drewN|apply below_drew1|refine below_set ?_ GE159.out)|exact HB.out))):w.heap.size≤gb161));have n4_:=Aside0.mk ((by rw [hg];exact (below_size (by repeat (first|(with_reducible first|exact HB.out|apply below_alloc|apply pw_below_drewN|apply below_drew1|refine below_set ?_ GE159.out)|exact HB.out))):w.heap.size≤gb161));have n5_:=Aside0.mk ((by rw [hg];exact Nat.ne_of_lt (blk_lt (g:=gb159) (o:=.cells #[.int .i64 0,.int .i64 0,.int .i64 0,.string (⟨#[]⟩:ByteArray)] 43 (0,0)) (by (with_reducible repeat (first|refine blk_drewN ?_ _|refine blk_drew ?_|refine blk_alloc ?_ _));exact BK159.out)):gb159≠gb161));have n6_:=Aside0.mk ((by rw [hg];exact Nat.ne_of_gt (blk_lt (g:=gb159) (o:=.cells #[.int .i64 0,.int .i64 0,.int .i64 0,.string (⟨#[]⟩:ByteArray)] 43 (0,0)) (by (with_reducible repeat (first|refine blk_drewN ?_ _|refine blk_drew ?_|refine blk_alloc ?_ _));exact BK159.out)):gb161≠gb159));clear BK159;clear HB;have BK159:=n0_;have HB:=n1_;have BK161:=n2_;have GW161:=n3_;have GE161:=n4_;have NB159_161:=n5_;have NB161_159:=n6_;clear n0_ n1_ n2_ n3_ n4_ n5_ n6_;clear hb hbox hg;have hnb7:=NB161_159.out;have hnc7:=NB159_161.out;have hcz8_0:w6.cell? ⟨gb161,0,none⟩=some (.int .i64 0):=(blk_cell BK161.out 0).trans rfl;have hcz8_1:w6.cell? ⟨gb161,1,none⟩=some (.int .i64 0):=(blk_cell BK161.out 1).trans rfl;have hcz8_2:w6.cell? ⟨gb161,2,none⟩=some (.int .i64 0):=(blk_cell BK161.out 2).trans rfl;have hcz8_3:w6.cell? ⟨gb161,3,none⟩=some (.string (⟨#[]⟩:ByteArray)):=(blk_cell BK161.out 3).trans rfl;have hfz8_0:=blk_frozen BK161.out 0;have hfz8_1:=blk_frozen BK161.out 1;have hfz8_2:=blk_frozen BK161.out 2;have hfz8_3:=blk_frozen BK161.out 3))
 (try simp only [Act.put,List.setIfInBounds_toArray,List.set_cons_zero,List.set_cons_succ])
 go_cut [] (fun wc => ∃ (kq:Nat) (x162000_3:Int) (x162001_3:Int) (x162002_3:Int),Aside0 (transhumancelaw2_Make.j0 kq a1 x162000_3 x162001_3 x162002_3 (⟨#[]⟩:ByteArray)=some (r1,r2,r3,r4))∧Aside0 (kq≤k)∧Aside0 (wc.heap[gb159]?=some (.cells #[.int .i64 0,.int .i64 0,.int .i64 0,.string (⟨#[]⟩:ByteArray)] 43 (0,0)))∧Aside0 (wc.heap[gb161]?=some (.cells #[.int .i64 x162000_3,.int .i64 x162001_3,.int .i64 x162002_3,.string (⟨#[]⟩:ByteArray)] 43 (0,0)))∧Aside0 (Below w.heap.size w wc))
 case first =>
  have H:=HC4.out
  clear HC4
  by_cases c9:(Int.tmod (wrap64 (Int.tdiv t160 48)) 9)=0
  ·rw [if_pos c9] at H
   have c9b0:((Int.tmod (wrap64 (Int.tdiv t160 48)) 9) == 0)=true:=beq_iff_eq.mpr c9
   have c9b1:((Int.tmod (wrap64 (Int.tdiv t160 48)) 9) != 0)=false:=bne_eq_false_iff_eq.mpr c9
   clear c9
   (first|rw [c9b0]|(simp only [i64_w,i32_w];rw [c9b0])|skip)
   have H':=Aside0.mk H
   clear H
   have hnb10:=NB161_159.out
   have hnc10:=NB159_161.out
   have hcz11_0:w6.cell? ⟨gb161,0,none⟩=some (.int .i64 0):=(blk_cell BK161.out 0).trans rfl
   have hcz11_1:w6.cell? ⟨gb161,1,none⟩=some (.int .i64 0):=(blk_cell BK161.out 1).trans rfl
   have hcz11_2:w6.cell? ⟨gb161,2,none⟩=some (.int .i64 0):=(blk_cell BK161.out 2).trans rfl
   have hcz11_3:w6.cell? ⟨gb161,3,none⟩=some (.string (⟨#[]⟩:ByteArray)):=(blk_cell BK161.out 3).trans rfl
   have hfz11_0:=blk_frozen BK161.out 0
   have hfz11_1:=blk_frozen BK161.out 1
   have hfz11_2:=blk_frozen BK161.out 2
   have hfz11_3:=blk_frozen BK161.out 3
   go_wp2
   go_meet
   case rel => exact ⟨_,(wrap64 (999999 - (Int.tmod (wrap64 (Int.tdiv t160 432)) 2))),(Int.tmod (wrap64 (Int.tdiv t160 3)) 4),(Int.tmod (wrap64 (Int.tdiv t160 12)) 4),H',⟨by first|omega|exact Nat.le_refl _⟩,⟨by (with_reducible repeat (first|refine blk_drewN ?_ _|refine blk_drew ?_|refine blk_alloc ?_ _));refine blk_far ?_ NB159_161.out _;(with_reducible repeat (first|refine blk_drewN ?_ _|refine blk_drew ?_|refine blk_alloc ?_ _));refine blk_far ?_ NB159_161.out _;(with_reducible repeat (first|refine blk_drewN ?_ _|refine blk_drew ?_|refine blk_alloc ?_ _));refine blk_far ?_ NB159_161.out _;(with_reducible repeat (first|refine blk_drewN ?_ _|refine blk_drew ?_|refine blk_alloc ?_ _));refine blk_far ?_ NB159_161.out _;(with_reducible repeat (first|refine blk_drewN ?_ _|refine blk_drew ?_|refine blk_alloc ?_ _));refine blk_far ?_ NB159_161.out _;(with_reducible repeat (first|refine blk_drewN ?_ _|refine blk_drew ?_|refine blk_alloc ?_ _));exact BK159.out⟩,⟨by (with_reducible repeat (first|refine blk_drewN ?_ _|refine blk_drew ?_|refine blk_alloc ?_ _));refine blk_put (cs:=#[.int .i64 (Int.tmod t160 3),.int .i64 (Int.tmod (wrap64 (Int.tdiv t160 3)) 4),.int .i64 (Int.tmod (wrap64 (Int.tdiv t160 12)) 4),.string (⟨#[]⟩:ByteArray)]) ?_ 0 _ rfl;(with_reducible repeat (first|refine blk_drewN ?_ _|refine blk_drew ?_|refine blk_alloc ?_ _));refine blk_put (cs:=#[.int .i64 (Int.tmod t160 3),.int .i64 (Int.tmod (wrap64 (Int.tdiv t160 3)) 4),.int .i64 (Int.tmod (wrap64 (Int.tdiv t160 12)) 4),.string (⟨#[]⟩:ByteArray)]) ?_ 3 _ rfl;(with_reducible repeat (first|refine blk_drewN ?_ _|refine blk_drew ?_|refine blk_alloc ?_ _));refine blk_put (cs:=#[.int .i64 (Int.tmod t160 3),.int .i64 (Int.tmod (wrap64 (Int.tdiv t160 3)) 4),.int .i64 0,.string (⟨#[]⟩:ByteArray)]) ?_ 2 _ rfl;(with_reducible repeat (first|refine blk_drewN ?_ _|refine blk_drew ?_|refine blk_alloc ?_ _));refine blk_put (cs:=#[.int .i64 (Int.tmod t160 3),.int .i64 0,.int .i64 0,.string (⟨#[]⟩:ByteArray)]) ?_ 1 _ rfl;(with_reducible repeat (first|refine blk_drewN ?_ _|refine blk_drew ?_|refine blk_alloc ?_ _));refine blk_put (cs:=#[.int .i64 0,.int .i64 0,.int .i64 0,.string (⟨#[]⟩:ByteArray)]) ?_ 0 _ rfl;(with_reducible repeat (first|refine blk_drewN ?_ _|refine blk_drew ?_|refine blk_alloc ?_ _));exact BK161.out⟩,⟨by repeat (first|(with_reducible first|exact HB.out|apply below_alloc|apply pw_below_drewN|apply below_drew1|refine below_set ?_ GE159.out|refine below_set ?_ GE161.out)|exact HB.out)⟩⟩
  ·rw [if_neg c9] at H
   have c9b0:((Int.tmod (wrap64 (Int.tdiv t160 48)) 9) == 0)=false:=beq_eq_false_iff_ne.mpr c9
   have c9b1:((Int.tmod (wrap64 (Int.tdiv t160 48)) 9) != 0)=true:=bne_iff_ne.mpr c9
   (first|rw [c9b0]|(simp only [i64_w,i32_w];rw [c9b0])|skip)
   by_cases c12:(Int.tmod (wrap64 (Int.tdiv t160 48)) 9)=1
   ·rw [if_pos c12] at H
    have c12b0:((Int.tmod (wrap64 (Int.tdiv t160 48)) 9) == 1)=true:=beq_iff_eq.mpr c12
    have c12b1:((Int.tmod (wrap64 (Int.tdiv t160 48)) 9) != 1)=false:=bne_eq_false_iff_eq.mpr c12
    clear c12
    have H':=Aside0.mk H
    clear H
    have hnb13:=NB161_159.out
    have hnc13:=NB159_161.out
    have hcz14_0:w6.cell? ⟨gb161,0,none⟩=some (.int .i64 0):=(blk_cell BK161.out 0).trans rfl
    have hcz14_1:w6.cell? ⟨gb161,1,none⟩=some (.int .i64 0):=(blk_cell BK161.out 1).trans rfl
    have hcz14_2:w6.cell? ⟨gb161,2,none⟩=some (.int .i64 0):=(blk_cell BK161.out 2).trans rfl
    have hcz14_3:w6.cell? ⟨gb161,3,none⟩=some (.string (⟨#[]⟩:ByteArray)):=(blk_cell BK161.out 3).trans rfl
    have hfz14_0:=blk_frozen BK161.out 0
    have hfz14_1:=blk_frozen BK161.out 1
    have hfz14_2:=blk_frozen BK161.out 2
    have hfz14_3:=blk_frozen BK161.out 3
    go_wp2
    go_meet
    case rel => exact ⟨_,(Int.tmod t160 3),(wrap64 (999999 - (Int.tmod (wrap64 (Int.tdiv t160 432)) 2))),(Int.tmod (wrap64 (Int.tdiv t160 12)) 4),H',⟨by first|omega|exact Nat.le_refl _⟩,⟨by (with_reducible repeat (first|refine blk_drewN ?_ _|refine blk_drew ?_|refine blk_alloc ?_ _));refine blk_far ?_ NB159_161.out _;(with_reducible repeat (first|refine blk_drewN ?_ _|refine blk_drew ?_|refine blk_alloc ?_ _));refine blk_far ?_ NB159_161.out _;(with_reducible repeat (first|refine blk_drewN ?_ _|refine blk_drew ?_|refine blk_alloc ?_ _));refine blk_far ?_ NB159_161.out _;(with_reducible repeat (first|refine blk_drewN ?_ _|refine blk_drew ?_|refine blk_alloc ?_ _));refine blk_far ?_ NB159_161.out _;(with_reducible repeat (first|refine blk_drewN ?_ _|refine blk_drew ?_|refine blk_alloc ?_ _));refine blk_far ?_ NB159_161.out _;(with_reducible repeat (first|refine blk_drewN ?_ _|refine blk_drew ?_|refine blk_alloc ?_ _));exact BK159.out⟩,⟨by (with_reducible repeat (first|refine blk_drewN ?_ _|refine blk_drew ?_|refine blk_alloc ?_ _));refine blk_put (cs:=#[.int .i64 (Int.tmod t160 3),.int .i64 (Int.tmod (wrap64 (Int.tdiv t160 3)) 4),.int .i64 (Int.tmod (wrap64 (Int.tdiv t160 12)) 4),.string (⟨#[]⟩:ByteArray)]) ?_ 1 _ rfl;(with_reducible repeat (first|refine blk_drewN ?_ _|refine blk_drew ?_|refine blk_alloc ?_ _));refine blk_put (cs:=#[.int .i64 (Int.tmod t160 3),.int .i64 (Int.tmod (wrap64 (Int.tdiv t160 3)) 4),.int .i64 (Int.tmod (wrap64 (Int.tdiv t160 12)) 4),.string (⟨#[]⟩:ByteArray)]) ?_ 3 _ rfl;(with_reducible repeat (first|refine blk_drewN ?_ _|refine blk_drew ?_|refine blk_alloc ?_ _));refine blk_put (cs:=#[.int .i64 (Int.tmod t160 3),.int .i64 (Int.tmod (wrap64 (Int.tdiv t160 3)) 4),.int .i64 0,.string (⟨#[]⟩:ByteArray)]) ?_ 2 _ rfl;(with_reducible repeat (first|refine blk_drewN ?_ _|refine blk_drew ?_|refine blk_alloc ?_ _));refine blk_put (cs:=#[.int .i64 (Int.tmod t160 3),.int .i64 0,.int .i64 0,.string (⟨#[]⟩:ByteArray)]) ?_ 1 _ rfl;(with_reducible repeat (first|refine blk_drewN ?_ _|refine blk_drew ?_|refine blk_alloc ?_ _));refine blk_put (cs:=#[.int .i64 0,.int .i64 0,.int .i64 0,.string (⟨#[]⟩:ByteArray)]) ?_ 0 _ rfl;(with_reducible repeat (first|refine blk_drewN ?_ _|refine blk_drew ?_|refine blk_alloc ?_ _));exact BK161.out⟩,⟨by repeat (first|(with_reducible first|exact HB.out|apply below_alloc|apply pw_below_drewN|apply below_drew1|refine below_set ?_ GE159.out|refine below_set ?_ GE161.out)|exact HB.out)⟩⟩
   ·rw [if_neg c12] at H
    have c12b0:((Int.tmod (wrap64 (Int.tdiv t160 48)) 9) == 1)=false:=beq_eq_false_iff_ne.mpr c12
    have c12b1:((Int.tmod (wrap64 (Int.tdiv t160 48)) 9) != 1)=true:=bne_iff_ne.mpr c12
    by_cases c15:(Int.tmod (wrap64 (Int.tdiv t160 48)) 9)=2
    ·rw [if_pos c15] at H
     have c15b0:((Int.tmod (wrap64 (Int.tdiv t160 48)) 9) == 2)=true:=beq_iff_eq.mpr c15
     have c15b1:((Int.tmod (wrap64 (Int.tdiv t160 48)) 9) != 2)=false:=bne_eq_false_iff_eq.mpr c15
     clear c15
     have H':=Aside0.mk H
     clear H
     have hnb16:=NB161_159.out
     have hnc16:=NB159_161.out
     have hcz17_0:w6.cell? ⟨gb161,0,none⟩=some (.int .i64 0):=(blk_cell BK161.out 0).trans rfl
     have hcz17_1:w6.cell? ⟨gb161,1,none⟩=some (.int .i64 0):=(blk_cell BK161.out 1).trans rfl
     have hcz17_2:w6.cell? ⟨gb161,2,none⟩=some (.int .i64 0):=(blk_cell BK161.out 2).trans rfl
     have hcz17_3:w6.cell? ⟨gb161,3,none⟩=some (.string (⟨#[]⟩:ByteArray)):=(blk_cell BK161.out 3).trans rfl
     have hfz17_0:=blk_frozen BK161.out 0
     have hfz17_1:=blk_frozen BK161.out 1
     have hfz17_2:=blk_frozen BK161.out 2
     have hfz17_3:=blk_frozen BK161.out 3
     go_wp2
     go_meet
     case rel => exact ⟨_,(Int.tmod t160 3),(Int.tmod (wrap64 (Int.tdiv t160 3)) 4),(wrap64 (999999 - (Int.tmod (wrap64 (Int.tdiv t160 432)) 2))),H',⟨by first|omega|exact Nat.le_refl _⟩,⟨by (with_reducible repeat (first|refine blk_drewN ?_ _|refine blk_drew ?_|refine blk_alloc ?_ _));refine blk_far ?_ NB159_161.out _;(with_reducible repeat (first|refine blk_drewN ?_ _|refine blk_drew ?_|refine blk_alloc ?_ _));refine blk_far ?_ NB159_161.out _;(with_reducible repeat (first|refine blk_drewN ?_ _|refine blk_drew ?_|refine blk_alloc ?_ _));refine blk_far ?_ NB159_161.out _;(with_reducible repeat (first|refine blk_drewN ?_ _|refine blk_drew ?_|refine blk_alloc ?_ _));refine blk_far ?_ NB159_161.out _;(with_reducible repeat (first|refine blk_drewN ?_ _|refine blk_drew ?_|refine blk_alloc ?_ _));refine blk_far ?_ NB159_161.out _;(with_reducible repeat (first|refine blk_drewN ?_ _|refine blk_drew ?_|refine blk_alloc ?_ _));exact BK159.out⟩,⟨by (with_reducible repeat (first|refine blk_drewN ?_ _|refine blk_drew ?_|refine blk_alloc ?_ _));refine blk_put (cs:=#[.int .i64 (Int.tmod t160 3),.int .i64 (Int.tmod (wrap64 (Int.tdiv t160 3)) 4),.int .i64 (Int.tmod (wrap64 (Int.tdiv t160 12)) 4),.string (⟨#[]⟩:ByteArray)]) ?_ 2 _ rfl;(with_reducible repeat (first|refine blk_drewN ?_ _|refine blk_drew ?_|refine blk_alloc ?_ _));refine blk_put (cs:=#[.int .i64 (Int.tmod t160 3),.int .i64 (Int.tmod (wrap64 (Int.tdiv t160 3)) 4),.int .i64 (Int.tmod (wrap64 (Int.tdiv t160 12)) 4),.string (⟨#[]⟩:ByteArray)]) ?_ 3 _ rfl;(with_reducible repeat (first|refine blk_drewN ?_ _|refine blk_drew ?_|refine blk_alloc ?_ _));refine blk_put (cs:=#[.int .i64 (Int.tmod t160 3),.int .i64 (Int.tmod (wrap64 (Int.tdiv t160 3)) 4),.int .i64 0,.string (⟨#[]⟩:ByteArray)]) ?_ 2 _ rfl;(with_reducible repeat (first|refine blk_drewN ?_ _|refine blk_drew ?_|refine blk_alloc ?_ _));refine blk_put (cs:=#[.int .i64 (Int.tmod t160 3),.int .i64 0,.int .i64 0,.string (⟨#[]⟩:ByteArray)]) ?_ 1 _ rfl;(with_reducible repeat (first|refine blk_drewN ?_ _|refine blk_drew ?_|refine blk_alloc ?_ _));refine blk_put (cs:=#[.int .i64 0,.int .i64 0,.int .i64 0,.string (⟨#[]⟩:ByteArray)]) ?_ 0 _ rfl;(with_reducible repeat (first|refine blk_drewN ?_ _|refine blk_drew ?_|refine blk_alloc ?_ _));exact BK161.out⟩,⟨by repeat (first|(with_reducible first|exact HB.out|apply below_alloc|apply pw_below_drewN|apply below_drew1|refine below_set ?_ GE159.out|refine below_set ?_ GE161.out)|exact HB.out)⟩⟩
    ·rw [if_neg c15] at H
     have c15b0:((Int.tmod (wrap64 (Int.tdiv t160 48)) 9) == 2)=false:=beq_eq_false_iff_ne.mpr c15
     have c15b1:((Int.tmod (wrap64 (Int.tdiv t160 48)) 9) != 2)=true:=bne_iff_ne.mpr c15
     have H':=Aside0.mk H
     clear H
     go_wp2
     go_meet
     case rel => exact ⟨_,(Int.tmod t160 3),(Int.tmod (wrap64 (Int.tdiv t160 3)) 4),(Int.tmod (wrap64 (Int.tdiv t160 12)) 4),H',⟨by first|omega|exact Nat.le_refl _⟩,⟨by (with_reducible repeat (first|refine blk_drewN ?_ _|refine blk_drew ?_|refine blk_alloc ?_ _));refine blk_far ?_ NB159_161.out _;(with_reducible repeat (first|refine blk_drewN ?_ _|refine blk_drew ?_|refine blk_alloc ?_ _));refine blk_far ?_ NB159_161.out _;(with_reducible repeat (first|refine blk_drewN ?_ _|refine blk_drew ?_|refine blk_alloc ?_ _));refine blk_far ?_ NB159_161.out _;(with_reducible repeat (first|refine blk_drewN ?_ _|refine blk_drew ?_|refine blk_alloc ?_ _));refine blk_far ?_ NB159_161.out _;(with_reducible repeat (first|refine blk_drewN ?_ _|refine blk_drew ?_|refine blk_alloc ?_ _));exact BK159.out⟩,⟨by (with_reducible repeat (first|refine blk_drewN ?_ _|refine blk_drew ?_|refine blk_alloc ?_ _));refine blk_put (cs:=#[.int .i64 (Int.tmod t160 3),.int .i64 (Int.tmod (wrap64 (Int.tdiv t160 3)) 4),.int .i64 (Int.tmod (wrap64 (Int.tdiv t160 12)) 4),.string (⟨#[]⟩:ByteArray)]) ?_ 3 _ rfl;(with_reducible repeat (first|refine blk_drewN ?_ _|refine blk_drew ?_|refine blk_alloc ?_ _));refine blk_put (cs:=#[.int .i64 (Int.tmod t160 3),.int .i64 (Int.tmod (wrap64 (Int.tdiv t160 3)) 4),.int .i64 0,.string (⟨#[]⟩:ByteArray)]) ?_ 2 _ rfl;(with_reducible repeat (first|refine blk_drewN ?_ _|refine blk_drew ?_|refine blk_alloc ?_ _));refine blk_put (cs:=#[.int .i64 (Int.tmod t160 3),.int .i64 0,.int .i64 0,.string (⟨#[]⟩:ByteArray)]) ?_ 1 _ rfl;(with_reducible repeat (first|refine blk_drewN ?_ _|refine blk_drew ?_|refine blk_alloc ?_ _));refine blk_put (cs:=#[.int .i64 0,.int .i64 0,.int .i64 0,.string (⟨#[]⟩:ByteArray)]) ?_ 0 _ rfl;(with_reducible repeat (first|refine blk_drewN ?_ _|refine blk_drew ?_|refine blk_alloc ?_ _));exact BK161.out⟩,⟨by repeat (first|(with_reducible first|exact HB.out|apply below_alloc|apply pw_below_drewN|apply below_drew1|refine below_set ?_ GE159.out|refine below_set ?_ GE161.out)|exact HB.out)⟩⟩
 case rest =>
  clear HC4
  try clear c1
  try clear c2
  try clear p2
  try clear c5
  try clear p6
  try clear c7
  try clear c9
  try clear c9b0
  try clear c9b1
  try clear c10
  try clear c12
  try clear c12b0
  try clear c12b1
  try clear c13
  try clear c15
  try clear c15b0
  try clear c15b1
  try clear c16
  try clear hcz11_0
  try clear hcz11_1
  try clear hcz11_2
  try clear hcz11_3
  try clear hcz14_0
  try clear hcz14_1
  try clear hcz14_2
  try clear hcz14_3
  try clear hcz17_0
  try clear hcz17_1
  try clear hcz17_2
  try clear hcz17_3
  try clear hcz8_0
  try clear hcz8_1
  try clear hcz8_2
  try clear hcz8_3
  try clear hfz11_0
  try clear hfz11_1
  try clear hfz11_2
  try clear hfz11_3
  try clear hfz14_0
  try clear hfz14_1
  try clear hfz14_2
  try clear hfz14_3
  try clear hfz17_0
  try clear hfz17_1
  try clear hfz17_2
  try clear hfz17_3
  try clear hfz8_0
  try clear hfz8_1
  try clear hfz8_2
  try clear hfz8_3
  obtain ⟨kq,x162000_3,x162001_3,x162002_3,HA,HJ3,BK159,BK161,HB⟩:=hcut
  cases kq with
  | zero => exact absurd HA.out (by simp [transhumancelaw2_Make.j0])
  | succ kj3 =>
   have H:=HA.out
   clear HA
   simp only [transhumancelaw2_Make.j0] at H
   obtain ⟨y162,hy162⟩:∃ y_:List ByteArray,y_=(([(⟨#[48]⟩:ByteArray),(⟨#[49]⟩:ByteArray),(⟨#[49,48]⟩:ByteArray),(⟨#[50]⟩:ByteArray),(⟨#[97]⟩:ByteArray),(⟨#[114,99]⟩:ByteArray),(⟨#[114,99,49]⟩:ByteArray),(⟨#[65]⟩:ByteArray),(⟨#[45]⟩:ByteArray),(⟨#[48,97]⟩:ByteArray),(⟨#[97,108,112,104,97]⟩:ByteArray),(⟨#[57,57,57,57,57,57,57,57,57,57]⟩:ByteArray),(⟨#[50,48,50,48,48,49,48,49,48,48,48,48,48,48,45,97,98,99,100,101,102,48,49,50,51,52,53]⟩:ByteArray)]:List ByteArray)):=⟨_,rfl⟩
   replace H:((transhumancelaw2_within.f a1 1099511627776).bind fun t165 => (transhumancelaw2_Make.l0 kj3 y162 t165 0 x162000_3 x162001_3 x162002_3 (⟨#[]⟩:ByteArray)))=some (r1,r2,r3,r4):=by first|(rw [hy162];with_reducible exact H)|(have H2_:=(Option.bind_some _ _).symm.trans H;rw [hy162];with_reducible exact H2_)|(have H2_:=(Option.bind_some _ _).symm.trans H;with_reducible exact H2_)|with_reducible exact H|(rw [hy162];exact H)|exact H
   have Ny162:=Aside0.mk hy162
   clear hy162
   replace H:=Option.bind_eq_some_iff.mp H
   obtain ⟨t165,A180,H⟩:=H
   replace H:(transhumancelaw2_Make.l0 kj3 y162 t165 0 x162000_3 x162001_3 x162002_3 (⟨#[]⟩:ByteArray))=some (r1,r2,r3,r4):=H
   have A18:=Aside0.mk A180
   clear A180
   have H':=Aside0.mk H
   clear H
   go_wp2_with (first|((with_reducible refine gate_dst (N:=45) rfl ?_);refine Kd.R_lit Kd.string _ 9 ?hg (N:=45) ?hd (xs:=([(⟨#[48]⟩:ByteArray),(⟨#[49]⟩:ByteArray),(⟨#[49,48]⟩:ByteArray),(⟨#[50]⟩:ByteArray),(⟨#[97]⟩:ByteArray),(⟨#[114,99]⟩:ByteArray),(⟨#[114,99,49]⟩:ByteArray),(⟨#[65]⟩:ByteArray),(⟨#[45]⟩:ByteArray),(⟨#[48,97]⟩:ByteArray),(⟨#[97,108,112,104,97]⟩:ByteArray),(⟨#[57,57,57,57,57,57,57,57,57,57]⟩:ByteArray),(⟨#[50,48,50,48,48,49,48,49,48,48,48,48,48,48,45,97,98,99,100,101,102,48,49,50,51,52,53]⟩:ByteArray)]:List ByteArray)) (inner:=[.string (⟨#[48]⟩:ByteArray),.string (⟨#[49]⟩:ByteArray),.string (⟨#[49,48]⟩:ByteArray),.string (⟨#[50]⟩:ByteArray),.string (⟨#[97]⟩:ByteArray),.string (⟨#[114,99]⟩:ByteArray),.string (⟨#[114,99,49]⟩:ByteArray),.string (⟨#[65]⟩:ByteArray),.string (⟨#[45]⟩:ByteArray),.string (⟨#[48,97]⟩:ByteArray),.string (⟨#[97,108,112,104,97]⟩:ByteArray),.string (⟨#[57,57,57,57,57,57,57,57,57,57]⟩:ByteArray),.string (⟨#[50,48,50,48,48,49,48,49,48,48,48,48,48,48,45,97,98,99,100,101,102,48,49,50,51,52,53]⟩:ByteArray)]) (ok:=fun _ => True) (okp:=fun _ => True) ?hr ?hp (fun _ hk => hk) trivial (Below.refl _ _) (Nat.le_refl _) (by simp) ?_;(case hd => rfl);(case hg => rfl);(case hr => first|(go_simp;done)|(go_simp;rfl));(case hp => exact (Reps.one (show Kd.M Kd.string _ _ _ (⟨#[48]⟩:ByteArray) [.string (⟨#[48]⟩:ByteArray)] from rfl) (Reps.one (show Kd.M Kd.string _ _ _ (⟨#[49]⟩:ByteArray) [.string (⟨#[49]⟩:ByteArray)] from rfl) (Reps.one (show Kd.M Kd.string _ _ _ (⟨#[49,48]⟩:ByteArray) [.string (⟨#[49,48]⟩:ByteArray)] from rfl) (Reps.one (show Kd.M Kd.string _ _ _ (⟨#[50]⟩:ByteArray) [.string (⟨#[50]⟩:ByteArray)] from rfl) (Reps.one (show Kd.M Kd.string _ _ _ (⟨#[97]⟩:ByteArray) [.string (⟨#[97]⟩:ByteArray)] from rfl) (Reps.one (show Kd.M Kd.string _ _ _ (⟨#[114,99]⟩:ByteArray) [.string (⟨#[114,99]⟩:ByteArray)] from rfl) (Reps.one (show Kd.M Kd.string _ _ _ (⟨#[114,99,49]⟩:ByteArray) [.string (⟨#[114,99,49]⟩:ByteArray)] from rfl) (Reps.one (show Kd.M Kd.string _ _ _ (⟨#[65]⟩:ByteArray) [.string (⟨#[65]⟩:ByteArray)] from rfl) (Reps.one (show Kd.M Kd.string _ _ _ (⟨#[45]⟩:ByteArray) [.string (⟨#[45]⟩:ByteArray)] from rfl) (Reps.one (show Kd.M Kd.string _ _ _ (⟨#[48,97]⟩:ByteArray) [.string (⟨#[48,97]⟩:ByteArray)] from rfl) (Reps.one (show Kd.M Kd.string _ _ _ (⟨#[97,108,112,104,97]⟩:ByteArray) [.string (⟨#[97,108,112,104,97]⟩:ByteArray)] from rfl) (Reps.one (show Kd.M Kd.string _ _ _ (⟨#[57,57,57,57,57,57,57,57,57,57]⟩:ByteArray) [.string (⟨#[57,57,57,57,57,57,57,57,57,57]⟩:ByteArray)] from rfl) (Reps.one (show Kd.M Kd.string _ _ _ (⟨#[50,48,50,48,48,49,48,49,48,48,48,48,48,48,45,97,98,99,100,101,102,48,49,50,51,52,53]⟩:ByteArray) [.string (⟨#[50,48,50,48,48,49,48,49,48,48,48,48,48,48,45,97,98,99,100,101,102,48,49,50,51,52,53]⟩:ByteArray)] from rfl) (Reps.none _ _)))))))))))))));intro v163 w19 ho20 hb hg_ hnew_;clear hg_ hnew_;(first|rw [← Ny162.out] at ho20|(simp only [Int.reduceToNat] at ho20;rw [← Ny162.out] at ho20));have n0_:=Aside0.mk (Kd.R_lower ho20 (below_size (by repeat (first|(with_reducible first|exact HB.out|apply below_alloc|apply pw_below_drewN|apply below_drew1|refine below_set ?_ GE159.out|refine below_set ?_ GE161.out)|exact HB.out))));have n1_:=Aside0.mk (blk_below (g:=gb159) (o:=.cells #[.int .i64 0,.int .i64 0,.int .i64 0,.string (⟨#[]⟩:ByteArray)] 43 (0,0)) (by (with_reducible repeat (first|refine blk_drewN ?_ _|refine blk_drew ?_|refine blk_alloc ?_ _));exact BK159.out) hb);have n2_:=Aside0.mk (blk_below (g:=gb161) (o:=.cells #[.int .i64 x162000_3,.int .i64 x162001_3,.int .i64 x162002_3,.string (⟨#[]⟩:ByteArray)] 43 (0,0)) (by (with_reducible repeat (first|refine blk_drewN ?_ _|refine blk_drew ?_|refine blk_alloc ?_ _));exact BK161.out) hb);have n3_:=Aside0.mk (below_step (by repeat (first|(with_reducible first|exact HB.out|apply below_alloc|apply pw_below_drewN|apply below_drew1|refine below_set ?_ GE159.out|refine below_set ?_ GE161.out)|exact HB.out)) hb);clear BK159;clear BK161;clear HB;have HO164:=n0_;have BK159:=n1_;have BK161:=n2_;have HB:=n3_;clear n0_ n1_ n2_ n3_;clear hb ho20)|((with_reducible refine gate_callee (f:=54) rfl ?_);refine goesL_ (some 47) rfl rfl Tryz.func54 (by kernel_rfl) rfl #[.int .i64 a1,.int .i64 1099511627776] rfl (by (try simp only [List.map_toArray,List.map_cons,List.map_nil]);first|done|rfl|(simp only [List.length_drop,List.length_take];rfl)) ?_;(with_reducible refine (transhumancelaw2_within.calls a1 1099511627776 t165 _ A18.out).mono ?_);rintro e w' ⟨rfl,⟨nd,rfl⟩⟩;refine ⟨_,rfl,?_⟩))
   go_loopg [8,9] kj3 (fun kq v8 v9 w' => ∃ (x8_2:Int) (x9_2:Int) (x162003_2:ByteArray),v8=.int .i64 x8_2∧v9=.int .i64 x9_2∧Aside0 (transhumancelaw2_Make.l0 kq y162 x8_2 x9_2 x162000_3 x162001_3 x162002_3 x162003_2=some (r1,r2,r3,r4))∧Aside0 (kq≤kj3)∧Aside0 (Kd.R Kd.string 9 w' w.heap.size (fun _ => True) v163 y162)∧Aside0 (w'.heap[gb159]?=some (.cells #[.int .i64 0,.int .i64 0,.int .i64 0,.string (⟨#[]⟩:ByteArray)] 43 (0,0)))∧Aside0 (w'.heap[gb161]?=some (.cells #[.int .i64 x162000_3,.int .i64 x162001_3,.int .i64 x162002_3,.string x162003_2] 43 (0,0)))∧Aside0 (Below w.heap.size w w'))
   case atStart => exact ⟨(t165),(0),((⟨#[]⟩:ByteArray)),(by first|rfl|(simp;done)|(simp [*];done)|(simp;exact (fun l_:List UInt8 => by cases l_ <;> rfl:∀ l_:List UInt8,l_.isEmpty=!(l_ != [])) _)),(by first|rfl|(simp;done)|(simp [*];done)|(simp;exact (fun l_:List UInt8 => by cases l_ <;> rfl:∀ l_:List UInt8,l_.isEmpty=!(l_ != [])) _)),H',⟨Nat.le_refl _⟩,⟨by (with_reducible repeat (first|apply Kd.R_alloc|apply Kd.R_drewN|apply Kd.R_drew));exact HO164.out⟩,⟨by (with_reducible repeat (first|refine blk_drewN ?_ _|refine blk_drew ?_|refine blk_alloc ?_ _));exact BK159.out⟩,⟨by (with_reducible repeat (first|refine blk_drewN ?_ _|refine blk_drew ?_|refine blk_alloc ?_ _));exact BK161.out⟩,⟨by repeat (first|(with_reducible first|exact HB.out|apply below_alloc|apply pw_below_drewN|apply below_drew1|refine below_set ?_ GE159.out|refine below_set ?_ GE161.out)|exact HB.out)⟩⟩
   case round =>
    clear H'
    try clear c1
    try clear c2
    try clear p2
    try clear c5
    try clear p6
    try clear c7
    try clear c9
    try clear c9b0
    try clear c9b1
    try clear c10
    try clear c12
    try clear c12b0
    try clear c12b1
    try clear c13
    try clear c15
    try clear c15b0
    try clear c15b1
    try clear c16
    try clear hcz11_0
    try clear hcz11_1
    try clear hcz11_2
    try clear hcz11_3
    try clear hcz14_0
    try clear hcz14_1
    try clear hcz14_2
    try clear hcz14_3
    try clear hcz17_0
    try clear hcz17_1
    try clear hcz17_2
    try clear hcz17_3
    try clear hcz8_0
    try clear hcz8_1
    try clear hcz8_2
    try clear hcz8_3
    try clear hfz11_0
    try clear hfz11_1
    try clear hfz11_2
    try clear hfz11_3
    try clear hfz14_0
    try clear hfz14_1
    try clear hfz14_2
    try clear hfz14_3
    try clear hfz17_0
    try clear hfz17_1
    try clear hfz17_2
    try clear hfz17_3
    try clear hfz8_0
    try clear hfz8_1
    try clear hfz8_2
    try clear hfz8_3
    try clear p2
    try clear p6
    obtain ⟨x8_2,x9_2,x162003_2,rfl,rfl,HA,HK2,HO_7,BK159,BK161,HB⟩:=hrel
    cases gk with
    | zero => exact absurd HA.out (by simp [transhumancelaw2_Make.l0])
    | succ k2 =>
     have H:=HA.out
     clear HA
     simp only [transhumancelaw2_Make.l0] at H
     by_cases c21:x9_2<(Int.tmod x8_2 4)
     ·rw [if_pos c21] at H
      have c21b0:decide (x9_2<(Int.tmod x8_2 4))=true:=decide_eq_true c21
      clear c21
      by_cases c22:x9_2 > 0
      ·rw [if_pos c22] at H
       have c22b0:decide (0<x9_2)=true:=decide_eq_true c22
       clear c22
       by_cases c23:x162003_2.size+1≤9223372036854775807
       ·rw [if_pos c23] at H
        have c23b0:=eq_true c23
        have c23b1:decide (x162003_2.size+1≤9223372036854775807)=true:=decide_eq_true c23
        try have c23b2:(9223372036854775807<x162003_2.size+1)=False:=eq_false (Nat.not_lt.2 c23)
        obtain ⟨ji24,hji24⟩:∃ j_:Int,(Int.tmod (wrap64 (Int.tdiv x8_2 4)) 13)=j_:=⟨_,rfl⟩
        replace H:(if 0≤(ji24) then (if (ji24)<(y162.length:Int) then (if (x162003_2++(⟨#[46]⟩:ByteArray)).size+(rdOf ByteArray.empty y162 (ji24)).size≤9223372036854775807 then (transhumancelaw2_Make.l0 k2 y162 (wrap64 (Int.tdiv x8_2 13)) (wrap64 (x9_2+1)) x162000_3 x162001_3 x162002_3 ((x162003_2++(⟨#[46]⟩:ByteArray))++(rdOf ByteArray.empty y162 (ji24)))) else (none)) else (none)) else (none))=some (r1,r2,r3,r4):=by first|(rw [hji24] at H;exact H)|(simp only [hji24] at H ⊢;exact H)
        by_cases c25:0≤(ji24)
        ·rw [if_pos c25] at H
         have c25b0:decide (0≤(ji24))=true:=decide_eq_true c25
         clear c25
         by_cases c26:(ji24)<(y162.length:Int)
         ·rw [if_pos c26] at H
          have c26b0:decide ((ji24)<(y162.length:Int))=true:=decide_eq_true c26
          clear c26
          by_cases c27:(x162003_2++(⟨#[46]⟩:ByteArray)).size+(rdOf ByteArray.empty y162 (ji24)).size≤9223372036854775807
          ·rw [if_pos c27] at H
           have c27b0:=eq_true c27
           have c27b1:decide ((x162003_2++(⟨#[46]⟩:ByteArray)).size+(rdOf ByteArray.empty y162 (ji24)).size≤9223372036854775807)=true:=decide_eq_true c27
           try have c27b4:(9223372036854775807<x162003_2.size+1+(rdOf ByteArray.empty y162 (ji24)).size)=False:=eq_false (by have h_:=c27;(try simp only [ByteArray.size_append] at h_);first|omega|(simp [go_sem] at h_;omega))
           try have c27b2:(9223372036854775807<(x162003_2++(⟨#[46]⟩:ByteArray)).size+(rdOf ByteArray.empty y162 (ji24)).size)=False:=eq_false (Nat.not_lt.2 c27)
           have H':=Aside0.mk H
           clear H
           have hnb28:=NB161_159.out
           have hnc28:=NB159_161.out
           have hcz29_0:wr.cell? ⟨gb161,0,none⟩=some (.int .i64 x162000_3):=(blk_cell BK161.out 0).trans rfl
           have hcz29_1:wr.cell? ⟨gb161,1,none⟩=some (.int .i64 x162001_3):=(blk_cell BK161.out 1).trans rfl
           have hcz29_2:wr.cell? ⟨gb161,2,none⟩=some (.int .i64 x162002_3):=(blk_cell BK161.out 2).trans rfl
           have hcz29_3:wr.cell? ⟨gb161,3,none⟩=some (.string x162003_2):=(blk_cell BK161.out 3).trans rfl
           have hfz29_0:=blk_frozen BK161.out 0
           have hfz29_1:=blk_frozen BK161.out 1
           have hfz29_2:=blk_frozen BK161.out 2
           have hfz29_3:=blk_frozen BK161.out 3
           try go_wp2
           have n0_:Aside0 (Kd.R Kd.string 9 (wr.setCell ⟨gb161,3,none⟩ (.string (x162003_2++(⟨#[46]⟩:ByteArray)))) w.heap.size (fun _ => True) v163 y162):=⟨by (with_reducible repeat (first|apply Kd.R_alloc|apply Kd.R_drewN|apply Kd.R_drew));exact Kd.R_mono (Kd.R_far (p:=⟨gb161,3,none⟩) (Kd.R_types HO_7.out BK161.out (by decide)) (fun _ hk => hk.2) (.string (x162003_2++(⟨#[46]⟩:ByteArray)))) (fun _ hk => trivial)⟩
           have n1_:Aside0 ((wr.setCell ⟨gb161,3,none⟩ (.string (x162003_2++(⟨#[46]⟩:ByteArray)))).heap[gb159]?=some (.cells #[.int .i64 0,.int .i64 0,.int .i64 0,.string (⟨#[]⟩:ByteArray)] 43 (0,0))):=⟨by (with_reducible repeat (first|refine blk_drewN ?_ _|refine blk_drew ?_|refine blk_alloc ?_ _));refine blk_far ?_ NB159_161.out _;(with_reducible repeat (first|refine blk_drewN ?_ _|refine blk_drew ?_|refine blk_alloc ?_ _));exact BK159.out⟩
           have n2_:Aside0 ((wr.setCell ⟨gb161,3,none⟩ (.string (x162003_2++(⟨#[46]⟩:ByteArray)))).heap[gb161]?=some (.cells #[.int .i64 x162000_3,.int .i64 x162001_3,.int .i64 x162002_3,.string (x162003_2++(⟨#[46]⟩:ByteArray))] 43 (0,0))):=⟨by (with_reducible repeat (first|refine blk_drewN ?_ _|refine blk_drew ?_|refine blk_alloc ?_ _));refine blk_put (cs:=#[.int .i64 x162000_3,.int .i64 x162001_3,.int .i64 x162002_3,.string x162003_2]) ?_ 3 _ rfl;(with_reducible repeat (first|refine blk_drewN ?_ _|refine blk_drew ?_|refine blk_alloc ?_ _));exact BK161.out⟩
           have n3_:Aside0 (Below w.heap.size w (wr.setCell ⟨gb161,3,none⟩ (.string (x162003_2++(⟨#[46]⟩:ByteArray))))):=⟨by repeat (first|(with_reducible first|exact HB.out|apply below_alloc|apply pw_below_drewN|apply below_drew1|refine below_set ?_ GE159.out|refine below_set ?_ GE161.out)|exact HB.out)⟩
           (try clear HO_7)
           (try clear BK159)
           (try clear BK161)
           (try clear HB)
           generalize (wr.setCell ⟨gb161,3,none⟩ (.string (x162003_2++(⟨#[46]⟩:ByteArray))))=w30 at n0_ n1_ n2_ n3_ ⊢
           have HO_7:=n0_
           have BK159:=n1_
           have BK161:=n2_
           have HB:=n3_
           clear n0_ n1_ n2_ n3_
           have n0_:=Aside0.mk (Kd.R_drew HO_7.out)
           have n1_:=Aside0.mk (blk_drew BK159.out)
           have n2_:=Aside0.mk (blk_drew BK161.out)
           have n3_:=Aside0.mk (below_drew1 HB.out)
           clear HO_7
           clear BK159
           clear BK161
           clear HB
           have HO_7:=n0_
           have BK159:=n1_
           have BK161:=n2_
           have HB:=n3_
           clear n0_ n1_ n2_ n3_
           obtain ⟨Ao32,co32,eo32⟩:=Kd.R_slice HO_7.out
           (first|subst eo32|(injection eo32 with f1_ f2_ f3_;have f4_:=f1_.symm;have f5_:=f3_.symm;clear f1_ f2_ f3_;subst f4_;subst f5_))
           have p166:0≤((ji24):Int):=of_decide_eq_true (by first|(with_reducible assumption)|assumption)
           have q166:(ji24)<(y162.length:Int):=of_decide_eq_true (by first|(with_reducible assumption)|assumption)
           obtain ⟨ad166,e166,hx166_0⟩:=Kd.at_string (Kd.R_reads' HO_7.out).2.2 (ji24) p166 q166
           cases e166
           replace p166:=eq_true p166
           replace q166:=eq_true q166
           refine start_ (n:=11) (S:=fun w' => w'.cell? ⟨gb161,0,none⟩=some (.int .i64 x162000_3)∧w'.cell? ⟨gb161,1,none⟩=some (.int .i64 x162001_3)∧w'.cell? ⟨gb161,2,none⟩=some (.int .i64 x162002_3)∧w'.cell? ⟨gb161,3,none⟩=some (.string (x162003_2++(⟨#[46]⟩:ByteArray)))∧w'.cell? (ad166.add ((ji24)).toNat)=some (.string (rdOf ByteArray.empty y162 (ji24)))) (ds:=[10]) #[false,false,false,false,false,false,false,false,false,false,false] (by kernel_rfl) rfl rfl ⟨(blk_cell BK161.out 0).trans rfl,(blk_cell BK161.out 1).trans rfl,(blk_cell BK161.out 2).trans rfl,(blk_cell BK161.out 3).trans rfl,hx166_0⟩ (fun hHeld => ?_);refine with_tabW transhumancelaw2_Make.tab17 transhumancelaw2_Make.bits17 (fun HT_ HW_ => ?_)
           generalize w30.drew=w31 at HO_7 BK159 BK161 HB hx166_0 hHeld ⊢
           refine pure_ (i:=0) (N:=some 60) (v:=?_) (a':=?_) #[true,false,false,false,false,false,false,false,false,false,false] rfl rfl (any_of HT_.out (by kernel_rfl)) (fun _ _ _ h => h) (Or.inl ⟨by rfl,?_⟩) ?_ ?_
           rotate_left
           ·intro w'
            go_simp
            with_reducible rfl
           rotate_left
           ·simp only [Act.put,List.setIfInBounds_toArray,List.set_cons_zero,List.set_cons_succ,i64_w,i32_w]
            rfl
           refine pure_ (i:=2) (N:=some 62) (v:=?_) (a':=?_) #[true,false,true,false,false,false,false,false,false,false,false] rfl rfl (any_of HT_.out (by kernel_rfl)) (fun _ _ _ h => h) (Or.inl ⟨by rfl,?_⟩) ?_ ?_
           rotate_left
           ·intro w'
            go_simp
            with_reducible rfl
           rotate_left
           ·simp only [Act.put,List.setIfInBounds_toArray,List.set_cons_zero,List.set_cons_succ,i64_w,i32_w]
            rfl
           refine pure_ (i:=3) (N:=some 63) (v:=?_) (a':=?_) #[true,false,true,true,false,false,false,false,false,false,false] rfl rfl (any_of HT_.out (by kernel_rfl)) (fun _ _ _ h => h) (Or.inl ⟨by rfl,?_⟩) ?_ ?_
           rotate_left
           ·intro w'
            go_simp
            with_reducible rfl
           rotate_left
           ·simp only [Act.put,List.setIfInBounds_toArray,List.set_cons_zero,List.set_cons_succ,i64_w,i32_w]
            rfl
           refine pure_ (i:=4) (N:=some 64) (v:=?_) (a':=?_) #[true,false,true,true,true,false,false,false,false,false,false] rfl rfl (any_of HT_.out (by kernel_rfl)) (fun _ _ _ h => h) (Or.inl ⟨by rfl,?_⟩) ?_ ?_
           rotate_left
           ·intro w'
            go_simp
            with_reducible rfl
           rotate_left
           ·simp only [Act.put,List.setIfInBounds_toArray,List.set_cons_zero,List.set_cons_succ,i64_w,i32_w]
            rfl
           refine pure_ (i:=5) (N:=some 65) (v:=?_) (a':=?_) #[true,false,true,true,true,true,false,false,false,false,false] rfl rfl (any_of HT_.out (by kernel_rfl)) (fun _ _ _ h => h) (Or.inl ⟨by rfl,?_⟩) ?_ ?_
           rotate_left
           ·intro w'
            go_simp
            with_reducible rfl
           rotate_left
           ·simp only [Act.put,List.setIfInBounds_toArray,List.set_cons_zero,List.set_cons_succ,i64_w,i32_w]
            rfl
           refine pure_ (i:=6) (N:=some 66) (v:=?_) (a':=?_) #[true,false,true,true,true,true,true,false,false,false,false] rfl rfl (any_of HT_.out (by kernel_rfl)) (fun _ _ _ h => h) (Or.inl ⟨by rfl,?_⟩) ?_ ?_
           rotate_left
           ·intro w'
            go_simp
            with_reducible rfl
           rotate_left
           ·simp only [Act.put,List.setIfInBounds_toArray,List.set_cons_zero,List.set_cons_succ,i64_w,i32_w]
            rfl
           refine take_ (i:=1) (N:=some 61) (v:=?_) (a':=?_) #[true,true,true,true,true,true,true,false,false,false,false] rfl rfl (take_ofW HT_.out HW_.out (by kernel_rfl)) (fun _ _ _ h => h) (Or.inl ⟨by rfl,?_⟩) hHeld ?_ ?_
           rotate_left
           ·rintro w' ⟨s0,s1,s2,s3,s4⟩
            go_simp
            with_reducible rfl
           rotate_left
           ·simp only [Act.put,List.setIfInBounds_toArray,List.set_cons_zero,List.set_cons_succ,i64_w,i32_w]
            rfl
           refine take_ (i:=7) (N:=some 67) (v:=?_) (a':=?_) #[true,true,true,true,true,true,true,true,false,false,false] rfl rfl (take_ofW HT_.out HW_.out (by kernel_rfl)) (fun _ _ _ h => h) (Or.inl ⟨by rfl,?_⟩) hHeld ?_ ?_
           rotate_left
           ·rintro w' ⟨s0,s1,s2,s3,s4⟩
            go_simp
            with_reducible rfl
           rotate_left
           ·simp only [Act.put,List.setIfInBounds_toArray,List.set_cons_zero,List.set_cons_succ,i64_w,i32_w]
            rfl
           refine pure_ (i:=8) (N:=some 68) (v:=?_) (a':=?_) #[true,true,true,true,true,true,true,true,true,false,false] rfl rfl (any_of HT_.out (by kernel_rfl)) (fun _ _ _ h => h) (Or.inl ⟨by rfl,?_⟩) ?_ ?_
           rotate_left
           ·intro w'
            go_simp
            with_reducible rfl
           rotate_left
           ·simp only [Act.put,List.setIfInBounds_toArray,List.set_cons_zero,List.set_cons_succ,i64_w,i32_w]
            rfl
           refine pure_ (i:=9) (N:=some 69) (v:=?_) (a':=?_) #[true,true,true,true,true,true,true,true,true,true,false] rfl rfl (any_of HT_.out (by kernel_rfl)) (fun _ _ _ h => h) (Or.inl ⟨by rfl,?_⟩) ?_ ?_
           rotate_left
           ·intro w'
            go_simp
            with_reducible rfl
           rotate_left
           ·simp only [Act.put,List.setIfInBounds_toArray,List.set_cons_zero,List.set_cons_succ,i64_w,i32_w]
            rfl
           refine last_ (i:=10) (N:=none) #[true,true,true,true,true,true,true,true,true,true,true] rfl rfl (one_of HT_.out (by kernel_rfl)) (by decide) (fun K hK => ?_)
           have hs33:w31.cell? ⟨gb161,3,none⟩=some (.string (x162003_2++(⟨#[46]⟩:ByteArray))):=(blk_cell BK161.out 3).trans rfl
           have hfs33:=blk_frozen BK161.out 3
           have hns33_0:=NB159_161.out
           have hms33_0:=NB161_159.out
           refine skip_ (w1:=?_) (by rfl) rfl ?_ ?_
           rotate_left
           ·go_simp
            rfl
           refine hK.out _ _ ?_
           clear hK K
           refine done_ (done_of HT_.out (by kernel_rfl)) ?_
           try go_wp2
           go_roundg k2
           case measure => have:=HJ3.out;have:=HK2.out;omega
           case rel => exact ⟨(wrap64 (Int.tdiv x8_2 13)),(wrap64 (x9_2+1)),((x162003_2++(⟨#[46]⟩:ByteArray))++(rdOf ByteArray.empty y162 (ji24))),(by first|rfl|(simp;done)|(simp [*];done)|(simp;exact (fun l_:List UInt8 => by cases l_ <;> rfl:∀ l_:List UInt8,l_.isEmpty=!(l_ != [])) _)),(by first|rfl|(simp;done)|(simp [*];done)|(simp;exact (fun l_:List UInt8 => by cases l_ <;> rfl:∀ l_:List UInt8,l_.isEmpty=!(l_ != [])) _)),H',⟨by have:=HJ3.out;have:=HK2.out;omega⟩,⟨by (with_reducible repeat (first|apply Kd.R_alloc|apply Kd.R_drewN|apply Kd.R_drew));exact Kd.R_mono (Kd.R_far (p:=⟨gb161,3,none⟩) (Kd.R_types HO_7.out BK161.out (by decide)) (fun _ hk => hk.2) (.string ((x162003_2++(⟨#[46]⟩:ByteArray))++(rdOf ByteArray.empty y162 (ji24))))) (fun _ hk => trivial)⟩,⟨by (with_reducible repeat (first|refine blk_drewN ?_ _|refine blk_drew ?_|refine blk_alloc ?_ _));refine blk_far ?_ NB159_161.out _;(with_reducible repeat (first|refine blk_drewN ?_ _|refine blk_drew ?_|refine blk_alloc ?_ _));exact BK159.out⟩,⟨by (with_reducible repeat (first|refine blk_drewN ?_ _|refine blk_drew ?_|refine blk_alloc ?_ _));refine blk_put (cs:=#[.int .i64 x162000_3,.int .i64 x162001_3,.int .i64 x162002_3,.string (x162003_2++(⟨#[46]⟩:ByteArray))]) ?_ 3 _ rfl;(with_reducible repeat (first|refine blk_drewN ?_ _|refine blk_drew ?_|refine blk_alloc ?_ _));exact BK161.out⟩,⟨by repeat (first|(with_reducible first|exact HB.out|apply below_alloc|apply pw_below_drewN|apply below_drew1|refine below_set ?_ GE159.out|refine below_set ?_ GE161.out)|exact HB.out)⟩⟩
          ·rw [if_neg c27] at H
           exact absurd H (by simp)
         ·rw [if_neg c26] at H
          exact absurd H (by simp)
        ·rw [if_neg c25] at H
         exact absurd H (by simp)
       ·rw [if_neg c23] at H
        exact absurd H (by simp)
      ·rw [if_neg c22] at H
       have c22b0:decide (0<x9_2)=false:=decide_eq_false c22
       clear c22
       obtain ⟨ji34,hji34⟩:∃ j_:Int,(Int.tmod (wrap64 (Int.tdiv x8_2 4)) 13)=j_:=⟨_,rfl⟩
       replace H:(if 0≤(ji34) then (if (ji34)<(y162.length:Int) then (if x162003_2.size+(rdOf ByteArray.empty y162 (ji34)).size≤9223372036854775807 then (transhumancelaw2_Make.l0 k2 y162 (wrap64 (Int.tdiv x8_2 13)) (wrap64 (x9_2+1)) x162000_3 x162001_3 x162002_3 (x162003_2++(rdOf ByteArray.empty y162 (ji34)))) else (none)) else (none)) else (none))=some (r1,r2,r3,r4):=by first|(rw [hji34] at H;exact H)|(simp only [hji34] at H ⊢;exact H)
       by_cases c35:0≤(ji34)
       ·rw [if_pos c35] at H
        have c35b0:decide (0≤(ji34))=true:=decide_eq_true c35
        clear c35
        by_cases c36:(ji34)<(y162.length:Int)
        ·rw [if_pos c36] at H
         have c36b0:decide ((ji34)<(y162.length:Int))=true:=decide_eq_true c36
         clear c36
         by_cases c37:x162003_2.size+(rdOf ByteArray.empty y162 (ji34)).size≤9223372036854775807
         ·rw [if_pos c37] at H
          have c37b0:=eq_true c37
          have c37b1:decide (x162003_2.size+(rdOf ByteArray.empty y162 (ji34)).size≤9223372036854775807)=true:=decide_eq_true c37
          try have c37b2:(9223372036854775807<x162003_2.size+(rdOf ByteArray.empty y162 (ji34)).size)=False:=eq_false (Nat.not_lt.2 c37)
          have H':=Aside0.mk H
          clear H
          try go_wp2
          have n0_:=Aside0.mk (Kd.R_drew HO_7.out)
          have n1_:=Aside0.mk (blk_drew BK159.out)
          have n2_:=Aside0.mk (blk_drew BK161.out)
          have n3_:=Aside0.mk (below_drew1 HB.out)
          clear HO_7
          clear BK159
          clear BK161
          clear HB
          have HO_7:=n0_
          have BK159:=n1_
          have BK161:=n2_
          have HB:=n3_
          clear n0_ n1_ n2_ n3_
          obtain ⟨Ao39,co39,eo39⟩:=Kd.R_slice HO_7.out
          (first|subst eo39|(injection eo39 with f1_ f2_ f3_;have f4_:=f1_.symm;have f5_:=f3_.symm;clear f1_ f2_ f3_;subst f4_;subst f5_))
          have p167:0≤((ji34):Int):=of_decide_eq_true (by first|(with_reducible assumption)|assumption)
          have q167:(ji34)<(y162.length:Int):=of_decide_eq_true (by first|(with_reducible assumption)|assumption)
          obtain ⟨ad167,e167,hx167_0⟩:=Kd.at_string (Kd.R_reads' HO_7.out).2.2 (ji34) p167 q167
          cases e167
          replace p167:=eq_true p167
          replace q167:=eq_true q167
          refine start_ (n:=11) (S:=fun w' => w'.cell? ⟨gb161,0,none⟩=some (.int .i64 x162000_3)∧w'.cell? ⟨gb161,1,none⟩=some (.int .i64 x162001_3)∧w'.cell? ⟨gb161,2,none⟩=some (.int .i64 x162002_3)∧w'.cell? ⟨gb161,3,none⟩=some (.string x162003_2)∧w'.cell? (ad167.add ((ji34)).toNat)=some (.string (rdOf ByteArray.empty y162 (ji34)))) (ds:=[10]) #[false,false,false,false,false,false,false,false,false,false,false] (by kernel_rfl) rfl rfl ⟨(blk_cell BK161.out 0).trans rfl,(blk_cell BK161.out 1).trans rfl,(blk_cell BK161.out 2).trans rfl,(blk_cell BK161.out 3).trans rfl,hx167_0⟩ (fun hHeld => ?_);refine with_tabW transhumancelaw2_Make.tab17 transhumancelaw2_Make.bits17 (fun HT_ HW_ => ?_)
          generalize wr.drew=w38 at HO_7 BK159 BK161 HB hx167_0 hHeld ⊢
          refine pure_ (i:=0) (N:=some 60) (v:=?_) (a':=?_) #[true,false,false,false,false,false,false,false,false,false,false] rfl rfl (any_of HT_.out (by kernel_rfl)) (fun _ _ _ h => h) (Or.inl ⟨by rfl,?_⟩) ?_ ?_
          rotate_left
          ·intro w'
           go_simp
           with_reducible rfl
          rotate_left
          ·simp only [Act.put,List.setIfInBounds_toArray,List.set_cons_zero,List.set_cons_succ,i64_w,i32_w]
           rfl
          refine pure_ (i:=2) (N:=some 62) (v:=?_) (a':=?_) #[true,false,true,false,false,false,false,false,false,false,false] rfl rfl (any_of HT_.out (by kernel_rfl)) (fun _ _ _ h => h) (Or.inl ⟨by rfl,?_⟩) ?_ ?_
          rotate_left
          ·intro w'
           go_simp
           with_reducible rfl
          rotate_left
          ·simp only [Act.put,List.setIfInBounds_toArray,List.set_cons_zero,List.set_cons_succ,i64_w,i32_w]
           rfl
          refine pure_ (i:=3) (N:=some 63) (v:=?_) (a':=?_) #[true,false,true,true,false,false,false,false,false,false,false] rfl rfl (any_of HT_.out (by kernel_rfl)) (fun _ _ _ h => h) (Or.inl ⟨by rfl,?_⟩) ?_ ?_
          rotate_left
          ·intro w'
           go_simp
           with_reducible rfl
          rotate_left
          ·simp only [Act.put,List.setIfInBounds_toArray,List.set_cons_zero,List.set_cons_succ,i64_w,i32_w]
           rfl
          refine pure_ (i:=4) (N:=some 64) (v:=?_) (a':=?_) #[true,false,true,true,true,false,false,false,false,false,false] rfl rfl (any_of HT_.out (by kernel_rfl)) (fun _ _ _ h => h) (Or.inl ⟨by rfl,?_⟩) ?_ ?_
          rotate_left
          ·intro w'
           go_simp
           with_reducible rfl
          rotate_left
          ·simp only [Act.put,List.setIfInBounds_toArray,List.set_cons_zero,List.set_cons_succ,i64_w,i32_w]
           rfl
          refine pure_ (i:=5) (N:=some 65) (v:=?_) (a':=?_) #[true,false,true,true,true,true,false,false,false,false,false] rfl rfl (any_of HT_.out (by kernel_rfl)) (fun _ _ _ h => h) (Or.inl ⟨by rfl,?_⟩) ?_ ?_
          rotate_left
          ·intro w'
           go_simp
           with_reducible rfl
          rotate_left
          ·simp only [Act.put,List.setIfInBounds_toArray,List.set_cons_zero,List.set_cons_succ,i64_w,i32_w]
           rfl
          refine pure_ (i:=6) (N:=some 66) (v:=?_) (a':=?_) #[true,false,true,true,true,true,true,false,false,false,false] rfl rfl (any_of HT_.out (by kernel_rfl)) (fun _ _ _ h => h) (Or.inl ⟨by rfl,?_⟩) ?_ ?_
          rotate_left
          ·intro w'
           go_simp
           with_reducible rfl
          rotate_left
          ·simp only [Act.put,List.setIfInBounds_toArray,List.set_cons_zero,List.set_cons_succ,i64_w,i32_w]
           rfl
          refine take_ (i:=1) (N:=some 61) (v:=?_) (a':=?_) #[true,true,true,true,true,true,true,false,false,false,false] rfl rfl (take_ofW HT_.out HW_.out (by kernel_rfl)) (fun _ _ _ h => h) (Or.inl ⟨by rfl,?_⟩) hHeld ?_ ?_
          rotate_left
          ·rintro w' ⟨s0,s1,s2,s3,s4⟩
           go_simp
           with_reducible rfl
          rotate_left
          ·simp only [Act.put,List.setIfInBounds_toArray,List.set_cons_zero,List.set_cons_succ,i64_w,i32_w]
           rfl
          refine take_ (i:=7) (N:=some 67) (v:=?_) (a':=?_) #[true,true,true,true,true,true,true,true,false,false,false] rfl rfl (take_ofW HT_.out HW_.out (by kernel_rfl)) (fun _ _ _ h => h) (Or.inl ⟨by rfl,?_⟩) hHeld ?_ ?_
          rotate_left
          ·rintro w' ⟨s0,s1,s2,s3,s4⟩
           go_simp
           with_reducible rfl
          rotate_left
          ·simp only [Act.put,List.setIfInBounds_toArray,List.set_cons_zero,List.set_cons_succ,i64_w,i32_w]
           rfl
          refine pure_ (i:=8) (N:=some 68) (v:=?_) (a':=?_) #[true,true,true,true,true,true,true,true,true,false,false] rfl rfl (any_of HT_.out (by kernel_rfl)) (fun _ _ _ h => h) (Or.inl ⟨by rfl,?_⟩) ?_ ?_
          rotate_left
          ·intro w'
           go_simp
           with_reducible rfl
          rotate_left
          ·simp only [Act.put,List.setIfInBounds_toArray,List.set_cons_zero,List.set_cons_succ,i64_w,i32_w]
           rfl
          refine pure_ (i:=9) (N:=some 69) (v:=?_) (a':=?_) #[true,true,true,true,true,true,true,true,true,true,false] rfl rfl (any_of HT_.out (by kernel_rfl)) (fun _ _ _ h => h) (Or.inl ⟨by rfl,?_⟩) ?_ ?_
          rotate_left
          ·intro w'
           go_simp
           with_reducible rfl
          rotate_left
          ·simp only [Act.put,List.setIfInBounds_toArray,List.set_cons_zero,List.set_cons_succ,i64_w,i32_w]
           rfl
          refine last_ (i:=10) (N:=none) #[true,true,true,true,true,true,true,true,true,true,true] rfl rfl (one_of HT_.out (by kernel_rfl)) (by decide) (fun K hK => ?_)
          have hs40:w38.cell? ⟨gb161,3,none⟩=some (.string x162003_2):=(blk_cell BK161.out 3).trans rfl
          have hfs40:=blk_frozen BK161.out 3
          have hns40_0:=NB159_161.out
          have hms40_0:=NB161_159.out
          refine skip_ (w1:=?_) (by rfl) rfl ?_ ?_
          rotate_left
          ·go_simp
           rfl
          refine hK.out _ _ ?_
          clear hK K
          refine done_ (done_of HT_.out (by kernel_rfl)) ?_
          try go_wp2
          go_roundg k2
          case measure => have:=HJ3.out;have:=HK2.out;omega
          case rel => exact ⟨(wrap64 (Int.tdiv x8_2 13)),(wrap64 (x9_2+1)),(x162003_2++(rdOf ByteArray.empty y162 (ji34))),(by first|rfl|(simp;done)|(simp [*];done)|(simp;exact (fun l_:List UInt8 => by cases l_ <;> rfl:∀ l_:List UInt8,l_.isEmpty=!(l_ != [])) _)),(by first|rfl|(simp;done)|(simp [*];done)|(simp;exact (fun l_:List UInt8 => by cases l_ <;> rfl:∀ l_:List UInt8,l_.isEmpty=!(l_ != [])) _)),H',⟨by have:=HJ3.out;have:=HK2.out;omega⟩,⟨by (with_reducible repeat (first|apply Kd.R_alloc|apply Kd.R_drewN|apply Kd.R_drew));exact Kd.R_mono (Kd.R_far (p:=⟨gb161,3,none⟩) (Kd.R_types HO_7.out BK161.out (by decide)) (fun _ hk => hk.2) (.string (x162003_2++(rdOf ByteArray.empty y162 (ji34))))) (fun _ hk => trivial)⟩,⟨by (with_reducible repeat (first|refine blk_drewN ?_ _|refine blk_drew ?_|refine blk_alloc ?_ _));refine blk_far ?_ NB159_161.out _;(with_reducible repeat (first|refine blk_drewN ?_ _|refine blk_drew ?_|refine blk_alloc ?_ _));exact BK159.out⟩,⟨by (with_reducible repeat (first|refine blk_drewN ?_ _|refine blk_drew ?_|refine blk_alloc ?_ _));refine blk_put (cs:=#[.int .i64 x162000_3,.int .i64 x162001_3,.int .i64 x162002_3,.string x162003_2]) ?_ 3 _ rfl;(with_reducible repeat (first|refine blk_drewN ?_ _|refine blk_drew ?_|refine blk_alloc ?_ _));exact BK161.out⟩,⟨by repeat (first|(with_reducible first|exact HB.out|apply below_alloc|apply pw_below_drewN|apply below_drew1|refine below_set ?_ GE159.out|refine below_set ?_ GE161.out)|exact HB.out)⟩⟩
         ·rw [if_neg c37] at H
          exact absurd H (by simp)
        ·rw [if_neg c36] at H
         exact absurd H (by simp)
       ·rw [if_neg c35] at H
        exact absurd H (by simp)
     ·rw [if_neg c21] at H
      have c21b0:decide (x9_2<(Int.tmod x8_2 4))=false:=decide_eq_false c21
      clear c21
      by_cases c41:(x162003_2.size:Int) > 40
      ·rw [if_pos c41] at H
       have c41b0:decide (40<(x162003_2.size:Int))=true:=decide_eq_true c41
       have c41b1:decide (40<x162003_2.size)=true:=decide_eq_true (by omega)
       clear c41
       simp only [Option.some.injEq,Prod.mk.injEq] at H
       obtain ⟨rfl,rfl,rfl,rfl⟩:=H
       have hnb42:=NB161_159.out
       have hnc42:=NB159_161.out
       have hcz43_0:wr.cell? ⟨gb161,0,none⟩=some (.int .i64 x162000_3):=(blk_cell BK161.out 0).trans rfl
       have hcz43_1:wr.cell? ⟨gb161,1,none⟩=some (.int .i64 x162001_3):=(blk_cell BK161.out 1).trans rfl
       have hcz43_2:wr.cell? ⟨gb161,2,none⟩=some (.int .i64 x162002_3):=(blk_cell BK161.out 2).trans rfl
       have hcz43_3:wr.cell? ⟨gb161,3,none⟩=some (.string x162003_2):=(blk_cell BK161.out 3).trans rfl
       have hfz43_0:=blk_frozen BK161.out 0
       have hfz43_1:=blk_frozen BK161.out 1
       have hfz43_2:=blk_frozen BK161.out 2
       have hfz43_3:=blk_frozen BK161.out 3
       have hcz44_0:wr.cell? ⟨gb159,0,none⟩=some (.int .i64 0):=(blk_cell BK159.out 0).trans rfl
       have hcz44_1:wr.cell? ⟨gb159,1,none⟩=some (.int .i64 0):=(blk_cell BK159.out 1).trans rfl
       have hcz44_2:wr.cell? ⟨gb159,2,none⟩=some (.int .i64 0):=(blk_cell BK159.out 2).trans rfl
       have hcz44_3:wr.cell? ⟨gb159,3,none⟩=some (.string (⟨#[]⟩:ByteArray)):=(blk_cell BK159.out 3).trans rfl
       have hfz44_0:=blk_frozen BK159.out 0
       have hfz44_1:=blk_frozen BK159.out 1
       have hfz44_2:=blk_frozen BK159.out 2
       have hfz44_3:=blk_frozen BK159.out 3
       go_wp2
       refine bodyPost_ret (results_cell_row rfl _ _ gb159 43 #[.int .i64 x162000_3,.int .i64 x162001_3,.int .i64 x162002_3,.string (⟨#[114,99,46,49]⟩:ByteArray)] (0,0) _ rfl (by (with_reducible repeat (first|refine blk_drewN ?_ _|refine blk_drew ?_|refine blk_alloc ?_ _));refine blk_put (cs:=#[.int .i64 x162000_3,.int .i64 x162001_3,.int .i64 x162002_3,.string (⟨#[]⟩:ByteArray)]) ?_ 3 _ rfl;(with_reducible repeat (first|refine blk_drewN ?_ _|refine blk_drew ?_|refine blk_alloc ?_ _));refine blk_put (cs:=#[.int .i64 x162000_3,.int .i64 x162001_3,.int .i64 0,.string (⟨#[]⟩:ByteArray)]) ?_ 2 _ rfl;(with_reducible repeat (first|refine blk_drewN ?_ _|refine blk_drew ?_|refine blk_alloc ?_ _));refine blk_put (cs:=#[.int .i64 x162000_3,.int .i64 0,.int .i64 0,.string (⟨#[]⟩:ByteArray)]) ?_ 1 _ rfl;(with_reducible repeat (first|refine blk_drewN ?_ _|refine blk_drew ?_|refine blk_alloc ?_ _));refine blk_put (cs:=#[.int .i64 0,.int .i64 0,.int .i64 0,.string (⟨#[]⟩:ByteArray)]) ?_ 0 _ rfl;(with_reducible repeat (first|refine blk_drewN ?_ _|refine blk_drew ?_|refine blk_alloc ?_ _));refine blk_far ?_ NB159_161.out _;(with_reducible repeat (first|refine blk_drewN ?_ _|refine blk_drew ?_|refine blk_alloc ?_ _));exact BK159.out) Tryz.underlying43 rfl (by kernel_rfl)) rfl ?_
       exact ⟨by first|rfl|(simp [errW_none,errW_some] <;> rfl)|(simp [*,errW_none,errW_some] <;> rfl),by repeat (first|(with_reducible first|exact HB.out|apply below_alloc|apply pw_below_drewN|apply below_drew1|refine below_set ?_ GE159.out|refine below_set ?_ GE161.out)|exact HB.out)⟩
      ·rw [if_neg c41] at H
       have c41b0:decide (40<(x162003_2.size:Int))=false:=decide_eq_false c41
       have c41b1:decide (40<x162003_2.size)=false:=decide_eq_false (by omega)
       clear c41
       simp only [Option.some.injEq,Prod.mk.injEq] at H
       obtain ⟨rfl,rfl,rfl,rfl⟩:=H
       have hnb45:=NB161_159.out
       have hnc45:=NB159_161.out
       have hcz46_0:wr.cell? ⟨gb161,0,none⟩=some (.int .i64 x162000_3):=(blk_cell BK161.out 0).trans rfl
       have hcz46_1:wr.cell? ⟨gb161,1,none⟩=some (.int .i64 x162001_3):=(blk_cell BK161.out 1).trans rfl
       have hcz46_2:wr.cell? ⟨gb161,2,none⟩=some (.int .i64 x162002_3):=(blk_cell BK161.out 2).trans rfl
       have hcz46_3:wr.cell? ⟨gb161,3,none⟩=some (.string x162003_2):=(blk_cell BK161.out 3).trans rfl
       have hfz46_0:=blk_frozen BK161.out 0
       have hfz46_1:=blk_frozen BK161.out 1
       have hfz46_2:=blk_frozen BK161.out 2
       have hfz46_3:=blk_frozen BK161.out 3
       have hcz47_0:wr.cell? ⟨gb159,0,none⟩=some (.int .i64 0):=(blk_cell BK159.out 0).trans rfl
       have hcz47_1:wr.cell? ⟨gb159,1,none⟩=some (.int .i64 0):=(blk_cell BK159.out 1).trans rfl
       have hcz47_2:wr.cell? ⟨gb159,2,none⟩=some (.int .i64 0):=(blk_cell BK159.out 2).trans rfl
       have hcz47_3:wr.cell? ⟨gb159,3,none⟩=some (.string (⟨#[]⟩:ByteArray)):=(blk_cell BK159.out 3).trans rfl
       have hfz47_0:=blk_frozen BK159.out 0
       have hfz47_1:=blk_frozen BK159.out 1
       have hfz47_2:=blk_frozen BK159.out 2
       have hfz47_3:=blk_frozen BK159.out 3
       go_wp2
       refine bodyPost_ret (results_cell_row rfl _ _ gb159 43 #[.int .i64 x162000_3,.int .i64 x162001_3,.int .i64 x162002_3,.string x162003_2] (0,0) _ rfl (by (with_reducible repeat (first|refine blk_drewN ?_ _|refine blk_drew ?_|refine blk_alloc ?_ _));refine blk_put (cs:=#[.int .i64 x162000_3,.int .i64 x162001_3,.int .i64 x162002_3,.string (⟨#[]⟩:ByteArray)]) ?_ 3 _ rfl;(with_reducible repeat (first|refine blk_drewN ?_ _|refine blk_drew ?_|refine blk_alloc ?_ _));refine blk_put (cs:=#[.int .i64 x162000_3,.int .i64 x162001_3,.int .i64 0,.string (⟨#[]⟩:ByteArray)]) ?_ 2 _ rfl;(with_reducible repeat (first|refine blk_drewN ?_ _|refine blk_drew ?_|refine blk_alloc ?_ _));refine blk_put (cs:=#[.int .i64 x162000_3,.int .i64 0,.int .i64 0,.string (⟨#[]⟩:ByteArray)]) ?_ 1 _ rfl;(with_reducible repeat (first|refine blk_drewN ?_ _|refine blk_drew ?_|refine blk_alloc ?_ _));refine blk_put (cs:=#[.int .i64 0,.int .i64 0,.int .i64 0,.string (⟨#[]⟩:ByteArray)]) ?_ 0 _ rfl;(with_reducible repeat (first|refine blk_drewN ?_ _|refine blk_drew ?_|refine blk_alloc ?_ _));exact BK159.out) Tryz.underlying43 rfl (by kernel_rfl)) rfl ?_
       exact ⟨by first|rfl|(simp [errW_none,errW_some] <;> rfl)|(simp [*,errW_none,errW_some] <;> rfl),by repeat (first|(with_reducible first|exact HB.out|apply below_alloc|apply pw_below_drewN|apply below_drew1|refine below_set ?_ GE159.out|refine below_set ?_ GE161.out)|exact HB.out)⟩
end Go.Proofs.YtjiidlkkkednoaaGreatDoor.Q
