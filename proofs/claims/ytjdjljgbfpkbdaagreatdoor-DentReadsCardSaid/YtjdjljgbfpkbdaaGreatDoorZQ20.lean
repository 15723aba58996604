import Derived.Test.YtjdjljgbfpkbdaaGreatDoorZQ0
import Derived.Test.YtjdjljgbfpkbdaaGreatDoorZQ15
import Derived.Test.YtjdjljgbfpkbdaaGreatDoorZQ16
import Derived.Test.YtjdjljgbfpkbdaaGreatDoorZQ18
import Derived.Test.YtjdjljgbfpkbdaaGreatDoorZQ19
namespace Go.Proofs.YtjdjljgbfpkbdaaGreatDoor.Q
open Go.RowKit Go.Proofs.YtjdjljgbfpkbdaaGreatDoorW.PrintWords Go.Proofs.YtjdjljgbfpkbdaaGreatDoorW.PrintLast Go.Proofs.YtjdjljgbfpkbdaaGreatDoorW.PrintMore
attribute [local go_sem] max2_int min2_int max_two min_two max_three min_three max_four min_four
set_option linter.unusedVariables false
set_option linter.unusedSimpArgs false
mutual
def transhumancelaw5_Lock.j0:Nat→Int→List Int→Int→ByteArray→ByteArray→ByteArray→ByteArray→ByteArray→Option (ByteArray × ByteArray × ByteArray × ByteArray × ByteArray)
 | 0,_,_,_,_,_,_,_,_ => none
 | k+1,x1,x2,x7,x194000,x194001,x194002,x194003,x194004 => if (Int.tmod x7 3)=1 then (transhumancelaw5_Lock.j1 k x1 x2 x7 x194000 x194001 x194002 x194003 x194004) else (if 0≤(wrap64 (12+(Int.tmod (wrap64 (Int.tdiv x7 3)) 12))) then (if (wrap64 (12+(Int.tmod (wrap64 (Int.tdiv x7 3)) 12)))≤24 then (transhumancelaw5_Lock.j1 k x1 x2 x7 x194000 x194001 ((⟨#[48,49,50,51,52,53,54,55,56,57,97,98,99,100,101,102,48,49,50,51,52,53,54,55]⟩:ByteArray).extract 0 ((wrap64 (12+(Int.tmod (wrap64 (Int.tdiv x7 3)) 12))):Int).toNat) x194003 x194004) else (none)) else (none))
def transhumancelaw5_Lock.j1:Nat→Int→List Int→Int→ByteArray→ByteArray→ByteArray→ByteArray→ByteArray→Option (ByteArray × ByteArray × ByteArray × ByteArray × ByteArray)
 | 0,_,_,_,_,_,_,_,_ => none
 | k+1,x1,x2,x7,x194000,x194001,x194002,x194003,x194004 => if (Int.tmod (wrap64 (Int.tdiv x7 36)) 3)=0 then ((transhumancelaw1_Plain.f k x2 20).bind fun t199 => (if (Int.tmod (wrap64 (Int.tdiv x7 108)) 4)=0 then ((transhumancelaw4_Make.f k x1).bind fun t200 => (some (x194000,x194001,x194002,t199,t200))) else (some (x194000,x194001,x194002,t199,x194004)))) else (if (Int.tmod (wrap64 (Int.tdiv x7 108)) 4)=0 then ((transhumancelaw4_Make.f k x1).bind fun t201 => (some (x194000,x194001,x194002,x194003,t201))) else (some (x194000,x194001,x194002,x194003,x194004)))
end
def transhumancelaw5_Lock.f (k:Nat) (a0:Int) (a1:Int) (l2:List Int):Option (ByteArray × ByteArray × ByteArray × ByteArray × ByteArray):=(transhumancelaw5_within.f a0 1099511627776).bind fun t191 => ((transhumancelaw4_Make.f k t191).bind fun t192 => (if (Int.tmod t191 3) > 0 then ((transhumancelaw2_Make.f k a1 a0).bind fun bt194 => ((transhumanceref2_Text.f k bt194.1 bt194.2.1 bt194.2.2.1 bt194.2.2.2).bind fun t198 => (transhumancelaw5_Lock.j0 k a1 l2 t191 t192 t198 (⟨#[]⟩:ByteArray) (⟨#[]⟩:ByteArray) (⟨#[]⟩:ByteArray)))) else (transhumancelaw5_Lock.j0 k a1 l2 t191 t192 (⟨#[]⟩:ByteArray) (⟨#[]⟩:ByteArray) (⟨#[]⟩:ByteArray) (⟨#[]⟩:ByteArray))))
set_option maxHeartbeats 8000000 in
set_option maxRecDepth 100000 in
theorem transhumancelaw5_Lock.calls (k:Nat) (a0:Int) (a1:Int) (A2:Option Addr) (c2:Nat) (l2:List Int) (r1:ByteArray) (r2:ByteArray) (r3:ByteArray) (r4:ByteArray) (r5:ByteArray) (w:World) (hr2:Kd.C (Kd.int .u8) w A2 l2.length l2) (hc2:l2.length≤c2) (h:transhumancelaw5_Lock.f k a0 a1 l2=some (r1,r2,r3,r4,r5)) :
  Calls Tryz.prog 19 #[.int .i64 a0,.int .i64 a1,.slice A2 l2.length c2] w fun e w' => e=.returned (.agg #[.string r1,.string r2,.string r3,.string r4,.string r5])∧Below w.heap.size w w':=by
 have hu43:=Tryz.underlying43
 have HR2:=Aside0.mk hr2
 have HC2:=Aside0.mk hc2
 clear hr2 hc2
 have HB:=Aside0.mk (Below.refl w.heap.size w)
 have H:((transhumancelaw5_within.f a0 1099511627776).bind fun t191 => ((transhumancelaw4_Make.f k t191).bind fun t192 => (if (Int.tmod t191 3) > 0 then ((transhumancelaw2_Make.f k a1 a0).bind fun bt194 => ((transhumanceref2_Text.f k bt194.1 bt194.2.1 bt194.2.2.1 bt194.2.2.2).bind fun t198 => (transhumancelaw5_Lock.j0 k a1 l2 t191 t192 t198 (⟨#[]⟩:ByteArray) (⟨#[]⟩:ByteArray) (⟨#[]⟩:ByteArray)))) else (transhumancelaw5_Lock.j0 k a1 l2 t191 t192 (⟨#[]⟩:ByteArray) (⟨#[]⟩:ByteArray) (⟨#[]⟩:ByteArray) (⟨#[]⟩:ByteArray)))))=some (r1,r2,r3,r4,r5):=h
 clear h
 replace H:=Option.bind_eq_some_iff.mp H
 obtain ⟨t191,A40,H⟩:=H
 replace H:((transhumancelaw4_Make.f k t191).bind fun t192 => (if (Int.tmod t191 3) > 0 then ((transhumancelaw2_Make.f k a1 a0).bind fun bt194 => ((transhumanceref2_Text.f k bt194.1 bt194.2.1 bt194.2.2.1 bt194.2.2.2).bind fun t198 => (transhumancelaw5_Lock.j0 k a1 l2 t191 t192 t198 (⟨#[]⟩:ByteArray) (⟨#[]⟩:ByteArray) (⟨#[]⟩:ByteArray)))) else (transhumancelaw5_Lock.j0 k a1 l2 t191 t192 (⟨#[]⟩:ByteArray) (⟨#[]⟩:ByteArray) (⟨#[]⟩:ByteArray) (⟨#[]⟩:ByteArray))))=some (r1,r2,r3,r4,r5):=H
 have A4:=Aside0.mk A40
 clear A40
 replace H:=Option.bind_eq_some_iff.mp H
 obtain ⟨t192,A50,H⟩:=H
 replace H:(if (Int.tmod t191 3) > 0 then ((transhumancelaw2_Make.f k a1 a0).bind fun bt194 => ((transhumanceref2_Text.f k bt194.1 bt194.2.1 bt194.2.2.1 bt194.2.2.2).bind fun t198 => (transhumancelaw5_Lock.j0 k a1 l2 t191 t192 t198 (⟨#[]⟩:ByteArray) (⟨#[]⟩:ByteArray) (⟨#[]⟩:ByteArray)))) else (transhumancelaw5_Lock.j0 k a1 l2 t191 t192 (⟨#[]⟩:ByteArray) (⟨#[]⟩:ByteArray) (⟨#[]⟩:ByteArray) (⟨#[]⟩:ByteArray)))=some (r1,r2,r3,r4,r5):=H
 have A5:=Aside0.mk A50
 clear A50
 have HC6:=Aside0.mk H
 clear H
 go_enter Tryz.func19,Tryz.ntmps19
 go_upto_if 16 with (first|((with_reducible refine gate_dst (N:=6) rfl ?_);refine box_event ?hg (N:=6) ?hd (cs:=#[.string (⟨#[]⟩:ByteArray),.string (⟨#[]⟩:ByteArray),.string (⟨#[]⟩:ByteArray),.string (⟨#[]⟩:ByteArray),.string (⟨#[]⟩:ByteArray)]) (t:=43) ?hr ?_;(case hd => rfl);(case hg => rfl);(case hr => first|(go_simp;done)|(go_simp;rfl));intro gb190 hg w7 hbox hb;have n0_:=Aside0.mk (below_step (by repeat (first|(with_reducible first|exact HB.out|apply below_alloc|apply pw_below_drewN|apply below_drew1)|exact HB.out)) hb);have n1_:=Aside0.mk (hbox);have n2_:=Aside0.mk ((by rw [hg];exact (below_size (by repeat (first|(with_reducible first|exact HB.out|apply below_alloc|apply pw_below_drewN|apply below_drew1)|exact HB.out))):w.heap.size≤gb190));have n3_:=Aside0.mk ((by rw [hg];exact (below_size (by repeat (first|(with_reducible first|exact HB.out|apply below_alloc|apply pw_below_drewN|apply below_drew1)|exact HB.out))):w.heap.size≤gb190));clear HB;have HB:=n0_;have BK190:=n1_;have GW190:=n2_;have GE190:=n3_;clear n0_ n1_ n2_ n3_;clear hb hbox hg)|((with_reducible refine gate_callee (f:=40) rfl ?_);refine goesL_ (some 10) rfl rfl Tryz.func40 (by kernel_rfl) rfl #[.int .i64 a0,.int .i64 1099511627776] rfl (by (try simp only [List.map_toArray,List.map_cons,List.map_nil]);first|done|rfl|(simp only [List.length_drop,List.length_take];rfl)) ?_;(with_reducible refine (transhumancelaw5_within.calls a0 1099511627776 t191 _ A4.out).mono ?_);rintro e w' ⟨rfl,⟨nd,rfl⟩⟩;refine ⟨_,rfl,?_⟩;(try (rw [drewN_self w7];generalize hq_:World.drewN w7 _=w7;have n0_:Aside0 (w7.heap[gb190]?=some (.cells #[.string (⟨#[]⟩:ByteArray),.string (⟨#[]⟩:ByteArray),.string (⟨#[]⟩:ByteArray),.string (⟨#[]⟩:ByteArray),.string (⟨#[]⟩:ByteArray)] 43 (0,0))):=⟨by rw [← hq_];exact (by (with_reducible repeat (first|refine blk_drewN ?_ _|refine blk_drew ?_|refine blk_alloc ?_ _));exact BK190.out)⟩;have n1_:Aside0 (Below w.heap.size w w7):=⟨by rw [← hq_];exact (by repeat (first|(with_reducible first|exact HB.out|apply below_alloc|apply pw_below_drewN|apply below_drew1|refine below_set ?_ GE190.out)|exact HB.out))⟩;clear BK190 HB hq_;have BK190:=n0_;have HB:=n1_;clear n0_ n1_)))|((with_reducible refine gate_callee (f:=41) rfl ?_);refine goesL_ (some 12) rfl rfl Tryz.func41 (by kernel_rfl) rfl #[.int .i64 t191] rfl (by (try simp only [List.map_toArray,List.map_cons,List.map_nil]);first|done|rfl|(simp only [List.length_drop,List.length_take];rfl)) ?_;(with_reducible refine (transhumancelaw4_Make.calls k t191 t192 _ A5.out).mono ?_);rintro e w8 ⟨rfl,hb⟩;refine ⟨_,rfl,?_⟩;have n0_:=Aside0.mk (blk_below (g:=gb190) (o:=.cells #[.string (⟨#[]⟩:ByteArray),.string (⟨#[]⟩:ByteArray),.string (⟨#[]⟩:ByteArray),.string (⟨#[]⟩:ByteArray),.string (⟨#[]⟩:ByteArray)] 43 (0,0)) (by (with_reducible repeat (first|refine blk_drewN ?_ _|refine blk_drew ?_|refine blk_alloc ?_ _));exact BK190.out) hb);have n1_:=Aside0.mk (below_step (by repeat (first|(with_reducible first|exact HB.out|apply below_alloc|apply pw_below_drewN|apply below_drew1|refine below_set ?_ GE190.out)|exact HB.out)) hb);clear BK190;clear HB;have BK190:=n0_;have HB:=n1_;clear n0_ n1_;(try clear hb);(try clear hb2);(try clear hk);(try clear hi))|((with_reducible refine gate_dst (N:=8) rfl ?_);refine box_event ?hg (N:=8) ?hd (cs:=#[.string (⟨#[]⟩:ByteArray),.string (⟨#[]⟩:ByteArray),.string (⟨#[]⟩:ByteArray),.string (⟨#[]⟩:ByteArray),.string (⟨#[]⟩:ByteArray)]) (t:=43) ?hr ?_;(case hd => rfl);(case hg => rfl);(case hr => first|(go_simp;done)|(go_simp;rfl));intro gb193 hg w9 hbox hb;have n0_:=Aside0.mk (blk_below (g:=gb190) (o:=.cells #[.string (⟨#[]⟩:ByteArray),.string (⟨#[]⟩:ByteArray),.string (⟨#[]⟩:ByteArray),.string (⟨#[]⟩:ByteArray),.string (⟨#[]⟩:ByteArray)] 43 (0,0)) (by (with_reducible repeat (first|refine blk_drewN ?_ _|refine blk_drew ?_|refine blk_alloc ?_ _));exact BK190.out) hb);have n1_:=Aside0.mk (below_step (by repeat (first|(with_reducible first|exact HB.out|apply below_alloc|apply pw_below_drewN|apply below_drew1|refine below_set ?_ GE190.out)|exact HB.out)) hb);have n2_:=Aside0.mk (hbox);have n3_:=Aside0.mk ((by rw [hg];exact (below_size (by repeat (first|(with_reducible first|exact HB.out|apply below_alloc|apply pw_below_drewN|apply below_drew1|refine below_set ?_ GE190.out)|exact HB.out))):w.heap.size≤gb193));have n4_:=Aside0.mk ((by rw [hg];exact (below_size (by repeat (first|(with_reducible first|exact HB.out|apply below_alloc|apply pw_below_drewN|apply below_drew1|refine below_set ?_ GE190.out)|exact HB.out))):w.heap.size≤gb193));have n5_:=Aside0.mk ((by rw [hg];exact Nat.ne_of_lt (blk_lt (g:=gb190) (o:=.cells #[.string (⟨#[]⟩:ByteArray),.string (⟨#[]⟩:ByteArray),.string (⟨#[]⟩:ByteArray),.string (⟨#[]⟩:ByteArray),.string (⟨#[]⟩:ByteArray)] 43 (0,0)) (by (with_reducible repeat (first|refine blk_drewN ?_ _|refine blk_drew ?_|refine blk_alloc ?_ _));exact BK190.out)):gb190≠gb193));have n6_:=Aside0.mk ((by rw [hg];exact Nat.ne_of_gt (blk_lt (g:=gb190) (o:=.cells #[.string (⟨#[]⟩:ByteArray),.string (⟨#[]⟩:ByteArray),.string (⟨#[]⟩:ByteArray),.string (⟨#[]⟩:ByteArray),.string (⟨#[]⟩:ByteArray)] 43 (0,0)) (by (with_reducible repeat (first|refine blk_drewN ?_ _|refine blk_drew ?_|refine blk_alloc ?_ _));exact BK190.out)):gb193≠gb190));clear BK190;clear HB;have BK190:=n0_;have HB:=n1_;have BK193:=n2_;have GW193:=n3_;have GE193:=n4_;have NB190_193:=n5_;have NB193_190:=n6_;clear n0_ n1_ n2_ n3_ n4_ n5_ n6_;clear hb hbox hg;have hnb10:=NB193_190.out;have hnc10:=NB190_193.out;have hcz11_0:w9.cell? ⟨gb193,0,none⟩=some (.string (⟨#[]⟩:ByteArray)):=(blk_cell BK193.out 0).trans rfl;have hcz11_1:w9.cell? ⟨gb193,1,none⟩=some (.string (⟨#[]⟩:ByteArray)):=(blk_cell BK193.out 1).trans rfl;have hcz11_2:w9.cell? ⟨gb193,2,none⟩=some (.string (⟨#[]⟩:ByteArray)):=(blk_cell BK193.out 2).trans rfl;have hcz11_3:w9.cell? ⟨gb193,3,none⟩=some (.string (⟨#[]⟩:ByteArray)):=(blk_cell BK193.out 3).trans rfl;have hcz11_4:w9.cell? ⟨gb193,4,none⟩=some (.string (⟨#[]⟩:ByteArray)):=(blk_cell BK193.out 4).trans rfl;have hfz11_0:=blk_frozen BK193.out 0;have hfz11_1:=blk_frozen BK193.out 1;have hfz11_2:=blk_frozen BK193.out 2;have hfz11_3:=blk_frozen BK193.out 3;have hfz11_4:=blk_frozen BK193.out 4))
 (try simp only [Act.put,List.setIfInBounds_toArray,List.set_cons_zero,List.set_cons_succ])
 go_cut [] (fun wc => ∃ (kq:Nat) (x194001_5:ByteArray),Aside0 (transhumancelaw5_Lock.j0 kq a1 l2 t191 t192 x194001_5 (⟨#[]⟩:ByteArray) (⟨#[]⟩:ByteArray) (⟨#[]⟩:ByteArray)=some (r1,r2,r3,r4,r5))∧Aside0 (kq≤k)∧Aside0 (wc.heap[gb190]?=some (.cells #[.string (⟨#[]⟩:ByteArray),.string (⟨#[]⟩:ByteArray),.string (⟨#[]⟩:ByteArray),.string (⟨#[]⟩:ByteArray),.string (⟨#[]⟩:ByteArray)] 43 (0,0)))∧Aside0 (wc.heap[gb193]?=some (.cells #[.string t192,.string x194001_5,.string (⟨#[]⟩:ByteArray),.string (⟨#[]⟩:ByteArray),.string (⟨#[]⟩:ByteArray)] 43 (0,0)))∧Aside0 (Below w.heap.size w wc))
 case first =>
  have H:=HC6.out
  clear HC6
  by_cases c12:(Int.tmod t191 3) > 0
  ·rw [if_pos c12] at H
   have c12b0:decide (0<(Int.tmod t191 3))=true:=decide_eq_true c12
   clear c12
   (first|rw [c12b0]|(simp only [i64_w,i32_w];rw [c12b0])|skip)
   replace H:=Option.bind_eq_some_iff.mp H
   obtain ⟨⟨t194,t195,t196,t197⟩,A130,H⟩:=H
   replace H:((transhumanceref2_Text.f k t194 t195 t196 t197).bind fun t198 => (transhumancelaw5_Lock.j0 k a1 l2 t191 t192 t198 (⟨#[]⟩:ByteArray) (⟨#[]⟩:ByteArray) (⟨#[]⟩:ByteArray)))=some (r1,r2,r3,r4,r5):=H
   have A13:=Aside0.mk A130
   clear A130
   replace H:=Option.bind_eq_some_iff.mp H
   obtain ⟨t198,A140,H⟩:=H
   replace H:(transhumancelaw5_Lock.j0 k a1 l2 t191 t192 t198 (⟨#[]⟩:ByteArray) (⟨#[]⟩:ByteArray) (⟨#[]⟩:ByteArray))=some (r1,r2,r3,r4,r5):=H
   have A14:=Aside0.mk A140
   clear A140
   have H':=Aside0.mk H
   clear H
   go_wp2_with (first|((with_reducible refine gate_callee (f:=43) rfl ?_);refine goesL_ (some 19) rfl rfl Tryz.func43 (by kernel_rfl) rfl #[.int .i64 a1,.int .i64 a0] rfl (by (try simp only [List.map_toArray,List.map_cons,List.map_nil]);first|done|rfl|(simp only [List.length_drop,List.length_take];rfl)) ?_;(with_reducible refine (transhumancelaw2_Make.calls k a1 a0 t194 t195 t196 t197 _ A13.out).mono ?_);rintro e w15 ⟨rfl,hb⟩;refine ⟨_,rfl,?_⟩;have n0_:=Aside0.mk (blk_below (g:=gb190) (o:=.cells #[.string (⟨#[]⟩:ByteArray),.string (⟨#[]⟩:ByteArray),.string (⟨#[]⟩:ByteArray),.string (⟨#[]⟩:ByteArray),.string (⟨#[]⟩:ByteArray)] 43 (0,0)) (by (with_reducible repeat (first|refine blk_drewN ?_ _|refine blk_drew ?_|refine blk_alloc ?_ _));refine blk_far ?_ NB190_193.out _;(with_reducible repeat (first|refine blk_drewN ?_ _|refine blk_drew ?_|refine blk_alloc ?_ _));refine blk_far ?_ NB190_193.out _;(with_reducible repeat (first|refine blk_drewN ?_ _|refine blk_drew ?_|refine blk_alloc ?_ _));refine blk_far ?_ NB190_193.out _;(with_reducible repeat (first|refine blk_drewN ?_ _|refine blk_drew ?_|refine blk_alloc ?_ _));refine blk_far ?_ NB190_193.out _;(with_reducible repeat (first|refine blk_drewN ?_ _|refine blk_drew ?_|refine blk_alloc ?_ _));refine blk_far ?_ NB190_193.out _;(with_reducible repeat (first|refine blk_drewN ?_ _|refine blk_drew ?_|refine blk_alloc ?_ _));exact BK190.out) hb);have n1_:=Aside0.mk (blk_below (g:=gb193) (o:=.cells #[.string t192,.string (⟨#[]⟩:ByteArray),.string (⟨#[]⟩:ByteArray),.string (⟨#[]⟩:ByteArray),.string (⟨#[]⟩:ByteArray)] 43 (0,0)) (by (with_reducible repeat (first|refine blk_drewN ?_ _|refine blk_drew ?_|refine blk_alloc ?_ _));refine blk_put (cs:=#[.string t192,.string (⟨#[]⟩:ByteArray),.string (⟨#[]⟩:ByteArray),.string (⟨#[]⟩:ByteArray),.string (⟨#[]⟩:ByteArray)]) ?_ 4 _ rfl;(with_reducible repeat (first|refine blk_drewN ?_ _|refine blk_drew ?_|refine blk_alloc ?_ _));refine blk_put (cs:=#[.string t192,.string (⟨#[]⟩:ByteArray),.string (⟨#[]⟩:ByteArray),.string (⟨#[]⟩:ByteArray),.string (⟨#[]⟩:ByteArray)]) ?_ 3 _ rfl;(with_reducible repeat (first|refine blk_drewN ?_ _|refine blk_drew ?_|refine blk_alloc ?_ _));refine blk_put (cs:=#[.string t192,.string (⟨#[]⟩:ByteArray),.string (⟨#[]⟩:ByteArray),.string (⟨#[]⟩:ByteArray),.string (⟨#[]⟩:ByteArray)]) ?_ 2 _ rfl;(with_reducible repeat (first|refine blk_drewN ?_ _|refine blk_drew ?_|refine blk_alloc ?_ _));refine blk_put (cs:=#[.string t192,.string (⟨#[]⟩:ByteArray),.string (⟨#[]⟩:ByteArray),.string (⟨#[]⟩:ByteArray),.string (⟨#[]⟩:ByteArray)]) ?_ 1 _ rfl;(with_reducible repeat (first|refine blk_drewN ?_ _|refine blk_drew ?_|refine blk_alloc ?_ _));refine blk_put (cs:=#[.string (⟨#[]⟩:ByteArray),.string (⟨#[]⟩:ByteArray),.string (⟨#[]⟩:ByteArray),.string (⟨#[]⟩:ByteArray),.string (⟨#[]⟩:ByteArray)]) ?_ 0 _ rfl;(with_reducible repeat (first|refine blk_drewN ?_ _|refine blk_drew ?_|refine blk_alloc ?_ _));exact BK193.out) hb);have n2_:=Aside0.mk (below_step (by repeat (first|(with_reducible first|exact HB.out|apply below_alloc|apply pw_below_drewN|apply below_drew1|refine below_set ?_ GE190.out|refine below_set ?_ GE193.out)|exact HB.out)) hb);clear BK190;clear BK193;clear HB;have BK190:=n0_;have BK193:=n1_;have HB:=n2_;clear n0_ n1_ n2_;(try clear hb);(try clear hb2);(try clear hk);(try clear hi))|((with_reducible refine gate_callee (f:=42) rfl ?_);refine goesL_ (some 20) rfl rfl Tryz.func42 (by kernel_rfl) rfl #[.agg #[.int .i64 t194,.int .i64 t195,.int .i64 t196,.string t197]] rfl (by (try simp only [List.map_toArray,List.map_cons,List.map_nil]);first|done|rfl|(simp only [List.length_drop,List.length_take];rfl)) ?_;(with_reducible refine (transhumanceref2_Text.calls k t194 t195 t196 t197 t198 _ A14.out).mono ?_);rintro e w16 ⟨rfl,hb⟩;refine ⟨_,rfl,?_⟩;have n0_:=Aside0.mk (blk_below (g:=gb190) (o:=.cells #[.string (⟨#[]⟩:ByteArray),.string (⟨#[]⟩:ByteArray),.string (⟨#[]⟩:ByteArray),.string (⟨#[]⟩:ByteArray),.string (⟨#[]⟩:ByteArray)] 43 (0,0)) (by (with_reducible repeat (first|refine blk_drewN ?_ _|refine blk_drew ?_|refine blk_alloc ?_ _));exact BK190.out) hb);have n1_:=Aside0.mk (blk_below (g:=gb193) (o:=.cells #[.string t192,.string (⟨#[]⟩:ByteArray),.string (⟨#[]⟩:ByteArray),.string (⟨#[]⟩:ByteArray),.string (⟨#[]⟩:ByteArray)] 43 (0,0)) (by (with_reducible repeat (first|refine blk_drewN ?_ _|refine blk_drew ?_|refine blk_alloc ?_ _));exact BK193.out) hb);have n2_:=Aside0.mk (below_step (by repeat (first|(with_reducible first|exact HB.out|apply below_alloc|apply pw_below_drewN|apply below_drew1|refine below_set ?_ GE190.out|refine below_set ?_ GE193.out)|exact HB.out)) hb);clear BK190;clear BK193;clear HB;have BK190:=n0_;have BK193:=n1_;have HB:=n2_;clear n0_ n1_ n2_;(try clear hb);(try clear hb2);(try clear hk);(try clear hi);have hnb17:=NB193_190.out;have hnc17:=NB190_193.out;have hcz18_0:w16.cell? ⟨gb193,0,none⟩=some (.string t192):=(blk_cell BK193.out 0).trans rfl;have hcz18_1:w16.cell? ⟨gb193,1,none⟩=some (.string (⟨#[]⟩:ByteArray)):=(blk_cell BK193.out 1).trans rfl;have hcz18_2:w16.cell? ⟨gb193,2,none⟩=some (.string (⟨#[]⟩:ByteArray)):=(blk_cell BK193.out 2).trans rfl;have hcz18_3:w16.cell? ⟨gb193,3,none⟩=some (.string (⟨#[]⟩:ByteArray)):=(blk_cell BK193.out 3).trans rfl;have hcz18_4:w16.cell? ⟨gb193,4,none⟩=some (.string (⟨#[]⟩:ByteArray)):=(blk_cell BK193.out 4).trans rfl;have hfz18_0:=blk_frozen BK193.out 0;have hfz18_1:=blk_frozen BK193.out 1;have hfz18_2:=blk_frozen BK193.out 2;have hfz18_3:=blk_frozen BK193.out 3;have hfz18_4:=blk_frozen BK193.out 4))
   go_meet
   case rel => exact ⟨_,(t198),H',⟨by first|omega|exact Nat.le_refl _⟩,⟨by (with_reducible repeat (first|refine blk_drewN ?_ _|refine blk_drew ?_|refine blk_alloc ?_ _));refine blk_far ?_ NB190_193.out _;(with_reducible repeat (first|refine blk_drewN ?_ _|refine blk_drew ?_|refine blk_alloc ?_ _));exact BK190.out⟩,⟨by (with_reducible repeat (first|refine blk_drewN ?_ _|refine blk_drew ?_|refine blk_alloc ?_ _));refine blk_put (cs:=#[.string t192,.string (⟨#[]⟩:ByteArray),.string (⟨#[]⟩:ByteArray),.string (⟨#[]⟩:ByteArray),.string (⟨#[]⟩:ByteArray)]) ?_ 1 _ rfl;(with_reducible repeat (first|refine blk_drewN ?_ _|refine blk_drew ?_|refine blk_alloc ?_ _));exact BK193.out⟩,⟨by repeat (first|(with_reducible first|exact HB.out|apply below_alloc|apply pw_below_drewN|apply below_drew1|refine below_set ?_ GE190.out|refine below_set ?_ GE193.out)|exact HB.out)⟩⟩
  ·rw [if_neg c12] at H
   have c12b0:decide (0<(Int.tmod t191 3))=false:=decide_eq_false c12
   clear c12
   (first|rw [c12b0]|(simp only [i64_w,i32_w];rw [c12b0])|skip)
   have H':=Aside0.mk H
   clear H
   go_wp2
   go_meet
   case rel => exact ⟨_,((⟨#[]⟩:ByteArray)),H',⟨by first|omega|exact Nat.le_refl _⟩,⟨by (with_reducible repeat (first|refine blk_drewN ?_ _|refine blk_drew ?_|refine blk_alloc ?_ _));refine blk_far ?_ NB190_193.out _;(with_reducible repeat (first|refine blk_drewN ?_ _|refine blk_drew ?_|refine blk_alloc ?_ _));refine blk_far ?_ NB190_193.out _;(with_reducible repeat (first|refine blk_drewN ?_ _|refine blk_drew ?_|refine blk_alloc ?_ _));refine blk_far ?_ NB190_193.out _;(with_reducible repeat (first|refine blk_drewN ?_ _|refine blk_drew ?_|refine blk_alloc ?_ _));refine blk_far ?_ NB190_193.out _;(with_reducible repeat (first|refine blk_drewN ?_ _|refine blk_drew ?_|refine blk_alloc ?_ _));refine blk_far ?_ NB190_193.out _;(with_reducible repeat (first|refine blk_drewN ?_ _|refine blk_drew ?_|refine blk_alloc ?_ _));exact BK190.out⟩,⟨by (with_reducible repeat (first|refine blk_drewN ?_ _|refine blk_drew ?_|refine blk_alloc ?_ _));refine blk_put (cs:=#[.string t192,.string (⟨#[]⟩:ByteArray),.string (⟨#[]⟩:ByteArray),.string (⟨#[]⟩:ByteArray),.string (⟨#[]⟩:ByteArray)]) ?_ 4 _ rfl;(with_reducible repeat (first|refine blk_drewN ?_ _|refine blk_drew ?_|refine blk_alloc ?_ _));refine blk_put (cs:=#[.string t192,.string (⟨#[]⟩:ByteArray),.string (⟨#[]⟩:ByteArray),.string (⟨#[]⟩:ByteArray),.string (⟨#[]⟩:ByteArray)]) ?_ 3 _ rfl;(with_reducible repeat (first|refine blk_drewN ?_ _|refine blk_drew ?_|refine blk_alloc ?_ _));refine blk_put (cs:=#[.string t192,.string (⟨#[]⟩:ByteArray),.string (⟨#[]⟩:ByteArray),.string (⟨#[]⟩:ByteArray),.string (⟨#[]⟩:ByteArray)]) ?_ 2 _ rfl;(with_reducible repeat (first|refine blk_drewN ?_ _|refine blk_drew ?_|refine blk_alloc ?_ _));refine blk_put (cs:=#[.string t192,.string (⟨#[]⟩:ByteArray),.string (⟨#[]⟩:ByteArray),.string (⟨#[]⟩:ByteArray),.string (⟨#[]⟩:ByteArray)]) ?_ 1 _ rfl;(with_reducible repeat (first|refine blk_drewN ?_ _|refine blk_drew ?_|refine blk_alloc ?_ _));refine blk_put (cs:=#[.string (⟨#[]⟩:ByteArray),.string (⟨#[]⟩:ByteArray),.string (⟨#[]⟩:ByteArray),.string (⟨#[]⟩:ByteArray),.string (⟨#[]⟩:ByteArray)]) ?_ 0 _ rfl;(with_reducible repeat (first|refine blk_drewN ?_ _|refine blk_drew ?_|refine blk_alloc ?_ _));exact BK193.out⟩,⟨by repeat (first|(with_reducible first|exact HB.out|apply below_alloc|apply pw_below_drewN|apply below_drew1|refine below_set ?_ GE190.out|refine below_set ?_ GE193.out)|exact HB.out)⟩⟩
 case rest =>
  clear HC6
  try clear c1
  try clear c2
  try clear p2
  try clear c4
  try clear c10
  try clear c12
  try clear c12b0
  try clear c17
  try clear hcz11_0
  try clear hcz11_1
  try clear hcz11_2
  try clear hcz11_3
  try clear hcz11_4
  try clear hcz18_0
  try clear hcz18_1
  try clear hcz18_2
  try clear hcz18_3
  try clear hcz18_4
  try clear hfz11_0
  try clear hfz11_1
  try clear hfz11_2
  try clear hfz11_3
  try clear hfz11_4
  try clear hfz18_0
  try clear hfz18_1
  try clear hfz18_2
  try clear hfz18_3
  try clear hfz18_4
  obtain ⟨kq,x194001_5,HA,HJ5,BK190,BK193,HB⟩:=hcut
  cases kq with
  | zero => exact absurd HA.out (by simp [transhumancelaw5_Lock.j0])
  | succ kj5 =>
   have H:=HA.out
   clear HA
   simp only [transhumancelaw5_Lock.j0] at H
   have HC19:=Aside0.mk H
   clear H
   go_upto_if 24 with (fail)
   go_cut [] (fun wc => ∃ (kq:Nat) (x194002_18:ByteArray),Aside0 (transhumancelaw5_Lock.j1 kq a1 l2 t191 t192 x194001_5 x194002_18 (⟨#[]⟩:ByteArray) (⟨#[]⟩:ByteArray)=some (r1,r2,r3,r4,r5))∧Aside0 (kq≤kj5)∧Aside0 (wc.heap[gb190]?=some (.cells #[.string (⟨#[]⟩:ByteArray),.string (⟨#[]⟩:ByteArray),.string (⟨#[]⟩:ByteArray),.string (⟨#[]⟩:ByteArray),.string (⟨#[]⟩:ByteArray)] 43 (0,0)))∧Aside0 (wc.heap[gb193]?=some (.cells #[.string t192,.string x194001_5,.string x194002_18,.string (⟨#[]⟩:ByteArray),.string (⟨#[]⟩:ByteArray)] 43 (0,0)))∧Aside0 (Below w.heap.size w wc))
   case first =>
    have H:=HC19.out
    clear HC19
    by_cases c20:(Int.tmod t191 3)=1
    ·rw [if_pos c20] at H
     have c20b0:((Int.tmod t191 3) == 1)=true:=beq_iff_eq.mpr c20
     have c20b1:((Int.tmod t191 3) != 1)=false:=bne_eq_false_iff_eq.mpr c20
     clear c20
     (first|rw [c20b0]|(simp only [i64_w,i32_w];rw [c20b0])|skip)
     have H':=Aside0.mk H
     clear H
     go_wp2
     go_meet
     case rel => exact ⟨_,((⟨#[]⟩:ByteArray)),H',⟨by have:=HJ5.out;first|omega|exact Nat.le_refl _⟩,⟨by (with_reducible repeat (first|refine blk_drewN ?_ _|refine blk_drew ?_|refine blk_alloc ?_ _));exact BK190.out⟩,⟨by (with_reducible repeat (first|refine blk_drewN ?_ _|refine blk_drew ?_|refine blk_alloc ?_ _));exact BK193.out⟩,⟨by repeat (first|(with_reducible first|exact HB.out|apply below_alloc|apply pw_below_drewN|apply below_drew1|refine below_set ?_ GE190.out|refine below_set ?_ GE193.out)|exact HB.out)⟩⟩
    ·rw [if_neg c20] at H
     have c20b0:((Int.tmod t191 3) == 1)=false:=beq_eq_false_iff_ne.mpr c20
     have c20b1:((Int.tmod t191 3) != 1)=true:=bne_iff_ne.mpr c20
     (first|rw [c20b0]|(simp only [i64_w,i32_w];rw [c20b0])|skip)
     obtain ⟨ji21,hji21⟩:∃ j_:Int,(wrap64 (12+(Int.tmod (wrap64 (Int.tdiv t191 3)) 12)))=j_:=⟨_,rfl⟩
     replace H:(if 0≤(ji21) then (if (ji21)≤24 then (transhumancelaw5_Lock.j1 kj5 a1 l2 t191 t192 x194001_5 ((⟨#[48,49,50,51,52,53,54,55,56,57,97,98,99,100,101,102,48,49,50,51,52,53,54,55]⟩:ByteArray).extract 0 ((ji21):Int).toNat) (⟨#[]⟩:ByteArray) (⟨#[]⟩:ByteArray)) else (none)) else (none))=some (r1,r2,r3,r4,r5):=by first|(rw [hji21] at H;exact H)|(simp only [hji21] at H ⊢;exact H)
     have hji21w:(IntKind.i64.wrap (12+(Int.tmod (wrap64 (Int.tdiv t191 3)) 12)))=ji21:=(i64_w _).trans hji21
     by_cases c22:0≤(ji21)
     ·rw [if_pos c22] at H
      have c22b0:=eq_true c22
      have c22b1:decide (0≤(ji21))=true:=decide_eq_true c22
      clear c22
      by_cases c23:(ji21)≤24
      ·rw [if_pos c23] at H
       have c23b0:=eq_true c23
       have c23b1:decide ((ji21)≤24)=true:=decide_eq_true c23
       clear c23
       have H':=Aside0.mk H
       clear H
       have hnb24:=NB193_190.out
       have hnc24:=NB190_193.out
       have hcz25_0:wc.cell? ⟨gb193,0,none⟩=some (.string t192):=(blk_cell BK193.out 0).trans rfl
       have hcz25_1:wc.cell? ⟨gb193,1,none⟩=some (.string x194001_5):=(blk_cell BK193.out 1).trans rfl
       have hcz25_2:wc.cell? ⟨gb193,2,none⟩=some (.string (⟨#[]⟩:ByteArray)):=(blk_cell BK193.out 2).trans rfl
       have hcz25_3:wc.cell? ⟨gb193,3,none⟩=some (.string (⟨#[]⟩:ByteArray)):=(blk_cell BK193.out 3).trans rfl
       have hcz25_4:wc.cell? ⟨gb193,4,none⟩=some (.string (⟨#[]⟩:ByteArray)):=(blk_cell BK193.out 4).trans rfl
       have hfz25_0:=blk_frozen BK193.out 0
       have hfz25_1:=blk_frozen BK193.out 1
       have hfz25_2:=blk_frozen BK193.out 2
       have hfz25_3:=blk_frozen BK193.out 3
       have hfz25_4:=blk_frozen BK193.out 4
       go_wp2
       go_meet
       case rel => exact ⟨_,((⟨#[48,49,50,51,52,53,54,55,56,57,97,98,99,100,101,102,48,49,50,51,52,53,54,55]⟩:ByteArray).extract 0 ((ji21):Int).toNat),H',⟨by have:=HJ5.out;first|omega|exact Nat.le_refl _⟩,⟨by (with_reducible repeat (first|refine blk_drewN ?_ _|refine blk_drew ?_|refine blk_alloc ?_ _));refine blk_far ?_ NB190_193.out _;(with_reducible repeat (first|refine blk_drewN ?_ _|refine blk_drew ?_|refine blk_alloc ?_ _));exact BK190.out⟩,⟨by (with_reducible repeat (first|refine blk_drewN ?_ _|refine blk_drew ?_|refine blk_alloc ?_ _));refine blk_put (cs:=#[.string t192,.string x194001_5,.string (⟨#[]⟩:ByteArray),.string (⟨#[]⟩:ByteArray),.string (⟨#[]⟩:ByteArray)]) ?_ 2 _ rfl;(with_reducible repeat (first|refine blk_drewN ?_ _|refine blk_drew ?_|refine blk_alloc ?_ _));exact BK193.out⟩,⟨by repeat (first|(with_reducible first|exact HB.out|apply below_alloc|apply pw_below_drewN|apply below_drew1|refine below_set ?_ GE190.out|refine below_set ?_ GE193.out)|exact HB.out)⟩⟩
      ·rw [if_neg c23] at H
       exact absurd H (by simp)
     ·rw [if_neg c22] at H
      exact absurd H (by simp)
   case rest =>
    clear HC19
    try clear c1
    try clear c2
    try clear p2
    try clear c4
    try clear p6
    try clear c10
    try clear c12
    try clear c12b0
    try clear c17
    try clear c19
    try clear c20
    try clear c20b0
    try clear c20b1
    try clear c22
    try clear c22b0
    try clear c22b1
    try clear c23
    try clear c23b0
    try clear c23b1
    try clear c24
    try clear hcz11_0
    try clear hcz11_1
    try clear hcz11_2
    try clear hcz11_3
    try clear hcz11_4
    try clear hcz18_0
    try clear hcz18_1
    try clear hcz18_2
    try clear hcz18_3
    try clear hcz18_4
    try clear hcz25_0
    try clear hcz25_1
    try clear hcz25_2
    try clear hcz25_3
    try clear hcz25_4
    try clear hfz11_0
    try clear hfz11_1
    try clear hfz11_2
    try clear hfz11_3
    try clear hfz11_4
    try clear hfz18_0
    try clear hfz18_1
    try clear hfz18_2
    try clear hfz18_3
    try clear hfz18_4
    try clear hfz25_0
    try clear hfz25_1
    try clear hfz25_2
    try clear hfz25_3
    try clear hfz25_4
    try clear p2
    obtain ⟨kq,x194002_18,HA,HJ18,BK190,BK193,HB⟩:=hcut
    cases kq with
    | zero => exact absurd HA.out (by simp [transhumancelaw5_Lock.j1])
    | succ kj18 =>
     have H:=HA.out
     clear HA
     simp only [transhumancelaw5_Lock.j1] at H
     by_cases c26:(Int.tmod (wrap64 (Int.tdiv t191 36)) 3)=0
     ·rw [if_pos c26] at H
      have c26b0:((Int.tmod (wrap64 (Int.tdiv t191 36)) 3) == 0)=true:=beq_iff_eq.mpr c26
      have c26b1:((Int.tmod (wrap64 (Int.tdiv t191 36)) 3) != 0)=false:=bne_eq_false_iff_eq.mpr c26
      clear c26
      replace H:=Option.bind_eq_some_iff.mp H
      obtain ⟨t199,A270,H⟩:=H
      replace H:(if (Int.tmod (wrap64 (Int.tdiv t191 108)) 4)=0 then ((transhumancelaw4_Make.f kj18 a1).bind fun t200 => (some (t192,x194001_5,x194002_18,t199,t200))) else (some (t192,x194001_5,x194002_18,t199,(⟨#[]⟩:ByteArray))))=some (r1,r2,r3,r4,r5):=H
      have A27:=Aside0.mk A270
      clear A270
      by_cases c28:(Int.tmod (wrap64 (Int.tdiv t191 108)) 4)=0
      ·rw [if_pos c28] at H
       have c28b0:((Int.tmod (wrap64 (Int.tdiv t191 108)) 4) == 0)=true:=beq_iff_eq.mpr c28
       have c28b1:((Int.tmod (wrap64 (Int.tdiv t191 108)) 4) != 0)=false:=bne_eq_false_iff_eq.mpr c28
       clear c28
       replace H:=Option.bind_eq_some_iff.mp H
       obtain ⟨t200,A290,H⟩:=H
       replace H:(some (t192,x194001_5,x194002_18,t199,t200))=some (r1,r2,r3,r4,r5):=H
       have A29:=Aside0.mk A290
       clear A290
       simp only [Option.some.injEq,Prod.mk.injEq] at H
       obtain ⟨rfl,rfl,rfl,rfl,rfl⟩:=H
       go_wp2_with (first|((with_reducible refine gate_callee (f:=44) rfl ?_);refine goesL_ (some 36) rfl rfl Tryz.func44 (by kernel_rfl) rfl #[.slice A2 l2.length c2,.int .i64 20] rfl (by (try simp only [List.map_toArray,List.map_cons,List.map_nil]);first|done|rfl|(simp only [List.length_drop,List.length_take];rfl)) ?_;(with_reducible refine (transhumancelaw1_Plain.calls kj18 _ _ l2 20 t199 _ ?side1 ?side2 A27.out).mono ?_);(case side1 => repeat (first|exact (Kd.C_below HR2.out HB.out)|(with_reducible refine Kd.C_alloc ?_ _)|(with_reducible refine Kd.C_drewN ?_ _)|(with_reducible refine Kd.C_drew ?_)));(case side2 => exact HC2.out);rintro e w30 ⟨rfl,hb⟩;refine ⟨_,rfl,?_⟩;have n0_:=Aside0.mk (blk_below (g:=gb190) (o:=.cells #[.string (⟨#[]⟩:ByteArray),.string (⟨#[]⟩:ByteArray),.string (⟨#[]⟩:ByteArray),.string (⟨#[]⟩:ByteArray),.string (⟨#[]⟩:ByteArray)] 43 (0,0)) (by (with_reducible repeat (first|refine blk_drewN ?_ _|refine blk_drew ?_|refine blk_alloc ?_ _));exact BK190.out) hb);have n1_:=Aside0.mk (blk_below (g:=gb193) (o:=.cells #[.string t192,.string x194001_5,.string x194002_18,.string (⟨#[]⟩:ByteArray),.string (⟨#[]⟩:ByteArray)] 43 (0,0)) (by (with_reducible repeat (first|refine blk_drewN ?_ _|refine blk_drew ?_|refine blk_alloc ?_ _));exact BK193.out) hb);have n2_:=Aside0.mk (below_step (by repeat (first|(with_reducible first|exact HB.out|apply below_alloc|apply pw_below_drewN|apply below_drew1|refine below_set ?_ GE190.out|refine below_set ?_ GE193.out)|exact HB.out)) hb);clear BK190;clear BK193;clear HB;have BK190:=n0_;have BK193:=n1_;have HB:=n2_;clear n0_ n1_ n2_;(try clear hb);(try clear hb2);(try clear hk);(try clear hi);have hnb31:=NB193_190.out;have hnc31:=NB190_193.out;have hcz32_0:w30.cell? ⟨gb193,0,none⟩=some (.string t192):=(blk_cell BK193.out 0).trans rfl;have hcz32_1:w30.cell? ⟨gb193,1,none⟩=some (.string x194001_5):=(blk_cell BK193.out 1).trans rfl;have hcz32_2:w30.cell? ⟨gb193,2,none⟩=some (.string x194002_18):=(blk_cell BK193.out 2).trans rfl;have hcz32_3:w30.cell? ⟨gb193,3,none⟩=some (.string (⟨#[]⟩:ByteArray)):=(blk_cell BK193.out 3).trans rfl;have hcz32_4:w30.cell? ⟨gb193,4,none⟩=some (.string (⟨#[]⟩:ByteArray)):=(blk_cell BK193.out 4).trans rfl;have hfz32_0:=blk_frozen BK193.out 0;have hfz32_1:=blk_frozen BK193.out 1;have hfz32_2:=blk_frozen BK193.out 2;have hfz32_3:=blk_frozen BK193.out 3;have hfz32_4:=blk_frozen BK193.out 4)|((with_reducible refine gate_callee (f:=41) rfl ?_);refine goesL_ (some 43) rfl rfl Tryz.func41 (by kernel_rfl) rfl #[.int .i64 a1] rfl (by (try simp only [List.map_toArray,List.map_cons,List.map_nil]);first|done|rfl|(simp only [List.length_drop,List.length_take];rfl)) ?_;(with_reducible refine (transhumancelaw4_Make.calls kj18 a1 t200 _ A29.out).mono ?_);rintro e w33 ⟨rfl,hb⟩;refine ⟨_,rfl,?_⟩;have n0_:=Aside0.mk (blk_below (g:=gb190) (o:=.cells #[.string (⟨#[]⟩:ByteArray),.string (⟨#[]⟩:ByteArray),.string (⟨#[]⟩:ByteArray),.string (⟨#[]⟩:ByteArray),.string (⟨#[]⟩:ByteArray)] 43 (0,0)) (by (with_reducible repeat (first|refine blk_drewN ?_ _|refine blk_drew ?_|refine blk_alloc ?_ _));refine blk_far ?_ NB190_193.out _;(with_reducible repeat (first|refine blk_drewN ?_ _|refine blk_drew ?_|refine blk_alloc ?_ _));exact BK190.out) hb);have n1_:=Aside0.mk (blk_below (g:=gb193) (o:=.cells #[.string t192,.string x194001_5,.string x194002_18,.string t199,.string (⟨#[]⟩:ByteArray)] 43 (0,0)) (by (with_reducible repeat (first|refine blk_drewN ?_ _|refine blk_drew ?_|refine blk_alloc ?_ _));refine blk_put (cs:=#[.string t192,.string x194001_5,.string x194002_18,.string (⟨#[]⟩:ByteArray),.string (⟨#[]⟩:ByteArray)]) ?_ 3 _ rfl;(with_reducible repeat (first|refine blk_drewN ?_ _|refine blk_drew ?_|refine blk_alloc ?_ _));exact BK193.out) hb);have n2_:=Aside0.mk (below_step (by repeat (first|(with_reducible first|exact HB.out|apply below_alloc|apply pw_below_drewN|apply below_drew1|refine below_set ?_ GE190.out|refine below_set ?_ GE193.out)|exact HB.out)) hb);clear BK190;clear BK193;clear HB;have BK190:=n0_;have BK193:=n1_;have HB:=n2_;clear n0_ n1_ n2_;(try clear hb);(try clear hb2);(try clear hk);(try clear hi);have hcz34_0:w33.cell? ⟨gb193,0,none⟩=some (.string t192):=(blk_cell BK193.out 0).trans rfl;have hcz34_1:w33.cell? ⟨gb193,1,none⟩=some (.string x194001_5):=(blk_cell BK193.out 1).trans rfl;have hcz34_2:w33.cell? ⟨gb193,2,none⟩=some (.string x194002_18):=(blk_cell BK193.out 2).trans rfl;have hcz34_3:w33.cell? ⟨gb193,3,none⟩=some (.string t199):=(blk_cell BK193.out 3).trans rfl;have hcz34_4:w33.cell? ⟨gb193,4,none⟩=some (.string (⟨#[]⟩:ByteArray)):=(blk_cell BK193.out 4).trans rfl;have hfz34_0:=blk_frozen BK193.out 0;have hfz34_1:=blk_frozen BK193.out 1;have hfz34_2:=blk_frozen BK193.out 2;have hfz34_3:=blk_frozen BK193.out 3;have hfz34_4:=blk_frozen BK193.out 4;have hcz35_0:w33.cell? ⟨gb190,0,none⟩=some (.string (⟨#[]⟩:ByteArray)):=(blk_cell BK190.out 0).trans rfl;have hcz35_1:w33.cell? ⟨gb190,1,none⟩=some (.string (⟨#[]⟩:ByteArray)):=(blk_cell BK190.out 1).trans rfl;have hcz35_2:w33.cell? ⟨gb190,2,none⟩=some (.string (⟨#[]⟩:ByteArray)):=(blk_cell BK190.out 2).trans rfl;have hcz35_3:w33.cell? ⟨gb190,3,none⟩=some (.string (⟨#[]⟩:ByteArray)):=(blk_cell BK190.out 3).trans rfl;have hcz35_4:w33.cell? ⟨gb190,4,none⟩=some (.string (⟨#[]⟩:ByteArray)):=(blk_cell BK190.out 4).trans rfl;have hfz35_0:=blk_frozen BK190.out 0;have hfz35_1:=blk_frozen BK190.out 1;have hfz35_2:=blk_frozen BK190.out 2;have hfz35_3:=blk_frozen BK190.out 3;have hfz35_4:=blk_frozen BK190.out 4))
       refine bodyPost_ret (results_cell_row rfl _ _ gb190 43 #[.string t192,.string x194001_5,.string x194002_18,.string t199,.string t200] (0,0) _ rfl (by (with_reducible repeat (first|refine blk_drewN ?_ _|refine blk_drew ?_|refine blk_alloc ?_ _));refine blk_put (cs:=#[.string t192,.string x194001_5,.string x194002_18,.string t199,.string (⟨#[]⟩:ByteArray)]) ?_ 4 _ rfl;(with_reducible repeat (first|refine blk_drewN ?_ _|refine blk_drew ?_|refine blk_alloc ?_ _));refine blk_put (cs:=#[.string t192,.string x194001_5,.string x194002_18,.string (⟨#[]⟩:ByteArray),.string (⟨#[]⟩:ByteArray)]) ?_ 3 _ rfl;(with_reducible repeat (first|refine blk_drewN ?_ _|refine blk_drew ?_|refine blk_alloc ?_ _));refine blk_put (cs:=#[.string t192,.string x194001_5,.string (⟨#[]⟩:ByteArray),.string (⟨#[]⟩:ByteArray),.string (⟨#[]⟩:ByteArray)]) ?_ 2 _ rfl;(with_reducible repeat (first|refine blk_drewN ?_ _|refine blk_drew ?_|refine blk_alloc ?_ _));refine blk_put (cs:=#[.string t192,.string (⟨#[]⟩:ByteArray),.string (⟨#[]⟩:ByteArray),.string (⟨#[]⟩:ByteArray),.string (⟨#[]⟩:ByteArray)]) ?_ 1 _ rfl;(with_reducible repeat (first|refine blk_drewN ?_ _|refine blk_drew ?_|refine blk_alloc ?_ _));refine blk_put (cs:=#[.string (⟨#[]⟩:ByteArray),.string (⟨#[]⟩:ByteArray),.string (⟨#[]⟩:ByteArray),.string (⟨#[]⟩:ByteArray),.string (⟨#[]⟩:ByteArray)]) ?_ 0 _ rfl;(with_reducible repeat (first|refine blk_drewN ?_ _|refine blk_drew ?_|refine blk_alloc ?_ _));refine blk_far ?_ NB190_193.out _;(with_reducible repeat (first|refine blk_drewN ?_ _|refine blk_drew ?_|refine blk_alloc ?_ _));exact BK190.out) Tryz.underlying43 rfl (by kernel_rfl)) rfl ?_
       exact ⟨by first|rfl|(simp [errW_none,errW_some] <;> rfl)|(simp [*,errW_none,errW_some] <;> rfl),by repeat (first|(with_reducible first|exact HB.out|apply below_alloc|apply pw_below_drewN|apply below_drew1|refine below_set ?_ GE190.out|refine below_set ?_ GE193.out)|exact HB.out)⟩
      ·rw [if_neg c28] at H
       have c28b0:((Int.tmod (wrap64 (Int.tdiv t191 108)) 4) == 0)=false:=beq_eq_false_iff_ne.mpr c28
       have c28b1:((Int.tmod (wrap64 (Int.tdiv t191 108)) 4) != 0)=true:=bne_iff_ne.mpr c28
       simp only [Option.some.injEq,Prod.mk.injEq] at H
       obtain ⟨rfl,rfl,rfl,rfl,rfl⟩:=H
       go_wp2_with (first|((with_reducible refine gate_callee (f:=44) rfl ?_);refine goesL_ (some 36) rfl rfl Tryz.func44 (by kernel_rfl) rfl #[.slice A2 l2.length c2,.int .i64 20] rfl (by (try simp only [List.map_toArray,List.map_cons,List.map_nil]);first|done|rfl|(simp only [List.length_drop,List.length_take];rfl)) ?_;(with_reducible refine (transhumancelaw1_Plain.calls kj18 _ _ l2 20 t199 _ ?side1 ?side2 A27.out).mono ?_);(case side1 => repeat (first|exact (Kd.C_below HR2.out HB.out)|(with_reducible refine Kd.C_alloc ?_ _)|(with_reducible refine Kd.C_drewN ?_ _)|(with_reducible refine Kd.C_drew ?_)));(case side2 => exact HC2.out);rintro e w36 ⟨rfl,hb⟩;refine ⟨_,rfl,?_⟩;have n0_:=Aside0.mk (blk_below (g:=gb190) (o:=.cells #[.string (⟨#[]⟩:ByteArray),.string (⟨#[]⟩:ByteArray),.string (⟨#[]⟩:ByteArray),.string (⟨#[]⟩:ByteArray),.string (⟨#[]⟩:ByteArray)] 43 (0,0)) (by (with_reducible repeat (first|refine blk_drewN ?_ _|refine blk_drew ?_|refine blk_alloc ?_ _));exact BK190.out) hb);have n1_:=Aside0.mk (blk_below (g:=gb193) (o:=.cells #[.string t192,.string x194001_5,.string x194002_18,.string (⟨#[]⟩:ByteArray),.string (⟨#[]⟩:ByteArray)] 43 (0,0)) (by (with_reducible repeat (first|refine blk_drewN ?_ _|refine blk_drew ?_|refine blk_alloc ?_ _));exact BK193.out) hb);have n2_:=Aside0.mk (below_step (by repeat (first|(with_reducible first|exact HB.out|apply below_alloc|apply pw_below_drewN|apply below_drew1|refine below_set ?_ GE190.out|refine below_set ?_ GE193.out)|exact HB.out)) hb);clear BK190;clear BK193;clear HB;have BK190:=n0_;have BK193:=n1_;have HB:=n2_;clear n0_ n1_ n2_;(try clear hb);(try clear hb2);(try clear hk);(try clear hi);have hnb37:=NB193_190.out;have hnc37:=NB190_193.out;have hcz38_0:w36.cell? ⟨gb193,0,none⟩=some (.string t192):=(blk_cell BK193.out 0).trans rfl;have hcz38_1:w36.cell? ⟨gb193,1,none⟩=some (.string x194001_5):=(blk_cell BK193.out 1).trans rfl;have hcz38_2:w36.cell? ⟨gb193,2,none⟩=some (.string x194002_18):=(blk_cell BK193.out 2).trans rfl;have hcz38_3:w36.cell? ⟨gb193,3,none⟩=some (.string (⟨#[]⟩:ByteArray)):=(blk_cell BK193.out 3).trans rfl;have hcz38_4:w36.cell? ⟨gb193,4,none⟩=some (.string (⟨#[]⟩:ByteArray)):=(blk_cell BK193.out 4).trans rfl;have hfz38_0:=blk_frozen BK193.out 0;have hfz38_1:=blk_frozen BK193.out 1;have hfz38_2:=blk_frozen BK193.out 2;have hfz38_3:=blk_frozen BK193.out 3;have hfz38_4:=blk_frozen BK193.out 4;have hcz39_0:w36.cell? ⟨gb190,0,none⟩=some (.string (⟨#[]⟩:ByteArray)):=(blk_cell BK190.out 0).trans rfl;have hcz39_1:w36.cell? ⟨gb190,1,none⟩=some (.string (⟨#[]⟩:ByteArray)):=(blk_cell BK190.out 1).trans rfl;have hcz39_2:w36.cell? ⟨gb190,2,none⟩=some (.string (⟨#[]⟩:ByteArray)):=(blk_cell BK190.out 2).trans rfl;have hcz39_3:w36.cell? ⟨gb190,3,none⟩=some (.string (⟨#[]⟩:ByteArray)):=(blk_cell BK190.out 3).trans rfl;have hcz39_4:w36.cell? ⟨gb190,4,none⟩=some (.string (⟨#[]⟩:ByteArray)):=(blk_cell BK190.out 4).trans rfl;have hfz39_0:=blk_frozen BK190.out 0;have hfz39_1:=blk_frozen BK190.out 1;have hfz39_2:=blk_frozen BK190.out 2;have hfz39_3:=blk_frozen BK190.out 3;have hfz39_4:=blk_frozen BK190.out 4))
       refine bodyPost_ret (results_cell_row rfl _ _ gb190 43 #[.string t192,.string x194001_5,.string x194002_18,.string t199,.string (⟨#[]⟩:ByteArray)] (0,0) _ rfl (by (with_reducible repeat (first|refine blk_drewN ?_ _|refine blk_drew ?_|refine blk_alloc ?_ _));refine blk_put (cs:=#[.string t192,.string x194001_5,.string x194002_18,.string t199,.string (⟨#[]⟩:ByteArray)]) ?_ 4 _ rfl;(with_reducible repeat (first|refine blk_drewN ?_ _|refine blk_drew ?_|refine blk_alloc ?_ _));refine blk_put (cs:=#[.string t192,.string x194001_5,.string x194002_18,.string (⟨#[]⟩:ByteArray),.string (⟨#[]⟩:ByteArray)]) ?_ 3 _ rfl;(with_reducible repeat (first|refine blk_drewN ?_ _|refine blk_drew ?_|refine blk_alloc ?_ _));refine blk_put (cs:=#[.string t192,.string x194001_5,.string (⟨#[]⟩:ByteArray),.string (⟨#[]⟩:ByteArray),.string (⟨#[]⟩:ByteArray)]) ?_ 2 _ rfl;(with_reducible repeat (first|refine blk_drewN ?_ _|refine blk_drew ?_|refine blk_alloc ?_ _));refine blk_put (cs:=#[.string t192,.string (⟨#[]⟩:ByteArray),.string (⟨#[]⟩:ByteArray),.string (⟨#[]⟩:ByteArray),.string (⟨#[]⟩:ByteArray)]) ?_ 1 _ rfl;(with_reducible repeat (first|refine blk_drewN ?_ _|refine blk_drew ?_|refine blk_alloc ?_ _));refine blk_put (cs:=#[.string (⟨#[]⟩:ByteArray),.string (⟨#[]⟩:ByteArray),.string (⟨#[]⟩:ByteArray),.string (⟨#[]⟩:ByteArray),.string (⟨#[]⟩:ByteArray)]) ?_ 0 _ rfl;(with_reducible repeat (first|refine blk_drewN ?_ _|refine blk_drew ?_|refine blk_alloc ?_ _));refine blk_far ?_ NB190_193.out _;(with_reducible repeat (first|refine blk_drewN ?_ _|refine blk_drew ?_|refine blk_alloc ?_ _));exact BK190.out) Tryz.underlying43 rfl (by kernel_rfl)) rfl ?_
       exact ⟨by first|rfl|(simp [errW_none,errW_some] <;> rfl)|(simp [*,errW_none,errW_some] <;> rfl),by repeat (first|(with_reducible first|exact HB.out|apply below_alloc|apply pw_below_drewN|apply below_drew1|refine below_set ?_ GE190.out|refine below_set ?_ GE193.out)|exact HB.out)⟩
     ·rw [if_neg c26] at H
      have c26b0:((Int.tmod (wrap64 (Int.tdiv t191 36)) 3) == 0)=false:=beq_eq_false_iff_ne.mpr c26
      have c26b1:((Int.tmod (wrap64 (Int.tdiv t191 36)) 3) != 0)=true:=bne_iff_ne.mpr c26
      by_cases c40:(Int.tmod (wrap64 (Int.tdiv t191 108)) 4)=0
      ·rw [if_pos c40] at H
       have c40b0:((Int.tmod (wrap64 (Int.tdiv t191 108)) 4) == 0)=true:=beq_iff_eq.mpr c40
       have c40b1:((Int.tmod (wrap64 (Int.tdiv t191 108)) 4) != 0)=false:=bne_eq_false_iff_eq.mpr c40
       clear c40
       replace H:=Option.bind_eq_some_iff.mp H
       obtain ⟨t201,A410,H⟩:=H
       replace H:(some (t192,x194001_5,x194002_18,(⟨#[]⟩:ByteArray),t201))=some (r1,r2,r3,r4,r5):=H
       have A41:=Aside0.mk A410
       clear A410
       simp only [Option.some.injEq,Prod.mk.injEq] at H
       obtain ⟨rfl,rfl,rfl,rfl,rfl⟩:=H
       go_wp2_with (first|((with_reducible refine gate_callee (f:=41) rfl ?_);refine goesL_ (some 43) rfl rfl Tryz.func41 (by kernel_rfl) rfl #[.int .i64 a1] rfl (by (try simp only [List.map_toArray,List.map_cons,List.map_nil]);first|done|rfl|(simp only [List.length_drop,List.length_take];rfl)) ?_;(with_reducible refine (transhumancelaw4_Make.calls kj18 a1 t201 _ A41.out).mono ?_);rintro e w42 ⟨rfl,hb⟩;refine ⟨_,rfl,?_⟩;have n0_:=Aside0.mk (blk_below (g:=gb190) (o:=.cells #[.string (⟨#[]⟩:ByteArray),.string (⟨#[]⟩:ByteArray),.string (⟨#[]⟩:ByteArray),.string (⟨#[]⟩:ByteArray),.string (⟨#[]⟩:ByteArray)] 43 (0,0)) (by (with_reducible repeat (first|refine blk_drewN ?_ _|refine blk_drew ?_|refine blk_alloc ?_ _));exact BK190.out) hb);have n1_:=Aside0.mk (blk_below (g:=gb193) (o:=.cells #[.string t192,.string x194001_5,.string x194002_18,.string (⟨#[]⟩:ByteArray),.string (⟨#[]⟩:ByteArray)] 43 (0,0)) (by (with_reducible repeat (first|refine blk_drewN ?_ _|refine blk_drew ?_|refine blk_alloc ?_ _));exact BK193.out) hb);have n2_:=Aside0.mk (below_step (by repeat (first|(with_reducible first|exact HB.out|apply below_alloc|apply pw_below_drewN|apply below_drew1|refine below_set ?_ GE190.out|refine below_set ?_ GE193.out)|exact HB.out)) hb);clear BK190;clear BK193;clear HB;have BK190:=n0_;have BK193:=n1_;have HB:=n2_;clear n0_ n1_ n2_;(try clear hb);(try clear hb2);(try clear hk);(try clear hi);have hnb43:=NB193_190.out;have hnc43:=NB190_193.out;have hcz44_0:w42.cell? ⟨gb193,0,none⟩=some (.string t192):=(blk_cell BK193.out 0).trans rfl;have hcz44_1:w42.cell? ⟨gb193,1,none⟩=some (.string x194001_5):=(blk_cell BK193.out 1).trans rfl;have hcz44_2:w42.cell? ⟨gb193,2,none⟩=some (.string x194002_18):=(blk_cell BK193.out 2).trans rfl;have hcz44_3:w42.cell? ⟨gb193,3,none⟩=some (.string (⟨#[]⟩:ByteArray)):=(blk_cell BK193.out 3).trans rfl;have hcz44_4:w42.cell? ⟨gb193,4,none⟩=some (.string (⟨#[]⟩:ByteArray)):=(blk_cell BK193.out 4).trans rfl;have hfz44_0:=blk_frozen BK193.out 0;have hfz44_1:=blk_frozen BK193.out 1;have hfz44_2:=blk_frozen BK193.out 2;have hfz44_3:=blk_frozen BK193.out 3;have hfz44_4:=blk_frozen BK193.out 4;have hcz45_0:w42.cell? ⟨gb190,0,none⟩=some (.string (⟨#[]⟩:ByteArray)):=(blk_cell BK190.out 0).trans rfl;have hcz45_1:w42.cell? ⟨gb190,1,none⟩=some (.string (⟨#[]⟩:ByteArray)):=(blk_cell BK190.out 1).trans rfl;have hcz45_2:w42.cell? ⟨gb190,2,none⟩=some (.string (⟨#[]⟩:ByteArray)):=(blk_cell BK190.out 2).trans rfl;have hcz45_3:w42.cell? ⟨gb190,3,none⟩=some (.string (⟨#[]⟩:ByteArray)):=(blk_cell BK190.out 3).trans rfl;have hcz45_4:w42.cell? ⟨gb190,4,none⟩=some (.string (⟨#[]⟩:ByteArray)):=(blk_cell BK190.out 4).trans rfl;have hfz45_0:=blk_frozen BK190.out 0;have hfz45_1:=blk_frozen BK190.out 1;have hfz45_2:=blk_frozen BK190.out 2;have hfz45_3:=blk_frozen BK190.out 3;have hfz45_4:=blk_frozen BK190.out 4))
       refine bodyPost_ret (results_cell_row rfl _ _ gb190 43 #[.string t192,.string x194001_5,.string x194002_18,.string (⟨#[]⟩:ByteArray),.string t201] (0,0) _ rfl (by (with_reducible repeat (first|refine blk_drewN ?_ _|refine blk_drew ?_|refine blk_alloc ?_ _));refine blk_put (cs:=#[.string t192,.string x194001_5,.string x194002_18,.string (⟨#[]⟩:ByteArray),.string (⟨#[]⟩:ByteArray)]) ?_ 4 _ rfl;(with_reducible repeat (first|refine blk_drewN ?_ _|refine blk_drew ?_|refine blk_alloc ?_ _));refine blk_put (cs:=#[.string t192,.string x194001_5,.string x194002_18,.string (⟨#[]⟩:ByteArray),.string (⟨#[]⟩:ByteArray)]) ?_ 3 _ rfl;(with_reducible repeat (first|refine blk_drewN ?_ _|refine blk_drew ?_|refine blk_alloc ?_ _));refine blk_put (cs:=#[.string t192,.string x194001_5,.string (⟨#[]⟩:ByteArray),.string (⟨#[]⟩:ByteArray),.string (⟨#[]⟩:ByteArray)]) ?_ 2 _ rfl;(with_reducible repeat (first|refine blk_drewN ?_ _|refine blk_drew ?_|refine blk_alloc ?_ _));refine blk_put (cs:=#[.string t192,.string (⟨#[]⟩:ByteArray),.string (⟨#[]⟩:ByteArray),.string (⟨#[]⟩:ByteArray),.string (⟨#[]⟩:ByteArray)]) ?_ 1 _ rfl;(with_reducible repeat (first|refine blk_drewN ?_ _|refine blk_drew ?_|refine blk_alloc ?_ _));refine blk_put (cs:=#[.string (⟨#[]⟩:ByteArray),.string (⟨#[]⟩:ByteArray),.string (⟨#[]⟩:ByteArray),.string (⟨#[]⟩:ByteArray),.string (⟨#[]⟩:ByteArray)]) ?_ 0 _ rfl;(with_reducible repeat (first|refine blk_drewN ?_ _|refine blk_drew ?_|refine blk_alloc ?_ _));refine blk_far ?_ NB190_193.out _;(with_reducible repeat (first|refine blk_drewN ?_ _|refine blk_drew ?_|refine blk_alloc ?_ _));exact BK190.out) Tryz.underlying43 rfl (by kernel_rfl)) rfl ?_
       exact ⟨by first|rfl|(simp [errW_none,errW_some] <;> rfl)|(simp [*,errW_none,errW_some] <;> rfl),by repeat (first|(with_reducible first|exact HB.out|apply below_alloc|apply pw_below_drewN|apply below_drew1|refine below_set ?_ GE190.out|refine below_set ?_ GE193.out)|exact HB.out)⟩
      ·rw [if_neg c40] at H
       have c40b0:((Int.tmod (wrap64 (Int.tdiv t191 108)) 4) == 0)=false:=beq_eq_false_iff_ne.mpr c40
       have c40b1:((Int.tmod (wrap64 (Int.tdiv t191 108)) 4) != 0)=true:=bne_iff_ne.mpr c40
       simp only [Option.some.injEq,Prod.mk.injEq] at H
       obtain ⟨rfl,rfl,rfl,rfl,rfl⟩:=H
       have hnb46:=NB193_190.out
       have hnc46:=NB190_193.out
       have hcz47_0:wc.cell? ⟨gb193,0,none⟩=some (.string t192):=(blk_cell BK193.out 0).trans rfl
       have hcz47_1:wc.cell? ⟨gb193,1,none⟩=some (.string x194001_5):=(blk_cell BK193.out 1).trans rfl
       have hcz47_2:wc.cell? ⟨gb193,2,none⟩=some (.string x194002_18):=(blk_cell BK193.out 2).trans rfl
       have hcz47_3:wc.cell? ⟨gb193,3,none⟩=some (.string (⟨#[]⟩:ByteArray)):=(blk_cell BK193.out 3).trans rfl
       have hcz47_4:wc.cell? ⟨gb193,4,none⟩=some (.string (⟨#[]⟩:ByteArray)):=(blk_cell BK193.out 4).trans rfl
       have hfz47_0:=blk_frozen BK193.out 0
       have hfz47_1:=blk_frozen BK193.out 1
       have hfz47_2:=blk_frozen BK193.out 2
       have hfz47_3:=blk_frozen BK193.out 3
       have hfz47_4:=blk_frozen BK193.out 4
       have hcz48_0:wc.cell? ⟨gb190,0,none⟩=some (.string (⟨#[]⟩:ByteArray)):=(blk_cell BK190.out 0).trans rfl
       have hcz48_1:wc.cell? ⟨gb190,1,none⟩=some (.string (⟨#[]⟩:ByteArray)):=(blk_cell BK190.out 1).trans rfl
       have hcz48_2:wc.cell? ⟨gb190,2,none⟩=some (.string (⟨#[]⟩:ByteArray)):=(blk_cell BK190.out 2).trans rfl
       have hcz48_3:wc.cell? ⟨gb190,3,none⟩=some (.string (⟨#[]⟩:ByteArray)):=(blk_cell BK190.out 3).trans rfl
       have hcz48_4:wc.cell? ⟨gb190,4,none⟩=some (.string (⟨#[]⟩:ByteArray)):=(blk_cell BK190.out 4).trans rfl
       have hfz48_0:=blk_frozen BK190.out 0
       have hfz48_1:=blk_frozen BK190.out 1
       have hfz48_2:=blk_frozen BK190.out 2
       have hfz48_3:=blk_frozen BK190.out 3
       have hfz48_4:=blk_frozen BK190.out 4
       go_wp2
       refine bodyPost_ret (results_cell_row rfl _ _ gb190 43 #[.string t192,.string x194001_5,.string x194002_18,.string (⟨#[]⟩:ByteArray),.string (⟨#[]⟩:ByteArray)] (0,0) _ rfl (by (with_reducible repeat (first|refine blk_drewN ?_ _|refine blk_drew ?_|refine blk_alloc ?_ _));refine blk_put (cs:=#[.string t192,.string x194001_5,.string x194002_18,.string (⟨#[]⟩:ByteArray),.string (⟨#[]⟩:ByteArray)]) ?_ 4 _ rfl;(with_reducible repeat (first|refine blk_drewN ?_ _|refine blk_drew ?_|refine blk_alloc ?_ _));refine blk_put (cs:=#[.string t192,.string x194001_5,.string x194002_18,.string (⟨#[]⟩:ByteArray),.string (⟨#[]⟩:ByteArray)]) ?_ 3 _ rfl;(with_reducible repeat (first|refine blk_drewN ?_ _|refine blk_drew ?_|refine blk_alloc ?_ _));refine blk_put (cs:=#[.string t192,.string x194001_5,.string (⟨#[]⟩:ByteArray),.string (⟨#[]⟩:ByteArray),.string (⟨#[]⟩:ByteArray)]) ?_ 2 _ rfl;(with_reducible repeat (first|refine blk_drewN ?_ _|refine blk_drew ?_|refine blk_alloc ?_ _));refine blk_put (cs:=#[.string t192,.string (⟨#[]⟩:ByteArray),.string (⟨#[]⟩:ByteArray),.string (⟨#[]⟩:ByteArray),.string (⟨#[]⟩:ByteArray)]) ?_ 1 _ rfl;(with_reducible repeat (first|refine blk_drewN ?_ _|refine blk_drew ?_|refine blk_alloc ?_ _));refine blk_put (cs:=#[.string (⟨#[]⟩:ByteArray),.string (⟨#[]⟩:ByteArray),.string (⟨#[]⟩:ByteArray),.string (⟨#[]⟩:ByteArray),.string (⟨#[]⟩:ByteArray)]) ?_ 0 _ rfl;(with_reducible repeat (first|refine blk_drewN ?_ _|refine blk_drew ?_|refine blk_alloc ?_ _));exact BK190.out) Tryz.underlying43 rfl (by kernel_rfl)) rfl ?_
       exact ⟨by first|rfl|(simp [errW_none,errW_some] <;> rfl)|(simp [*,errW_none,errW_some] <;> rfl),by repeat (first|(with_reducible first|exact HB.out|apply below_alloc|apply pw_below_drewN|apply below_drew1|refine below_set ?_ GE190.out|refine below_set ?_ GE193.out)|exact HB.out)⟩
end Go.Proofs.YtjdjljgbfpkbdaaGreatDoor.Q
