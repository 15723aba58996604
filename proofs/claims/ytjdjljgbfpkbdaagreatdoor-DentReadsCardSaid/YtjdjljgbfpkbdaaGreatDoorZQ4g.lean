import Derived.Test.YtjdjljgbfpkbdaaGreatDoorZQ0
section
namespace Go.Proofs.YtjdjljgbfpkbdaaGreatDoor.Q
open Go.RowKit Go.Proofs.YtjdjljgbfpkbdaaGreatDoorW.PrintWords Go.Proofs.YtjdjljgbfpkbdaaGreatDoorW.PrintLast Go.Proofs.YtjdjljgbfpkbdaaGreatDoorW.PrintMore
attribute [local go_sem] max2_int min2_int max_two min_two max_three min_three max_four min_four
set_option linter.unusedVariables false
set_option linter.unusedSimpArgs false
def transhumancelaw7_within.f (a0:Int) (a1:Int):Option (Int):=if a1=0 then (none) else (if (Int.tmod a0 a1)<0 then (some (wrap64 ((Int.tmod a0 a1)+a1))) else (some (Int.tmod a0 a1)))
set_option maxHeartbeats 8000000 in
set_option maxRecDepth 100000 in
theorem transhumancelaw7_within.calls (a0:Int) (a1:Int) (r:Int) (w:World) (h:transhumancelaw7_within.f a0 a1=some r) :
  Calls Tryz.prog 14 #[.int .i64 a0,.int .i64 a1] w fun e w' => e=.returned (.int .i64 r)∧Drawn0 w w':=by
 have H:(if a1=0 then (none) else (if (Int.tmod a0 a1)<0 then (some (wrap64 ((Int.tmod a0 a1)+a1))) else (some (Int.tmod a0 a1))))=some r:=h
 clear h
 by_cases c3:a1=0
 ·rw [if_pos c3] at H
  exact absurd H (by simp)
 ·rw [if_neg c3] at H
  have c3b0:(a1 == 0)=false:=beq_eq_false_iff_ne.mpr c3
  have c3b1:(a1 != 0)=true:=bne_iff_ne.mpr c3
  by_cases c4:(Int.tmod a0 a1)<0
  ·rw [if_pos c4] at H
   have c4b0:decide ((Int.tmod a0 a1)<0)=true:=decide_eq_true c4
   clear c4
   obtain rfl:=Option.some.inj H
   go_enter Tryz.func14,Tryz.ntmps14
   go_wp2
   go_ret
   exact ⟨by first|rfl|(simp;done)|(simp [*];done)|(simp;exact (fun l_:List UInt8 => by cases l_ <;> rfl:∀ l_:List UInt8,l_.isEmpty=!(l_ != [])) _),by repeat (first|exact Drawn0.refl _|apply Drawn0.step)⟩
  ·rw [if_neg c4] at H
   have c4b0:decide ((Int.tmod a0 a1)<0)=false:=decide_eq_false c4
   clear c4
   obtain rfl:=Option.some.inj H
   go_enter Tryz.func14,Tryz.ntmps14
   go_wp2
   go_ret
   exact ⟨by first|rfl|(simp;done)|(simp [*];done)|(simp;exact (fun l_:List UInt8 => by cases l_ <;> rfl:∀ l_:List UInt8,l_.isEmpty=!(l_ != [])) _),by repeat (first|exact Drawn0.refl _|apply Drawn0.step)⟩
mutual
def transhumanceref1_Place.l0:Nat→ByteArray→Int→Int→Int→Int→Option (Int × Int)
 | 0,_,_,_,_,_ => none
 | k+1,x0,x1,x6,x103000,x103001 => if x6<(x0.size:Int) then (transhumanceref1_Place.j1 k x0 x1 x6 (decide (x6<x1)) x103000 x103001) else (transhumanceref1_Place.j1 k x0 x1 x6 false x103000 x103001)
def transhumanceref1_Place.j1:Nat→ByteArray→Int→Int→Bool→Int→Int→Option (Int × Int)
 | 0,_,_,_,_,_,_ => none
 | k+1,x0,x1,x6,x16,x103000,x103001 => if x16=true then (if 0≤x6 then (if x6<(x0.size:Int) then (if (bt x0 x6)=10 then (transhumanceref1_Place.l0 k x0 x1 (wrap64 (x6+1)) (wrap64 (x103000+1)) 1) else (transhumanceref1_Place.l0 k x0 x1 (wrap64 (x6+1)) x103000 (wrap64 (x103001+1)))) else (none)) else (none)) else (some (x103000,x103001))
end
def transhumanceref1_Place.f (k:Nat) (a0:ByteArray) (a1:Int):Option (Int × Int):=transhumanceref1_Place.l0 k a0 a1 0 1 1
set_option maxHeartbeats 8000000 in
set_option maxRecDepth 100000 in
theorem transhumanceref1_Place.calls (k:Nat) (a0:ByteArray) (a1:Int) (r1:Int) (r2:Int) (w:World) (h:transhumanceref1_Place.f k a0 a1=some (r1,r2)) :
  Calls Tryz.prog 36 #[.string a0,.int .i64 a1] w fun e w' => e=.returned (.agg #[.int .i64 r1,.int .i64 r2])∧Below w.heap.size w w':=by
 have hu29:=Tryz.underlying29
 have HB:=Aside0.mk (Below.refl w.heap.size w)
 have H:(transhumanceref1_Place.l0 k a0 a1 0 1 1)=some (r1,r2):=h
 clear h
 have H':=Aside0.mk H
 clear H
 go_enter Tryz.func36,Tryz.ntmps36
 go_wp2_with (first|((with_reducible refine gate_dst (N:=4) rfl ?_);refine box_event ?hg (N:=4) ?hd (cs:=#[.int .i64 0,.int .i64 0]) (t:=29) ?hr ?_;(case hd => rfl);(case hg => rfl);(case hr => first|(go_simp;done)|(go_simp;rfl));intro gb101 hg w3 hbox hb;have n0_:=Aside0.mk (below_step (by repeat (first|(with_reducible first|exact HB.out|apply below_alloc|apply pw_below_drewN|apply below_drew1)|exact HB.out)) hb);have n1_:=Aside0.mk (hbox);have n2_:=Aside0.mk ((by rw [hg];exact (below_size (by repeat (first|(with_reducible first|exact HB.out|apply below_alloc|apply pw_below_drewN|apply below_drew1)|exact HB.out))):w.heap.size≤gb101));have n3_:=Aside0.mk ((by rw [hg];exact (below_size (by repeat (first|(with_reducible first|exact HB.out|apply below_alloc|apply pw_below_drewN|apply below_drew1)|exact HB.out))):w.heap.size≤gb101));clear HB;have HB:=n0_;have BK101:=n1_;have GW101:=n2_;have GE101:=n3_;clear n0_ n1_ n2_ n3_;clear hb hbox hg)|((with_reducible refine gate_dst (N:=5) rfl ?_);refine box_event ?hg (N:=5) ?hd (cs:=#[.int .i64 0,.int .i64 0]) (t:=29) ?hr ?_;(case hd => rfl);(case hg => rfl);(case hr => first|(go_simp;done)|(go_simp;rfl));intro gb102 hg w4 hbox hb;have n0_:=Aside0.mk (blk_below (g:=gb101) (o:=.cells #[.int .i64 0,.int .i64 0] 29 (0,0)) (by (with_reducible repeat (first|refine blk_drewN ?_ _|refine blk_drew ?_|refine blk_alloc ?_ _));exact BK101.out) hb);have n1_:=Aside0.mk (below_step (by repeat (first|(with_reducible first|exact HB.out|apply below_alloc|apply pw_below_drewN|apply below_drew1|refine below_set ?_ GE101.out)|exact HB.out)) hb);have n2_:=Aside0.mk (hbox);have n3_:=Aside0.mk ((by rw [hg];exact (below_size (by repeat (first|(with_reducible first|exact HB.out|apply below_alloc|apply pw_below_drewN|apply below_drew1|refine below_set ?_ GE101.out)|exact HB.out))):w.heap.size≤gb102));have n4_:=Aside0.mk ((by rw [hg];exact (below_size (by repeat (first|(with_reducible first|exact HB.out|apply below_alloc|apply pw_below_drewN|apply below_drew1|refine below_set ?_ GE101.out)|exact HB.out))):w.heap.size≤gb102));have n5_:=Aside0.mk ((by rw [hg];exact Nat.ne_of_lt (blk_lt (g:=gb101) (o:=.cells #[.int .i64 0,.int .i64 0] 29 (0,0)) (by (with_reducible repeat (first|refine blk_drewN ?_ _|refine blk_drew ?_|refine blk_alloc ?_ _));exact BK101.out)):gb101≠gb102));have n6_:=Aside0.mk ((by rw [hg];exact Nat.ne_of_gt (blk_lt (g:=gb101) (o:=.cells #[.int .i64 0,.int .i64 0] 29 (0,0)) (by (with_reducible repeat (first|refine blk_drewN ?_ _|refine blk_drew ?_|refine blk_alloc ?_ _));exact BK101.out)):gb102≠gb101));clear BK101;clear HB;have BK101:=n0_;have HB:=n1_;have BK102:=n2_;have GW102:=n3_;have GE102:=n4_;have NB101_102:=n5_;have NB102_101:=n6_;clear n0_ n1_ n2_ n3_ n4_ n5_ n6_;clear hb hbox hg;have hnb5:=NB102_101.out;have hnc5:=NB101_102.out;have hcz6_0:w4.cell? ⟨gb102,0,none⟩=some (.int .i64 0):=(blk_cell BK102.out 0).trans rfl;have hcz6_1:w4.cell? ⟨gb102,1,none⟩=some (.int .i64 0):=(blk_cell BK102.out 1).trans rfl;have hfz6_0:=blk_frozen BK102.out 0;have hfz6_1:=blk_frozen BK102.out 1))
 go_loopg [6] k (fun kq v6 w' => ∃ (x6_1:Int) (x103000_1:Int) (x103001_1:Int),v6=.int .i64 x6_1∧Aside0 (transhumanceref1_Place.l0 kq a0 a1 x6_1 x103000_1 x103001_1=some (r1,r2))∧Aside0 (kq≤k)∧Aside0 (w'.heap[gb101]?=some (.cells #[.int .i64 0,.int .i64 0] 29 (0,0)))∧Aside0 (w'.heap[gb102]?=some (.cells #[.int .i64 x103000_1,.int .i64 x103001_1] 29 (0,0)))∧Aside0 (Below w.heap.size w w'))
 case atStart => exact ⟨(0),(1),(1),(by first|rfl|(simp;done)|(simp [*];done)|(simp;exact (fun l_:List UInt8 => by cases l_ <;> rfl:∀ l_:List UInt8,l_.isEmpty=!(l_ != [])) _)),H',⟨Nat.le_refl _⟩,⟨by (with_reducible repeat (first|refine blk_drewN ?_ _|refine blk_drew ?_|refine blk_alloc ?_ _));refine blk_far ?_ NB101_102.out _;(with_reducible repeat (first|refine blk_drewN ?_ _|refine blk_drew ?_|refine blk_alloc ?_ _));refine blk_far ?_ NB101_102.out _;(with_reducible repeat (first|refine blk_drewN ?_ _|refine blk_drew ?_|refine blk_alloc ?_ _));exact BK101.out⟩,⟨by (with_reducible repeat (first|refine blk_drewN ?_ _|refine blk_drew ?_|refine blk_alloc ?_ _));refine blk_put (cs:=#[.int .i64 1,.int .i64 0]) ?_ 1 _ rfl;(with_reducible repeat (first|refine blk_drewN ?_ _|refine blk_drew ?_|refine blk_alloc ?_ _));refine blk_put (cs:=#[.int .i64 0,.int .i64 0]) ?_ 0 _ rfl;(with_reducible repeat (first|refine blk_drewN ?_ _|refine blk_drew ?_|refine blk_alloc ?_ _));exact BK102.out⟩,⟨by repeat (first|(with_reducible first|exact HB.out|apply below_alloc|apply pw_below_drewN|apply below_drew1|refine below_set ?_ GE101.out|refine below_set ?_ GE102.out)|exact HB.out)⟩⟩
 case round =>
  clear H'
  try clear p2
  try clear c3
  try clear c5
  try clear hcz6_0
  try clear hcz6_1
  try clear hfz6_0
  try clear hfz6_1
  obtain ⟨x6_1,x103000_1,x103001_1,rfl,HA,HK1,BK101,BK102,HB⟩:=hrel
  cases gk with
  | zero => exact absurd HA.out (by simp [transhumanceref1_Place.l0])
  | succ k1 =>
   have H:=HA.out
   clear HA
   simp only [transhumanceref1_Place.l0] at H
   have HC7:=Aside0.mk H
   clear H
   go_upto_region 3 with (fail)
   go_cut [16] (fun v16 wc => ∃ (kq:Nat) (x16_6:Bool),v16=.bool x16_6∧Aside0 (transhumanceref1_Place.j1 kq a0 a1 x6_1 x16_6 x103000_1 x103001_1=some (r1,r2))∧Aside0 (kq≤k1)∧Aside0 (wc.heap[gb101]?=some (.cells #[.int .i64 0,.int .i64 0] 29 (0,0)))∧Aside0 (wc.heap[gb102]?=some (.cells #[.int .i64 x103000_1,.int .i64 x103001_1] 29 (0,0)))∧Aside0 (Below w.heap.size w wc))
   case first =>
    have H:=HC7.out
    clear HC7
    by_cases c8:x6_1<(a0.size:Int)
    ·rw [if_pos c8] at H
     have c8b0:decide (x6_1<(a0.size:Int))=true:=decide_eq_true c8
     clear c8
     (first|rw [c8b0]|(simp only [i64_w,i32_w];rw [c8b0])|skip)
     have H':=Aside0.mk H
     clear H
     go_wp2
     go_meet
     case rel => exact ⟨_,(decide (x6_1<a1)),(by first|rfl|(simp;done)|(simp [*];done)|(simp;exact (fun l_:List UInt8 => by cases l_ <;> rfl:∀ l_:List UInt8,l_.isEmpty=!(l_ != [])) _)),H',⟨by have:=HK1.out;first|omega|exact Nat.le_refl _⟩,⟨by (with_reducible repeat (first|refine blk_drewN ?_ _|refine blk_drew ?_|refine blk_alloc ?_ _));exact BK101.out⟩,⟨by (with_reducible repeat (first|refine blk_drewN ?_ _|refine blk_drew ?_|refine blk_alloc ?_ _));exact BK102.out⟩,⟨by repeat (first|(with_reducible first|exact HB.out|apply below_alloc|apply pw_below_drewN|apply below_drew1|refine below_set ?_ GE101.out|refine below_set ?_ GE102.out)|exact HB.out)⟩⟩
    ·rw [if_neg c8] at H
     have c8b0:decide (x6_1<(a0.size:Int))=false:=decide_eq_false c8
     clear c8
     (first|rw [c8b0]|(simp only [i64_w,i32_w];rw [c8b0])|skip)
     have H':=Aside0.mk H
     clear H
     go_wp2
     go_meet
     case rel => exact ⟨_,(false),(by first|rfl|(simp;done)|(simp [*];done)|(simp;exact (fun l_:List UInt8 => by cases l_ <;> rfl:∀ l_:List UInt8,l_.isEmpty=!(l_ != [])) _)),H',⟨by have:=HK1.out;first|omega|exact Nat.le_refl _⟩,⟨by (with_reducible repeat (first|refine blk_drewN ?_ _|refine blk_drew ?_|refine blk_alloc ?_ _));exact BK101.out⟩,⟨by (with_reducible repeat (first|refine blk_drewN ?_ _|refine blk_drew ?_|refine blk_alloc ?_ _));exact BK102.out⟩,⟨by repeat (first|(with_reducible first|exact HB.out|apply below_alloc|apply pw_below_drewN|apply below_drew1|refine below_set ?_ GE101.out|refine below_set ?_ GE102.out)|exact HB.out)⟩⟩
   case rest =>
    clear HC7
    try clear p2
    try clear c3
    try clear c5
    try clear c8
    try clear c8b0
    try clear hcz6_0
    try clear hcz6_1
    try clear hfz6_0
    try clear hfz6_1
    try clear p2
    obtain ⟨kq,x16_6,rfl,HA,HJ6,BK101,BK102,HB⟩:=hcut
    cases kq with
    | zero => exact absurd HA.out (by simp [transhumanceref1_Place.j1])
    | succ kj6 =>
     have H:=HA.out
     clear HA
     simp only [transhumanceref1_Place.j1] at H
     by_cases c9:x16_6=true
     ·subst c9
      have H1:(if 0≤x6_1 then (if x6_1<(a0.size:Int) then (if (bt a0 x6_1)=10 then (transhumanceref1_Place.l0 kj6 a0 a1 (wrap64 (x6_1+1)) (wrap64 (x103000_1+1)) 1) else (transhumanceref1_Place.l0 kj6 a0 a1 (wrap64 (x6_1+1)) x103000_1 (wrap64 (x103001_1+1)))) else (none)) else (none))=some (r1,r2):=by rw [if_pos rfl] at H;exact H
      clear H
      have H:=H1
      clear H1
      by_cases c10:0≤x6_1
      ·rw [if_pos c10] at H
       have c10b0:decide (0≤x6_1)=true:=decide_eq_true c10
       clear c10
       by_cases c11:x6_1<(a0.size:Int)
       ·rw [if_pos c11] at H
        have c11b0:decide (x6_1<(a0.size:Int))=true:=decide_eq_true c11
        clear c11
        by_cases c13:(bt a0 x6_1)=10
        ·rw [if_pos c13] at H
         have c13b0:((bt a0 x6_1) == 10)=true:=beq_iff_eq.mpr c13
         have c13b1:((bt a0 x6_1) != 10)=false:=bne_eq_false_iff_eq.mpr c13
         clear c13
         have H':=Aside0.mk H
         clear H
         have hnb14:=NB102_101.out
         have hnc14:=NB101_102.out
         have hcz15_0:wc.cell? ⟨gb102,0,none⟩=some (.int .i64 x103000_1):=(blk_cell BK102.out 0).trans rfl
         have hcz15_1:wc.cell? ⟨gb102,1,none⟩=some (.int .i64 x103001_1):=(blk_cell BK102.out 1).trans rfl
         have hfz15_0:=blk_frozen BK102.out 0
         have hfz15_1:=blk_frozen BK102.out 1
         have p12:0≤(x6_1:Int):=of_decide_eq_true (by first|(with_reducible assumption)|assumption)
         have q12:x6_1<(a0.size:Int):=of_decide_eq_true (by first|(with_reducible assumption)|assumption)
         have hx12:=bt_at a0 x6_1
         replace p12:=eq_true p12
         replace q12:=eq_true q12
         go_wp2
         go_roundg kj6
         case measure => have:=HK1.out;have:=HJ6.out;omega
         case rel => exact ⟨(wrap64 (x6_1+1)),(wrap64 (x103000_1+1)),(1),(by first|rfl|(simp;done)|(simp [*];done)|(simp;exact (fun l_:List UInt8 => by cases l_ <;> rfl:∀ l_:List UInt8,l_.isEmpty=!(l_ != [])) _)),H',⟨by have:=HK1.out;have:=HJ6.out;omega⟩,⟨by (with_reducible repeat (first|refine blk_drewN ?_ _|refine blk_drew ?_|refine blk_alloc ?_ _));refine blk_far ?_ NB101_102.out _;(with_reducible repeat (first|refine blk_drewN ?_ _|refine blk_drew ?_|refine blk_alloc ?_ _));refine blk_far ?_ NB101_102.out _;(with_reducible repeat (first|refine blk_drewN ?_ _|refine blk_drew ?_|refine blk_alloc ?_ _));refine blk_far ?_ NB101_102.out _;(with_reducible repeat (first|refine blk_drewN ?_ _|refine blk_drew ?_|refine blk_alloc ?_ _));exact BK101.out⟩,⟨by (with_reducible repeat (first|refine blk_drewN ?_ _|refine blk_drew ?_|refine blk_alloc ?_ _));refine blk_put (cs:=#[.int .i64 (wrap64 (x103000_1+1)),.int .i64 (wrap64 (x103001_1+1))]) ?_ 1 _ rfl;(with_reducible repeat (first|refine blk_drewN ?_ _|refine blk_drew ?_|refine blk_alloc ?_ _));refine blk_put (cs:=#[.int .i64 x103000_1,.int .i64 (wrap64 (x103001_1+1))]) ?_ 0 _ rfl;(with_reducible repeat (first|refine blk_drewN ?_ _|refine blk_drew ?_|refine blk_alloc ?_ _));refine blk_put (cs:=#[.int .i64 x103000_1,.int .i64 x103001_1]) ?_ 1 _ rfl;(with_reducible repeat (first|refine blk_drewN ?_ _|refine blk_drew ?_|refine blk_alloc ?_ _));exact BK102.out⟩,⟨by repeat (first|(with_reducible first|exact HB.out|apply below_alloc|apply pw_below_drewN|apply below_drew1|refine below_set ?_ GE101.out|refine below_set ?_ GE102.out)|exact HB.out)⟩⟩
        ·rw [if_neg c13] at H
         have c13b0:((bt a0 x6_1) == 10)=false:=beq_eq_false_iff_ne.mpr c13
         have c13b1:((bt a0 x6_1) != 10)=true:=bne_iff_ne.mpr c13
         have H':=Aside0.mk H
         clear H
         have hnb16:=NB102_101.out
         have hnc16:=NB101_102.out
         have hcz17_0:wc.cell? ⟨gb102,0,none⟩=some (.int .i64 x103000_1):=(blk_cell BK102.out 0).trans rfl
         have hcz17_1:wc.cell? ⟨gb102,1,none⟩=some (.int .i64 x103001_1):=(blk_cell BK102.out 1).trans rfl
         have hfz17_0:=blk_frozen BK102.out 0
         have hfz17_1:=blk_frozen BK102.out 1
         have p12:0≤(x6_1:Int):=of_decide_eq_true (by first|(with_reducible assumption)|assumption)
         have q12:x6_1<(a0.size:Int):=of_decide_eq_true (by first|(with_reducible assumption)|assumption)
         have hx12:=bt_at a0 x6_1
         replace p12:=eq_true p12
         replace q12:=eq_true q12
         go_wp2
         go_roundg kj6
         case measure => have:=HK1.out;have:=HJ6.out;omega
         case rel => exact ⟨(wrap64 (x6_1+1)),(x103000_1),(wrap64 (x103001_1+1)),(by first|rfl|(simp;done)|(simp [*];done)|(simp;exact (fun l_:List UInt8 => by cases l_ <;> rfl:∀ l_:List UInt8,l_.isEmpty=!(l_ != [])) _)),H',⟨by have:=HK1.out;have:=HJ6.out;omega⟩,⟨by (with_reducible repeat (first|refine blk_drewN ?_ _|refine blk_drew ?_|refine blk_alloc ?_ _));refine blk_far ?_ NB101_102.out _;(with_reducible repeat (first|refine blk_drewN ?_ _|refine blk_drew ?_|refine blk_alloc ?_ _));exact BK101.out⟩,⟨by (with_reducible repeat (first|refine blk_drewN ?_ _|refine blk_drew ?_|refine blk_alloc ?_ _));refine blk_put (cs:=#[.int .i64 x103000_1,.int .i64 x103001_1]) ?_ 1 _ rfl;(with_reducible repeat (first|refine blk_drewN ?_ _|refine blk_drew ?_|refine blk_alloc ?_ _));exact BK102.out⟩,⟨by repeat (first|(with_reducible first|exact HB.out|apply below_alloc|apply pw_below_drewN|apply below_drew1|refine below_set ?_ GE101.out|refine below_set ?_ GE102.out)|exact HB.out)⟩⟩
       ·rw [if_neg c11] at H
        exact absurd H (by simp)
      ·rw [if_neg c10] at H
       exact absurd H (by simp)
     ·replace c9:=Bool.eq_false_iff.mpr c9
      subst c9
      have H1:(some (x103000_1,x103001_1))=some (r1,r2):=by rw [if_neg (show ¬ (false=true) by decide)] at H;exact H
      clear H
      have H:=H1
      clear H1
      simp only [Option.some.injEq,Prod.mk.injEq] at H
      obtain ⟨rfl,rfl⟩:=H
      have hnb18:=NB102_101.out
      have hnc18:=NB101_102.out
      have hcz19_0:wc.cell? ⟨gb102,0,none⟩=some (.int .i64 x103000_1):=(blk_cell BK102.out 0).trans rfl
      have hcz19_1:wc.cell? ⟨gb102,1,none⟩=some (.int .i64 x103001_1):=(blk_cell BK102.out 1).trans rfl
      have hfz19_0:=blk_frozen BK102.out 0
      have hfz19_1:=blk_frozen BK102.out 1
      have hcz20_0:wc.cell? ⟨gb101,0,none⟩=some (.int .i64 0):=(blk_cell BK101.out 0).trans rfl
      have hcz20_1:wc.cell? ⟨gb101,1,none⟩=some (.int .i64 0):=(blk_cell BK101.out 1).trans rfl
      have hfz20_0:=blk_frozen BK101.out 0
      have hfz20_1:=blk_frozen BK101.out 1
      go_wp2
      refine bodyPost_ret (results_cell_row rfl _ _ gb101 29 #[.int .i64 x103000_1,.int .i64 x103001_1] (0,0) _ rfl (by (with_reducible repeat (first|refine blk_drewN ?_ _|refine blk_drew ?_|refine blk_alloc ?_ _));refine blk_put (cs:=#[.int .i64 x103000_1,.int .i64 0]) ?_ 1 _ rfl;(with_reducible repeat (first|refine blk_drewN ?_ _|refine blk_drew ?_|refine blk_alloc ?_ _));refine blk_put (cs:=#[.int .i64 0,.int .i64 0]) ?_ 0 _ rfl;(with_reducible repeat (first|refine blk_drewN ?_ _|refine blk_drew ?_|refine blk_alloc ?_ _));exact BK101.out) Tryz.underlying29 rfl (by kernel_rfl)) rfl ?_
      exact ⟨by first|rfl|(simp [errW_none,errW_some] <;> rfl)|(simp [*,errW_none,errW_some] <;> rfl),by repeat (first|(with_reducible first|exact HB.out|apply below_alloc|apply pw_below_drewN|apply below_drew1|refine below_set ?_ GE101.out|refine below_set ?_ GE102.out)|exact HB.out)⟩
def transhumanceref1_bad.f (a0:Int):Option (Bool):=if a0=9 then (some false) else (if a0=10 then (some false) else (if a0<32 then (some true) else (some (decide (a0 > 126)))))
set_option maxHeartbeats 8000000 in
set_option maxRecDepth 100000 in
theorem transhumanceref1_bad.calls (a0:Int) (r:Bool) (w:World) (h:transhumanceref1_bad.f a0=some r) :
  Calls Tryz.prog 66 #[.int .u8 a0] w fun e w' => e=.returned (.bool r)∧Drawn0 w w':=by
 have H:(if a0=9 then (some false) else (if a0=10 then (some false) else (if a0<32 then (some true) else (some (decide (a0 > 126))))))=some r:=h
 clear h
 by_cases c2:a0=9
 ·rw [if_pos c2] at H
  have c2b0:(a0 == 9)=true:=beq_iff_eq.mpr c2
  have c2b1:(a0 != 9)=false:=bne_eq_false_iff_eq.mpr c2
  clear c2
  obtain rfl:=Option.some.inj H
  go_enter Tryz.func66,Tryz.ntmps66
  go_wp2
  go_ret
  exact ⟨by first|rfl|(simp;done)|(simp [*];done)|(simp;exact (fun l_:List UInt8 => by cases l_ <;> rfl:∀ l_:List UInt8,l_.isEmpty=!(l_ != [])) _),by repeat (first|exact Drawn0.refl _|apply Drawn0.step)⟩
 ·rw [if_neg c2] at H
  have c2b0:(a0 == 9)=false:=beq_eq_false_iff_ne.mpr c2
  have c2b1:(a0 != 9)=true:=bne_iff_ne.mpr c2
  by_cases c3:a0=10
  ·rw [if_pos c3] at H
   have c3b0:(a0 == 10)=true:=beq_iff_eq.mpr c3
   have c3b1:(a0 != 10)=false:=bne_eq_false_iff_eq.mpr c3
   clear c3
   obtain rfl:=Option.some.inj H
   go_enter Tryz.func66,Tryz.ntmps66
   go_wp2
   go_ret
   exact ⟨by first|rfl|(simp;done)|(simp [*];done)|(simp;exact (fun l_:List UInt8 => by cases l_ <;> rfl:∀ l_:List UInt8,l_.isEmpty=!(l_ != [])) _),by repeat (first|exact Drawn0.refl _|apply Drawn0.step)⟩
  ·rw [if_neg c3] at H
   have c3b0:(a0 == 10)=false:=beq_eq_false_iff_ne.mpr c3
   have c3b1:(a0 != 10)=true:=bne_iff_ne.mpr c3
   by_cases c4:a0<32
   ·rw [if_pos c4] at H
    have c4b0:decide (a0<32)=true:=decide_eq_true c4
    clear c4
    obtain rfl:=Option.some.inj H
    go_enter Tryz.func66,Tryz.ntmps66
    go_wp2
    go_ret
    exact ⟨by first|rfl|(simp;done)|(simp [*];done)|(simp;exact (fun l_:List UInt8 => by cases l_ <;> rfl:∀ l_:List UInt8,l_.isEmpty=!(l_ != [])) _),by repeat (first|exact Drawn0.refl _|apply Drawn0.step)⟩
   ·rw [if_neg c4] at H
    have c4b0:decide (a0<32)=false:=decide_eq_false c4
    clear c4
    obtain rfl:=Option.some.inj H
    go_enter Tryz.func66,Tryz.ntmps66
    go_wp2
    go_ret
    exact ⟨by first|rfl|(simp;done)|(simp [*];done)|(simp;exact (fun l_:List UInt8 => by cases l_ <;> rfl:∀ l_:List UInt8,l_.isEmpty=!(l_ != [])) _),by repeat (first|exact Drawn0.refl _|apply Drawn0.step)⟩
end Go.Proofs.YtjdjljgbfpkbdaaGreatDoor.Q
end
section
namespace Go.Proofs.YtjdjljgbfpkbdaaGreatDoor.Q
open Go.RowKit Go.Proofs.YtjdjljgbfpkbdaaGreatDoorW.PrintWords Go.Proofs.YtjdjljgbfpkbdaaGreatDoorW.PrintLast Go.Proofs.YtjdjljgbfpkbdaaGreatDoorW.PrintMore
attribute [local go_sem] max2_int min2_int max_two min_two max_three min_three max_four min_four
set_option linter.unusedVariables false
set_option linter.unusedSimpArgs false
def transhumanceref1_Bad.l0:Nat→ByteArray→Int→Option (Int)
 | 0,_,_ => none
 | k+1,x0,x3 => if x3<(x0.size:Int) then (if 0≤x3 then ((transhumanceref1_bad.f (bt x0 x3)).bind fun t103 => (if t103=true then (some x3) else (transhumanceref1_Bad.l0 k x0 (wrap64 (x3+1))))) else (none)) else (some (-1))
def transhumanceref1_Bad.f (k:Nat) (a0:ByteArray):Option (Int):=transhumanceref1_Bad.l0 k a0 0
set_option maxHeartbeats 8000000 in
set_option maxRecDepth 100000 in
theorem transhumanceref1_Bad.calls (k:Nat) (a0:ByteArray) (r:Int) (w:World) (h:transhumanceref1_Bad.f k a0=some r) :
  Calls Tryz.prog 35 #[.string a0] w fun e w' => e=.returned (.int .i64 r)∧Drawn0 w w':=by
 have H:(transhumanceref1_Bad.l0 k a0 0)=some r:=h
 clear h
 have H':=Aside0.mk H
 clear H
 go_enter Tryz.func35,Tryz.ntmps35
 go_wp2
 go_loopg [3] k (fun kq v3 w' => ∃ (x3_1:Int),v3=.int .i64 x3_1∧Aside0 (transhumanceref1_Bad.l0 kq a0 x3_1=some r)∧Aside0 (kq≤k)∧Drawn0 w w')
 case atStart => exact ⟨(0),(by first|rfl|(simp;done)|(simp [*];done)|(simp;exact (fun l_:List UInt8 => by cases l_ <;> rfl:∀ l_:List UInt8,l_.isEmpty=!(l_ != [])) _)),H',⟨Nat.le_refl _⟩,by repeat (first|exact Drawn0.refl _|apply Drawn0.step)⟩
 case round =>
  clear H'
  obtain ⟨x3_1,rfl,HA,HK1,⟨m1,rfl⟩⟩:=hrel
  cases gk with
  | zero => exact absurd HA.out (by simp [transhumanceref1_Bad.l0])
  | succ k1 =>
   have H:=HA.out
   clear HA
   simp only [transhumanceref1_Bad.l0] at H
   by_cases c2:x3_1<(a0.size:Int)
   ·rw [if_pos c2] at H
    have c2b0:decide (x3_1<(a0.size:Int))=true:=decide_eq_true c2
    clear c2
    by_cases c3:0≤x3_1
    ·rw [if_pos c3] at H
     have c3b0:decide (0≤x3_1)=true:=decide_eq_true c3
     clear c3
     replace H:=Option.bind_eq_some_iff.mp H
     obtain ⟨t103,A50,H⟩:=H
     replace H:(if t103=true then (some x3_1) else (transhumanceref1_Bad.l0 k1 a0 (wrap64 (x3_1+1))))=some r:=H
     have A5:=Aside0.mk A50
     clear A50
     by_cases c6:t103=true
     ·subst c6
      have H1:(some x3_1)=some r:=by rw [if_pos rfl] at H;exact H
      clear H
      have H:=H1
      clear H1
      obtain rfl:=Option.some.inj H
      have p4:0≤(x3_1:Int):=of_decide_eq_true (by first|(with_reducible assumption)|assumption)
      have q4:x3_1<(a0.size:Int):=of_decide_eq_true (by first|(with_reducible assumption)|assumption)
      have hx4:=bt_at a0 x3_1
      replace p4:=eq_true p4
      replace q4:=eq_true q4
      go_wp2_with (first|((with_reducible refine gate_callee (f:=66) rfl ?_);refine goesL_ (some 13) rfl rfl Tryz.func66 (by kernel_rfl) rfl #[.int .u8 (bt a0 x3_1)] rfl (by (try simp only [List.map_toArray,List.map_cons,List.map_nil]);first|done|rfl|(simp only [List.length_drop,List.length_take];rfl)) ?_;(with_reducible refine (transhumanceref1_bad.calls (bt a0 x3_1) true _ A5.out).mono ?_);rintro e w' ⟨rfl,⟨nd,rfl⟩⟩;refine ⟨_,rfl,?_⟩))
      go_ret
      exact ⟨by first|rfl|(simp;done)|(simp [*];done)|(simp;exact (fun l_:List UInt8 => by cases l_ <;> rfl:∀ l_:List UInt8,l_.isEmpty=!(l_ != [])) _),by repeat (first|exact Drawn0.refl _|apply Drawn0.step)⟩
     ·replace c6:=Bool.eq_false_iff.mpr c6
      subst c6
      have H1:(transhumanceref1_Bad.l0 k1 a0 (wrap64 (x3_1+1)))=some r:=by rw [if_neg (show ¬ (false=true) by decide)] at H;exact H
      clear H
      have H:=H1
      clear H1
      have H':=Aside0.mk H
      clear H
      have p4:0≤(x3_1:Int):=of_decide_eq_true (by first|(with_reducible assumption)|assumption)
      have q4:x3_1<(a0.size:Int):=of_decide_eq_true (by first|(with_reducible assumption)|assumption)
      have hx4:=bt_at a0 x3_1
      replace p4:=eq_true p4
      replace q4:=eq_true q4
      go_wp2_with (first|((with_reducible refine gate_callee (f:=66) rfl ?_);refine goesL_ (some 13) rfl rfl Tryz.func66 (by kernel_rfl) rfl #[.int .u8 (bt a0 x3_1)] rfl (by (try simp only [List.map_toArray,List.map_cons,List.map_nil]);first|done|rfl|(simp only [List.length_drop,List.length_take];rfl)) ?_;(with_reducible refine (transhumanceref1_bad.calls (bt a0 x3_1) false _ A5.out).mono ?_);rintro e w' ⟨rfl,⟨nd,rfl⟩⟩;refine ⟨_,rfl,?_⟩))
      go_roundg k1
      case measure => have:=HK1.out;omega
      case rel => exact ⟨(wrap64 (x3_1+1)),(by first|rfl|(simp;done)|(simp [*];done)|(simp;exact (fun l_:List UInt8 => by cases l_ <;> rfl:∀ l_:List UInt8,l_.isEmpty=!(l_ != [])) _)),H',⟨by have:=HK1.out;omega⟩,by repeat (first|exact Drawn0.refl _|apply Drawn0.step)⟩
    ·rw [if_neg c3] at H
     exact absurd H (by simp)
   ·rw [if_neg c2] at H
    have c2b0:decide (x3_1<(a0.size:Int))=false:=decide_eq_false c2
    clear c2
    obtain rfl:=Option.some.inj H
    go_wp2
    go_ret
    exact ⟨by first|rfl|(simp;done)|(simp [*];done)|(simp;exact (fun l_:List UInt8 => by cases l_ <;> rfl:∀ l_:List UInt8,l_.isEmpty=!(l_ != [])) _),by repeat (first|exact Drawn0.refl _|apply Drawn0.step)⟩
end Go.Proofs.YtjdjljgbfpkbdaaGreatDoor.Q
end
