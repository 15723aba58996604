import Derived.Test.YtjiidlkkkednoaaGreatDoorZBaseg
import Derived.Test.YtjiidlkkkednoaaGreatDoorZVsg
namespace Go.Proofs.YtjiidlkkkednoaaGreatDoor.Q
open Go.RowKit Go.Proofs.YtjiidlkkkednoaaGreatDoorW.PrintWords Go.Proofs.YtjiidlkkkednoaaGreatDoorW.PrintLast Go.Proofs.YtjiidlkkkednoaaGreatDoorW.PrintMore
attribute [local go_sem] max2_int min2_int max_two min_two max_three min_three max_four min_four
set_option linter.unusedVariables false
set_option linter.unusedSimpArgs false
def ver_Text.f (a0_0:Int) (a0_1:Int) (a0_2:Int) (a0_3:ByteArray):Option (ByteArray):=(strconv_Itoa.f a0_0).bind fun t115 => (if 1+t115.size≤9223372036854775807 then (if ((⟨#[118]⟩:ByteArray)++t115).size+1≤9223372036854775807 then ((strconv_Itoa.f a0_1).bind fun t116 => (if (((⟨#[118]⟩:ByteArray)++t115)++(⟨#[46]⟩:ByteArray)).size+t116.size≤9223372036854775807 then (if ((((⟨#[118]⟩:ByteArray)++t115)++(⟨#[46]⟩:ByteArray))++t116).size+1≤9223372036854775807 then ((strconv_Itoa.f a0_2).bind fun t117 => (if (((((⟨#[118]⟩:ByteArray)++t115)++(⟨#[46]⟩:ByteArray))++t116)++(⟨#[46]⟩:ByteArray)).size+t117.size≤9223372036854775807 then (if a0_3.toList=([]:List UInt8) then (some ((((((⟨#[118]⟩:ByteArray)++t115)++(⟨#[46]⟩:ByteArray))++t116)++(⟨#[46]⟩:ByteArray))++t117)) else (if 1+a0_3.size≤9223372036854775807 then (if ((((((⟨#[118]⟩:ByteArray)++t115)++(⟨#[46]⟩:ByteArray))++t116)++(⟨#[46]⟩:ByteArray))++t117).size+((⟨#[45]⟩:ByteArray)++a0_3).size≤9223372036854775807 then (some (((((((⟨#[118]⟩:ByteArray)++t115)++(⟨#[46]⟩:ByteArray))++t116)++(⟨#[46]⟩:ByteArray))++t117)++((⟨#[45]⟩:ByteArray)++a0_3))) else (none)) else (none))) else (none))) else (none)) else (none))) else (none)) else (none))
def ver_Text.T1:Bool × List (List Nat × List Nat):=(true,[([],[]),([0],[0]),([1],[1]),([2],[2]),([3],[3]),([],[]),([5],[5]),([6,2],[6]),([4,7],[4,7]),([8],[8]),([],[]),([10],[10]),([11,7],[11]),([9,12],[9,12]),([13,12,0,1,2,3,4,5,6,7,8,9,10,11,12,13],[13])])
def ver_Text.B1:List Nat:=[0,1,3,7,15,0,32,103,255,511,0,1024,3303,8191,16383]
theorem ver_Text.tab1:rtab .any (opsOf Tryz.f29 1)=ver_Text.T1:=by kernel_rfl
theorem ver_Text.bits1:waitsOk ver_Text.T1.2 ver_Text.B1=true:=by kernel_rfl
set_option maxHeartbeats 8000000 in
set_option maxRecDepth 100000 in
theorem ver_Text.calls (a0_0:Int) (a0_1:Int) (a0_2:Int) (a0_3:ByteArray) (r:ByteArray) (w:World) (hG:GL w) (h:ver_Text.f a0_0 a0_1 a0_2 a0_3=some r) :
  Calls Tryz.prog 29 #[.agg #[.int .i64 a0_0,.int .i64 a0_1,.int .i64 a0_2,.string a0_3]] w fun e w' => e=.returned (.string r)∧Below w.heap.size w w':=by
 have hu43:=Tryz.underlying43
 have HB:=Aside0.mk (Below.refl w.heap.size w)
 have H:((strconv_Itoa.f a0_0).bind fun t115 => (if 1+t115.size≤9223372036854775807 then (if ((⟨#[118]⟩:ByteArray)++t115).size+1≤9223372036854775807 then ((strconv_Itoa.f a0_1).bind fun t116 => (if (((⟨#[118]⟩:ByteArray)++t115)++(⟨#[46]⟩:ByteArray)).size+t116.size≤9223372036854775807 then (if ((((⟨#[118]⟩:ByteArray)++t115)++(⟨#[46]⟩:ByteArray))++t116).size+1≤9223372036854775807 then ((strconv_Itoa.f a0_2).bind fun t117 => (if (((((⟨#[118]⟩:ByteArray)++t115)++(⟨#[46]⟩:ByteArray))++t116)++(⟨#[46]⟩:ByteArray)).size+t117.size≤9223372036854775807 then (if a0_3.toList=([]:List UInt8) then (some ((((((⟨#[118]⟩:ByteArray)++t115)++(⟨#[46]⟩:ByteArray))++t116)++(⟨#[46]⟩:ByteArray))++t117)) else (if 1+a0_3.size≤9223372036854775807 then (if ((((((⟨#[118]⟩:ByteArray)++t115)++(⟨#[46]⟩:ByteArray))++t116)++(⟨#[46]⟩:ByteArray))++t117).size+((⟨#[45]⟩:ByteArray)++a0_3).size≤9223372036854775807 then (some (((((((⟨#[118]⟩:ByteArray)++t115)++(⟨#[46]⟩:ByteArray))++t116)++(⟨#[46]⟩:ByteArray))++t117)++((⟨#[45]⟩:ByteArray)++a0_3))) else (none)) else (none))) else (none))) else (none)) else (none))) else (none)) else (none)))=some r:=h
 clear h
 replace H:=Option.bind_eq_some_iff.mp H
 obtain ⟨t115,A20,H⟩:=H
 replace H:(if 1+t115.size≤9223372036854775807 then (if ((⟨#[118]⟩:ByteArray)++t115).size+1≤9223372036854775807 then ((strconv_Itoa.f a0_1).bind fun t116 => (if (((⟨#[118]⟩:ByteArray)++t115)++(⟨#[46]⟩:ByteArray)).size+t116.size≤9223372036854775807 then (if ((((⟨#[118]⟩:ByteArray)++t115)++(⟨#[46]⟩:ByteArray))++t116).size+1≤9223372036854775807 then ((strconv_Itoa.f a0_2).bind fun t117 => (if (((((⟨#[118]⟩:ByteArray)++t115)++(⟨#[46]⟩:ByteArray))++t116)++(⟨#[46]⟩:ByteArray)).size+t117.size≤9223372036854775807 then (if a0_3.toList=([]:List UInt8) then (some ((((((⟨#[118]⟩:ByteArray)++t115)++(⟨#[46]⟩:ByteArray))++t116)++(⟨#[46]⟩:ByteArray))++t117)) else (if 1+a0_3.size≤9223372036854775807 then (if ((((((⟨#[118]⟩:ByteArray)++t115)++(⟨#[46]⟩:ByteArray))++t116)++(⟨#[46]⟩:ByteArray))++t117).size+((⟨#[45]⟩:ByteArray)++a0_3).size≤9223372036854775807 then (some (((((((⟨#[118]⟩:ByteArray)++t115)++(⟨#[46]⟩:ByteArray))++t116)++(⟨#[46]⟩:ByteArray))++t117)++((⟨#[45]⟩:ByteArray)++a0_3))) else (none)) else (none))) else (none))) else (none)) else (none))) else (none)) else (none))=some r:=H
 have A2:=Aside0.mk A20
 clear A20
 by_cases c3:1+t115.size≤9223372036854775807
 ·rw [if_pos c3] at H
  have c3b0:=eq_true c3
  have c3b1:decide (1+t115.size≤9223372036854775807)=true:=decide_eq_true c3
  try have c3b2:(9223372036854775807<1+t115.size)=False:=eq_false (Nat.not_lt.2 c3)
  by_cases c4:((⟨#[118]⟩:ByteArray)++t115).size+1≤9223372036854775807
  ·rw [if_pos c4] at H
   have c4b0:=eq_true c4
   have c4b1:decide (((⟨#[118]⟩:ByteArray)++t115).size+1≤9223372036854775807)=true:=decide_eq_true c4
   try have c4b4:(9223372036854775807<1+t115.size+1)=False:=eq_false (by have h_:=c4;(try simp only [ByteArray.size_append] at h_);first|omega|(simp [go_sem] at h_;omega))
   try have c4b2:(9223372036854775807<((⟨#[118]⟩:ByteArray)++t115).size+1)=False:=eq_false (Nat.not_lt.2 c4)
   replace H:=Option.bind_eq_some_iff.mp H
   obtain ⟨t116,A50,H⟩:=H
   replace H:(if (((⟨#[118]⟩:ByteArray)++t115)++(⟨#[46]⟩:ByteArray)).size+t116.size≤9223372036854775807 then (if ((((⟨#[118]⟩:ByteArray)++t115)++(⟨#[46]⟩:ByteArray))++t116).size+1≤9223372036854775807 then ((strconv_Itoa.f a0_2).bind fun t117 => (if (((((⟨#[118]⟩:ByteArray)++t115)++(⟨#[46]⟩:ByteArray))++t116)++(⟨#[46]⟩:ByteArray)).size+t117.size≤9223372036854775807 then (if a0_3.toList=([]:List UInt8) then (some ((((((⟨#[118]⟩:ByteArray)++t115)++(⟨#[46]⟩:ByteArray))++t116)++(⟨#[46]⟩:ByteArray))++t117)) else (if 1+a0_3.size≤9223372036854775807 then (if ((((((⟨#[118]⟩:ByteArray)++t115)++(⟨#[46]⟩:ByteArray))++t116)++(⟨#[46]⟩:ByteArray))++t117).size+((⟨#[45]⟩:ByteArray)++a0_3).size≤9223372036854775807 then (some (((((((⟨#[118]⟩:ByteArray)++t115)++(⟨#[46]⟩:ByteArray))++t116)++(⟨#[46]⟩:ByteArray))++t117)++((⟨#[45]⟩:ByteArray)++a0_3))) else (none)) else (none))) else (none))) else (none)) else (none))=some r:=H
   have A5:=Aside0.mk A50
   clear A50
   by_cases c6:(((⟨#[118]⟩:ByteArray)++t115)++(⟨#[46]⟩:ByteArray)).size+t116.size≤9223372036854775807
   ·rw [if_pos c6] at H
    have c6b0:=eq_true c6
    have c6b1:decide ((((⟨#[118]⟩:ByteArray)++t115)++(⟨#[46]⟩:ByteArray)).size+t116.size≤9223372036854775807)=true:=decide_eq_true c6
    try have c6b4:(9223372036854775807<1+t115.size+1+t116.size)=False:=eq_false (by have h_:=c6;(try simp only [ByteArray.size_append] at h_);first|omega|(simp [go_sem] at h_;omega))
    try have c6b2:(9223372036854775807<(((⟨#[118]⟩:ByteArray)++t115)++(⟨#[46]⟩:ByteArray)).size+t116.size)=False:=eq_false (Nat.not_lt.2 c6)
    by_cases c7:((((⟨#[118]⟩:ByteArray)++t115)++(⟨#[46]⟩:ByteArray))++t116).size+1≤9223372036854775807
    ·rw [if_pos c7] at H
     have c7b0:=eq_true c7
     have c7b1:decide (((((⟨#[118]⟩:ByteArray)++t115)++(⟨#[46]⟩:ByteArray))++t116).size+1≤9223372036854775807)=true:=decide_eq_true c7
     try have c7b4:(9223372036854775807<1+t115.size+1+t116.size+1)=False:=eq_false (by have h_:=c7;(try simp only [ByteArray.size_append] at h_);first|omega|(simp [go_sem] at h_;omega))
     try have c7b2:(9223372036854775807<((((⟨#[118]⟩:ByteArray)++t115)++(⟨#[46]⟩:ByteArray))++t116).size+1)=False:=eq_false (Nat.not_lt.2 c7)
     replace H:=Option.bind_eq_some_iff.mp H
     obtain ⟨t117,A80,H⟩:=H
     replace H:(if (((((⟨#[118]⟩:ByteArray)++t115)++(⟨#[46]⟩:ByteArray))++t116)++(⟨#[46]⟩:ByteArray)).size+t117.size≤9223372036854775807 then (if a0_3.toList=([]:List UInt8) then (some ((((((⟨#[118]⟩:ByteArray)++t115)++(⟨#[46]⟩:ByteArray))++t116)++(⟨#[46]⟩:ByteArray))++t117)) else (if 1+a0_3.size≤9223372036854775807 then (if ((((((⟨#[118]⟩:ByteArray)++t115)++(⟨#[46]⟩:ByteArray))++t116)++(⟨#[46]⟩:ByteArray))++t117).size+((⟨#[45]⟩:ByteArray)++a0_3).size≤9223372036854775807 then (some (((((((⟨#[118]⟩:ByteArray)++t115)++(⟨#[46]⟩:ByteArray))++t116)++(⟨#[46]⟩:ByteArray))++t117)++((⟨#[45]⟩:ByteArray)++a0_3))) else (none)) else (none))) else (none))=some r:=H
     have A8:=Aside0.mk A80
     clear A80
     by_cases c9:(((((⟨#[118]⟩:ByteArray)++t115)++(⟨#[46]⟩:ByteArray))++t116)++(⟨#[46]⟩:ByteArray)).size+t117.size≤9223372036854775807
     ·rw [if_pos c9] at H
      have c9b0:=eq_true c9
      have c9b1:decide ((((((⟨#[118]⟩:ByteArray)++t115)++(⟨#[46]⟩:ByteArray))++t116)++(⟨#[46]⟩:ByteArray)).size+t117.size≤9223372036854775807)=true:=decide_eq_true c9
      try have c9b4:(9223372036854775807<1+t115.size+1+t116.size+1+t117.size)=False:=eq_false (by have h_:=c9;(try simp only [ByteArray.size_append] at h_);first|omega|(simp [go_sem] at h_;omega))
      try have c9b2:(9223372036854775807<(((((⟨#[118]⟩:ByteArray)++t115)++(⟨#[46]⟩:ByteArray))++t116)++(⟨#[46]⟩:ByteArray)).size+t117.size)=False:=eq_false (Nat.not_lt.2 c9)
      by_cases c10:a0_3.toList=([]:List UInt8)
      ·rw [if_pos c10] at H
       have c10b0:(a0_3.toList == ([]:List UInt8))=true:=beq_iff_eq.mpr c10
       have c10b1:(a0_3.toList != ([]:List UInt8))=false:=bne_eq_false_iff_eq.mpr c10
       clear c10
       obtain rfl:=Option.some.inj H
       go_enter Tryz.func29,Tryz.ntmps29
       try go_wp2_with (first|((with_reducible refine gate_dst (N:=1) rfl ?_);refine box_event ?hg (N:=1) ?hd (cs:=#[.int .i64 a0_0,.int .i64 a0_1,.int .i64 a0_2,.string a0_3]) (t:=43) ?hr ?_;(case hd => rfl);(case hg => rfl);(case hr => first|(go_simp;done)|(go_simp;rfl));intro gb114 hg w11 hbox hb;have n0_:=Aside0.mk (below_step (by repeat (first|(with_reducible first|exact HB.out|apply below_alloc|apply pw_below_drewN|apply below_drew1)|exact HB.out)) hb);have n1_:=Aside0.mk (hbox);have n2_:=Aside0.mk ((by rw [hg];exact (below_size (by repeat (first|(with_reducible first|exact HB.out|apply below_alloc|apply pw_below_drewN|apply below_drew1)|exact HB.out))):w.heap.size≤gb114));have n3_:=Aside0.mk ((by rw [hg];exact (below_size (by repeat (first|(with_reducible first|exact HB.out|apply below_alloc|apply pw_below_drewN|apply below_drew1)|exact HB.out))):w.heap.size≤gb114));clear HB;have HB:=n0_;have BK114:=n1_;have GW114:=n2_;have GE114:=n3_;clear n0_ n1_ n2_ n3_;clear hb hbox hg))
       have n0_:=Aside0.mk (blk_drew BK114.out)
       have n1_:=Aside0.mk (below_drew1 HB.out)
       clear BK114
       clear HB
       have BK114:=n0_
       have HB:=n1_
       clear n0_ n1_
       refine start_ (n:=15) (S:=fun w' => w'.cell? ⟨gb114,0,none⟩=some (.int .i64 a0_0)∧w'.cell? ⟨gb114,1,none⟩=some (.int .i64 a0_1)∧w'.cell? ⟨gb114,2,none⟩=some (.int .i64 a0_2)∧w'.cell? ⟨gb114,3,none⟩=some (.string a0_3)) (ds:=[]) #[false,false,false,false,false,false,false,false,false,false,false,false,false,false,false] (by kernel_rfl) rfl rfl ⟨(blk_cell BK114.out 0).trans rfl,(blk_cell BK114.out 1).trans rfl,(blk_cell BK114.out 2).trans rfl,(blk_cell BK114.out 3).trans rfl⟩ (fun hHeld => ?_);refine with_tabW ver_Text.tab1 ver_Text.bits1 (fun HT_ HW_ => ?_)
       generalize w11.drew=w12 at BK114 HB hHeld ⊢
       refine pure_ (i:=0) (N:=some 4) (v:=?_) (a':=?_) #[true,false,false,false,false,false,false,false,false,false,false,false,false,false,false] rfl rfl (any_of HT_.out (by kernel_rfl)) (fun _ _ _ h => h) (Or.inl ⟨by rfl,?_⟩) ?_ ?_
       rotate_left
       ·intro w'
        go_simp
        with_reducible rfl
       rotate_left
       ·simp only [Act.put,List.setIfInBounds_toArray,List.set_cons_zero,List.set_cons_succ,i64_w,i32_w]
        rfl
       refine pure_ (i:=5) (N:=some 9) (v:=?_) (a':=?_) #[true,false,false,false,false,true,false,false,false,false,false,false,false,false,false] rfl rfl (any_of HT_.out (by kernel_rfl)) (fun _ _ _ h => h) (Or.inl ⟨by rfl,?_⟩) ?_ ?_
       rotate_left
       ·intro w'
        go_simp
        with_reducible rfl
       rotate_left
       ·simp only [Act.put,List.setIfInBounds_toArray,List.set_cons_zero,List.set_cons_succ,i64_w,i32_w]
        rfl
       refine pure_ (i:=10) (N:=some 14) (v:=?_) (a':=?_) #[true,false,false,false,false,true,false,false,false,false,true,false,false,false,false] rfl rfl (any_of HT_.out (by kernel_rfl)) (fun _ _ _ h => h) (Or.inl ⟨by rfl,?_⟩) ?_ ?_
       rotate_left
       ·intro w'
        go_simp
        with_reducible rfl
       rotate_left
       ·simp only [Act.put,List.setIfInBounds_toArray,List.set_cons_zero,List.set_cons_succ,i64_w,i32_w]
        rfl
       refine take_ (i:=1) (N:=some 5) (v:=?_) (a':=?_) #[true,true,false,false,false,true,false,false,false,false,true,false,false,false,false] rfl rfl (take_ofW HT_.out HW_.out (by kernel_rfl)) (fun _ _ _ h => h) (Or.inl ⟨by rfl,?_⟩) hHeld ?_ ?_
       rotate_left
       ·rintro w' ⟨s0,s1,s2,s3⟩
        go_simp
        with_reducible rfl
       rotate_left
       ·simp only [Act.put,List.setIfInBounds_toArray,List.set_cons_zero,List.set_cons_succ,i64_w,i32_w]
        rfl
       refine take_ (i:=6) (N:=some 10) (v:=?_) (a':=?_) #[true,true,false,false,false,true,true,false,false,false,true,false,false,false,false] rfl rfl (take_ofW HT_.out HW_.out (by kernel_rfl)) (fun _ _ _ h => h) (Or.inl ⟨by rfl,?_⟩) hHeld ?_ ?_
       rotate_left
       ·rintro w' ⟨s0,s1,s2,s3⟩
        go_simp
        with_reducible rfl
       rotate_left
       ·simp only [Act.put,List.setIfInBounds_toArray,List.set_cons_zero,List.set_cons_succ,i64_w,i32_w]
        rfl
       refine take_ (i:=11) (N:=some 15) (v:=?_) (a':=?_) #[true,true,false,false,false,true,true,false,false,false,true,true,false,false,false] rfl rfl (take_ofW HT_.out HW_.out (by kernel_rfl)) (fun _ _ _ h => h) (Or.inl ⟨by rfl,?_⟩) hHeld ?_ ?_
       rotate_left
       ·rintro w' ⟨s0,s1,s2,s3⟩
        go_simp
        with_reducible rfl
       rotate_left
       ·simp only [Act.put,List.setIfInBounds_toArray,List.set_cons_zero,List.set_cons_succ,i64_w,i32_w]
        rfl
       refine one_ (i:=2) (N:=some 6) #[true,true,true,false,false,true,true,false,false,false,true,true,false,false,false] rfl rfl (one_of HT_.out (by kernel_rfl)) (by decide) (fun K hK => ?_)
       refine goes_ Tryz.func61 (by kernel_rfl) rfl #[.int .i64 a0_0] (by rfl) rfl rfl (by (try simp only [List.map_toArray,List.map_cons,List.map_nil]);first|done|rfl|(simp only [List.length_drop,List.length_take];rfl)) ?_
       with_reducible refine (strconv_Itoa.calls a0_0 t115 _ ?side1 A2.out).mono ?_
       (case side1 => exact GL.below0 hG (by repeat (first|(with_reducible first|exact HB.out|apply below_alloc|apply pw_below_drewN|apply below_drew1|refine below_set ?_ GE114.out)|exact HB.out)))
       rintro e w13 ⟨rfl,hb⟩
       refine ⟨_,rfl,?_⟩
       have n0_:=Aside0.mk (blk_below (g:=gb114) (o:=.cells #[.int .i64 a0_0,.int .i64 a0_1,.int .i64 a0_2,.string a0_3] 43 (0,0)) (by (with_reducible repeat (first|refine blk_drewN ?_ _|refine blk_drew ?_|refine blk_alloc ?_ _));exact BK114.out) hb)
       have n1_:=Aside0.mk (below_step (by repeat (first|(with_reducible first|exact HB.out|apply below_alloc|apply pw_below_drewN|apply below_drew1|refine below_set ?_ GE114.out)|exact HB.out)) hb)
       clear BK114
       clear HB
       have BK114:=n0_
       have HB:=n1_
       clear n0_ n1_
       (try clear hb)
       (try clear hb2)
       (try clear hk)
       (try clear hi)
       refine hK.out _ _ ⟨(blk_cell BK114.out 0).trans rfl,(blk_cell BK114.out 1).trans rfl,(blk_cell BK114.out 2).trans rfl,(blk_cell BK114.out 3).trans rfl⟩ (fun hHeld => ?_)
       clear hK K
       refine norm_ (a':=?_) ?_ ?_
       rotate_left
       ·show Act.put _ (some 6) _=_
        simp only [Act.put,List.setIfInBounds_toArray,List.set_cons_zero,List.set_cons_succ,i64_w,i32_w]
        rfl
       refine pure_ (i:=3) (N:=some 7) (v:=?_) (a':=?_) #[true,true,true,true,false,true,true,false,false,false,true,true,false,false,false] rfl rfl (any_of HT_.out (by kernel_rfl)) (fun _ _ _ h => h) (Or.inl ⟨by rfl,?_⟩) ?_ ?_
       rotate_left
       ·intro w'
        go_simp
        with_reducible rfl
       rotate_left
       ·simp only [Act.put,List.setIfInBounds_toArray,List.set_cons_zero,List.set_cons_succ,i64_w,i32_w]
        rfl
       refine pure_ (i:=4) (N:=some 8) (v:=?_) (a':=?_) #[true,true,true,true,true,true,true,false,false,false,true,true,false,false,false] rfl rfl (any_of HT_.out (by kernel_rfl)) (fun _ _ _ h => h) (Or.inl ⟨by rfl,?_⟩) ?_ ?_
       rotate_left
       ·intro w'
        go_simp
        with_reducible rfl
       rotate_left
       ·simp only [Act.put,List.setIfInBounds_toArray,List.set_cons_zero,List.set_cons_succ,i64_w,i32_w]
        rfl
       refine one_ (i:=7) (N:=some 11) #[true,true,true,true,true,true,true,true,false,false,true,true,false,false,false] rfl rfl (one_of HT_.out (by kernel_rfl)) (by decide) (fun K hK => ?_)
       refine goes_ Tryz.func61 (by kernel_rfl) rfl #[.int .i64 a0_1] (by rfl) rfl rfl (by (try simp only [List.map_toArray,List.map_cons,List.map_nil]);first|done|rfl|(simp only [List.length_drop,List.length_take];rfl)) ?_
       with_reducible refine (strconv_Itoa.calls a0_1 t116 _ ?side1 A5.out).mono ?_
       (case side1 => exact GL.below0 hG (by repeat (first|(with_reducible first|exact HB.out|apply below_alloc|apply pw_below_drewN|apply below_drew1|refine below_set ?_ GE114.out)|exact HB.out)))
       rintro e w14 ⟨rfl,hb⟩
       refine ⟨_,rfl,?_⟩
       have n0_:=Aside0.mk (blk_below (g:=gb114) (o:=.cells #[.int .i64 a0_0,.int .i64 a0_1,.int .i64 a0_2,.string a0_3] 43 (0,0)) (by (with_reducible repeat (first|refine blk_drewN ?_ _|refine blk_drew ?_|refine blk_alloc ?_ _));exact BK114.out) hb)
       have n1_:=Aside0.mk (below_step (by repeat (first|(with_reducible first|exact HB.out|apply below_alloc|apply pw_below_drewN|apply below_drew1|refine below_set ?_ GE114.out)|exact HB.out)) hb)
       clear BK114
       clear HB
       have BK114:=n0_
       have HB:=n1_
       clear n0_ n1_
       (try clear hb)
       (try clear hb2)
       (try clear hk)
       (try clear hi)
       refine hK.out _ _ ⟨(blk_cell BK114.out 0).trans rfl,(blk_cell BK114.out 1).trans rfl,(blk_cell BK114.out 2).trans rfl,(blk_cell BK114.out 3).trans rfl⟩ (fun hHeld => ?_)
       clear hK K
       refine norm_ (a':=?_) ?_ ?_
       rotate_left
       ·show Act.put _ (some 11) _=_
        simp only [Act.put,List.setIfInBounds_toArray,List.set_cons_zero,List.set_cons_succ,i64_w,i32_w]
        rfl
       refine pure_ (i:=8) (N:=some 12) (v:=?_) (a':=?_) #[true,true,true,true,true,true,true,true,true,false,true,true,false,false,false] rfl rfl (any_of HT_.out (by kernel_rfl)) (fun _ _ _ h => h) (Or.inl ⟨by rfl,?_⟩) ?_ ?_
       rotate_left
       ·intro w'
        go_simp
        with_reducible rfl
       rotate_left
       ·simp only [Act.put,List.setIfInBounds_toArray,List.set_cons_zero,List.set_cons_succ,i64_w,i32_w]
        rfl
       refine pure_ (i:=9) (N:=some 13) (v:=?_) (a':=?_) #[true,true,true,true,true,true,true,true,true,true,true,true,false,false,false] rfl rfl (any_of HT_.out (by kernel_rfl)) (fun _ _ _ h => h) (Or.inl ⟨by rfl,?_⟩) ?_ ?_
       rotate_left
       ·intro w'
        go_simp
        with_reducible rfl
       rotate_left
       ·simp only [Act.put,List.setIfInBounds_toArray,List.set_cons_zero,List.set_cons_succ,i64_w,i32_w]
        rfl
       refine one_ (i:=12) (N:=some 16) #[true,true,true,true,true,true,true,true,true,true,true,true,true,false,false] rfl rfl (one_of HT_.out (by kernel_rfl)) (by decide) (fun K hK => ?_)
       refine goes_ Tryz.func61 (by kernel_rfl) rfl #[.int .i64 a0_2] (by rfl) rfl rfl (by (try simp only [List.map_toArray,List.map_cons,List.map_nil]);first|done|rfl|(simp only [List.length_drop,List.length_take];rfl)) ?_
       with_reducible refine (strconv_Itoa.calls a0_2 t117 _ ?side1 A8.out).mono ?_
       (case side1 => exact GL.below0 hG (by repeat (first|(with_reducible first|exact HB.out|apply below_alloc|apply pw_below_drewN|apply below_drew1|refine below_set ?_ GE114.out)|exact HB.out)))
       rintro e w15 ⟨rfl,hb⟩
       refine ⟨_,rfl,?_⟩
       have n0_:=Aside0.mk (blk_below (g:=gb114) (o:=.cells #[.int .i64 a0_0,.int .i64 a0_1,.int .i64 a0_2,.string a0_3] 43 (0,0)) (by (with_reducible repeat (first|refine blk_drewN ?_ _|refine blk_drew ?_|refine blk_alloc ?_ _));exact BK114.out) hb)
       have n1_:=Aside0.mk (below_step (by repeat (first|(with_reducible first|exact HB.out|apply below_alloc|apply pw_below_drewN|apply below_drew1|refine below_set ?_ GE114.out)|exact HB.out)) hb)
       clear BK114
       clear HB
       have BK114:=n0_
       have HB:=n1_
       clear n0_ n1_
       (try clear hb)
       (try clear hb2)
       (try clear hk)
       (try clear hi)
       refine hK.out _ _ ⟨(blk_cell BK114.out 0).trans rfl,(blk_cell BK114.out 1).trans rfl,(blk_cell BK114.out 2).trans rfl,(blk_cell BK114.out 3).trans rfl⟩ (fun hHeld => ?_)
       clear hK K
       refine norm_ (a':=?_) ?_ ?_
       rotate_left
       ·show Act.put _ (some 16) _=_
        simp only [Act.put,List.setIfInBounds_toArray,List.set_cons_zero,List.set_cons_succ,i64_w,i32_w]
        rfl
       refine pure_ (i:=13) (N:=some 17) (v:=?_) (a':=?_) #[true,true,true,true,true,true,true,true,true,true,true,true,true,true,false] rfl rfl (any_of HT_.out (by kernel_rfl)) (fun _ _ _ h => h) (Or.inl ⟨by rfl,?_⟩) ?_ ?_
       rotate_left
       ·intro w'
        go_simp
        with_reducible rfl
       rotate_left
       ·simp only [Act.put,List.setIfInBounds_toArray,List.set_cons_zero,List.set_cons_succ,i64_w,i32_w]
        rfl
       refine pure_ (i:=14) (N:=some 3) (v:=?_) (a':=?_) #[true,true,true,true,true,true,true,true,true,true,true,true,true,true,true] rfl rfl (any_of HT_.out (by kernel_rfl)) (fun _ _ _ h => h) (Or.inl ⟨by rfl,?_⟩) ?_ ?_
       rotate_left
       ·intro w'
        go_simp
        with_reducible rfl
       rotate_left
       ·simp only [Act.put,List.setIfInBounds_toArray,List.set_cons_zero,List.set_cons_succ,i64_w,i32_w]
        rfl
       refine done_ (done_of HT_.out (by kernel_rfl)) ?_
       have hcz16_0:w15.cell? ⟨gb114,0,none⟩=some (.int .i64 a0_0):=(blk_cell BK114.out 0).trans rfl
       have hcz16_1:w15.cell? ⟨gb114,1,none⟩=some (.int .i64 a0_1):=(blk_cell BK114.out 1).trans rfl
       have hcz16_2:w15.cell? ⟨gb114,2,none⟩=some (.int .i64 a0_2):=(blk_cell BK114.out 2).trans rfl
       have hcz16_3:w15.cell? ⟨gb114,3,none⟩=some (.string a0_3):=(blk_cell BK114.out 3).trans rfl
       have hfz16_0:=blk_frozen BK114.out 0
       have hfz16_1:=blk_frozen BK114.out 1
       have hfz16_2:=blk_frozen BK114.out 2
       have hfz16_3:=blk_frozen BK114.out 3
       try go_wp2
       go_ret
       exact ⟨by first|rfl|(simp [errW_none,errW_some] <;> rfl)|(simp [*,errW_none,errW_some] <;> rfl),by repeat (first|(with_reducible first|exact HB.out|apply below_alloc|apply pw_below_drewN|apply below_drew1|refine below_set ?_ GE114.out)|exact HB.out)⟩
      ·rw [if_neg c10] at H
       have c10b0:(a0_3.toList == ([]:List UInt8))=false:=beq_eq_false_iff_ne.mpr c10
       have c10b1:(a0_3.toList != ([]:List UInt8))=true:=bne_iff_ne.mpr c10
       by_cases c17:1+a0_3.size≤9223372036854775807
       ·rw [if_pos c17] at H
        have c17b0:=eq_true c17
        have c17b1:decide (1+a0_3.size≤9223372036854775807)=true:=decide_eq_true c17
        try have c17b2:(9223372036854775807<1+a0_3.size)=False:=eq_false (Nat.not_lt.2 c17)
        by_cases c18:((((((⟨#[118]⟩:ByteArray)++t115)++(⟨#[46]⟩:ByteArray))++t116)++(⟨#[46]⟩:ByteArray))++t117).size+((⟨#[45]⟩:ByteArray)++a0_3).size≤9223372036854775807
        ·rw [if_pos c18] at H
         have c18b0:=eq_true c18
         have c18b1:decide (((((((⟨#[118]⟩:ByteArray)++t115)++(⟨#[46]⟩:ByteArray))++t116)++(⟨#[46]⟩:ByteArray))++t117).size+((⟨#[45]⟩:ByteArray)++a0_3).size≤9223372036854775807)=true:=decide_eq_true c18
         try have c18b4:(9223372036854775807<1+t115.size+1+t116.size+1+t117.size+(1+a0_3.size))=False:=eq_false (by have h_:=c18;(try simp only [ByteArray.size_append] at h_);first|omega|(simp [go_sem] at h_;omega))
         try have c18b2:(9223372036854775807<((((((⟨#[118]⟩:ByteArray)++t115)++(⟨#[46]⟩:ByteArray))++t116)++(⟨#[46]⟩:ByteArray))++t117).size+((⟨#[45]⟩:ByteArray)++a0_3).size)=False:=eq_false (Nat.not_lt.2 c18)
         obtain rfl:=Option.some.inj H
         go_enter Tryz.func29,Tryz.ntmps29
         try go_wp2_with (first|((with_reducible refine gate_dst (N:=1) rfl ?_);refine box_event ?hg (N:=1) ?hd (cs:=#[.int .i64 a0_0,.int .i64 a0_1,.int .i64 a0_2,.string a0_3]) (t:=43) ?hr ?_;(case hd => rfl);(case hg => rfl);(case hr => first|(go_simp;done)|(go_simp;rfl));intro gb114 hg w19 hbox hb;have n0_:=Aside0.mk (below_step (by repeat (first|(with_reducible first|exact HB.out|apply below_alloc|apply pw_below_drewN|apply below_drew1)|exact HB.out)) hb);have n1_:=Aside0.mk (hbox);have n2_:=Aside0.mk ((by rw [hg];exact (below_size (by repeat (first|(with_reducible first|exact HB.out|apply below_alloc|apply pw_below_drewN|apply below_drew1)|exact HB.out))):w.heap.size≤gb114));have n3_:=Aside0.mk ((by rw [hg];exact (below_size (by repeat (first|(with_reducible first|exact HB.out|apply below_alloc|apply pw_below_drewN|apply below_drew1)|exact HB.out))):w.heap.size≤gb114));clear HB;have HB:=n0_;have BK114:=n1_;have GW114:=n2_;have GE114:=n3_;clear n0_ n1_ n2_ n3_;clear hb hbox hg))
         have n0_:=Aside0.mk (blk_drew BK114.out)
         have n1_:=Aside0.mk (below_drew1 HB.out)
         clear BK114
         clear HB
         have BK114:=n0_
         have HB:=n1_
         clear n0_ n1_
         refine start_ (n:=15) (S:=fun w' => w'.cell? ⟨gb114,0,none⟩=some (.int .i64 a0_0)∧w'.cell? ⟨gb114,1,none⟩=some (.int .i64 a0_1)∧w'.cell? ⟨gb114,2,none⟩=some (.int .i64 a0_2)∧w'.cell? ⟨gb114,3,none⟩=some (.string a0_3)) (ds:=[]) #[false,false,false,false,false,false,false,false,false,false,false,false,false,false,false] (by kernel_rfl) rfl rfl ⟨(blk_cell BK114.out 0).trans rfl,(blk_cell BK114.out 1).trans rfl,(blk_cell BK114.out 2).trans rfl,(blk_cell BK114.out 3).trans rfl⟩ (fun hHeld => ?_);refine with_tabW ver_Text.tab1 ver_Text.bits1 (fun HT_ HW_ => ?_)
         generalize w19.drew=w20 at BK114 HB hHeld ⊢
         refine pure_ (i:=0) (N:=some 4) (v:=?_) (a':=?_) #[true,false,false,false,false,false,false,false,false,false,false,false,false,false,false] rfl rfl (any_of HT_.out (by kernel_rfl)) (fun _ _ _ h => h) (Or.inl ⟨by rfl,?_⟩) ?_ ?_
         rotate_left
         ·intro w'
          go_simp
          with_reducible rfl
         rotate_left
         ·simp only [Act.put,List.setIfInBounds_toArray,List.set_cons_zero,List.set_cons_succ,i64_w,i32_w]
          rfl
         refine pure_ (i:=5) (N:=some 9) (v:=?_) (a':=?_) #[true,false,false,false,false,true,false,false,false,false,false,false,false,false,false] rfl rfl (any_of HT_.out (by kernel_rfl)) (fun _ _ _ h => h) (Or.inl ⟨by rfl,?_⟩) ?_ ?_
         rotate_left
         ·intro w'
          go_simp
          with_reducible rfl
         rotate_left
         ·simp only [Act.put,List.setIfInBounds_toArray,List.set_cons_zero,List.set_cons_succ,i64_w,i32_w]
          rfl
         refine pure_ (i:=10) (N:=some 14) (v:=?_) (a':=?_) #[true,false,false,false,false,true,false,false,false,false,true,false,false,false,false] rfl rfl (any_of HT_.out (by kernel_rfl)) (fun _ _ _ h => h) (Or.inl ⟨by rfl,?_⟩) ?_ ?_
         rotate_left
         ·intro w'
          go_simp
          with_reducible rfl
         rotate_left
         ·simp only [Act.put,List.setIfInBounds_toArray,List.set_cons_zero,List.set_cons_succ,i64_w,i32_w]
          rfl
         refine take_ (i:=1) (N:=some 5) (v:=?_) (a':=?_) #[true,true,false,false,false,true,false,false,false,false,true,false,false,false,false] rfl rfl (take_ofW HT_.out HW_.out (by kernel_rfl)) (fun _ _ _ h => h) (Or.inl ⟨by rfl,?_⟩) hHeld ?_ ?_
         rotate_left
         ·rintro w' ⟨s0,s1,s2,s3⟩
          go_simp
          with_reducible rfl
         rotate_left
         ·simp only [Act.put,List.setIfInBounds_toArray,List.set_cons_zero,List.set_cons_succ,i64_w,i32_w]
          rfl
         refine take_ (i:=6) (N:=some 10) (v:=?_) (a':=?_) #[true,true,false,false,false,true,true,false,false,false,true,false,false,false,false] rfl rfl (take_ofW HT_.out HW_.out (by kernel_rfl)) (fun _ _ _ h => h) (Or.inl ⟨by rfl,?_⟩) hHeld ?_ ?_
         rotate_left
         ·rintro w' ⟨s0,s1,s2,s3⟩
          go_simp
          with_reducible rfl
         rotate_left
         ·simp only [Act.put,List.setIfInBounds_toArray,List.set_cons_zero,List.set_cons_succ,i64_w,i32_w]
          rfl
         refine take_ (i:=11) (N:=some 15) (v:=?_) (a':=?_) #[true,true,false,false,false,true,true,false,false,false,true,true,false,false,false] rfl rfl (take_ofW HT_.out HW_.out (by kernel_rfl)) (fun _ _ _ h => h) (Or.inl ⟨by rfl,?_⟩) hHeld ?_ ?_
         rotate_left
         ·rintro w' ⟨s0,s1,s2,s3⟩
          go_simp
          with_reducible rfl
         rotate_left
         ·simp only [Act.put,List.setIfInBounds_toArray,List.set_cons_zero,List.set_cons_succ,i64_w,i32_w]
          rfl
         refine one_ (i:=2) (N:=some 6) #[true,true,true,false,false,true,true,false,false,false,true,true,false,false,false] rfl rfl (one_of HT_.out (by kernel_rfl)) (by decide) (fun K hK => ?_)
         refine goes_ Tryz.func61 (by kernel_rfl) rfl #[.int .i64 a0_0] (by rfl) rfl rfl (by (try simp only [List.map_toArray,List.map_cons,List.map_nil]);first|done|rfl|(simp only [List.length_drop,List.length_take];rfl)) ?_
         with_reducible refine (strconv_Itoa.calls a0_0 t115 _ ?side1 A2.out).mono ?_
         (case side1 => exact GL.below0 hG (by repeat (first|(with_reducible first|exact HB.out|apply below_alloc|apply pw_below_drewN|apply below_drew1|refine below_set ?_ GE114.out)|exact HB.out)))
         rintro e w21 ⟨rfl,hb⟩
         refine ⟨_,rfl,?_⟩
         have n0_:=Aside0.mk (blk_below (g:=gb114) (o:=.cells #[.int .i64 a0_0,.int .i64 a0_1,.int .i64 a0_2,.string a0_3] 43 (0,0)) (by (with_reducible repeat (first|refine blk_drewN ?_ _|refine blk_drew ?_|refine blk_alloc ?_ _));exact BK114.out) hb)
         have n1_:=Aside0.mk (below_step (by repeat (first|(with_reducible first|exact HB.out|apply below_alloc|apply pw_below_drewN|apply below_drew1|refine below_set ?_ GE114.out)|exact HB.out)) hb)
         clear BK114
         clear HB
         have BK114:=n0_
         have HB:=n1_
         clear n0_ n1_
         (try clear hb)
         (try clear hb2)
         (try clear hk)
         (try clear hi)
         refine hK.out _ _ ⟨(blk_cell BK114.out 0).trans rfl,(blk_cell BK114.out 1).trans rfl,(blk_cell BK114.out 2).trans rfl,(blk_cell BK114.out 3).trans rfl⟩ (fun hHeld => ?_)
         clear hK K
         refine norm_ (a':=?_) ?_ ?_
         rotate_left
         ·show Act.put _ (some 6) _=_
          simp only [Act.put,List.setIfInBounds_toArray,List.set_cons_zero,List.set_cons_succ,i64_w,i32_w]
          rfl
         refine pure_ (i:=3) (N:=some 7) (v:=?_) (a':=?_) #[true,true,true,true,false,true,true,false,false,false,true,true,false,false,false] rfl rfl (any_of HT_.out (by kernel_rfl)) (fun _ _ _ h => h) (Or.inl ⟨by rfl,?_⟩) ?_ ?_
         rotate_left
         ·intro w'
          go_simp
          with_reducible rfl
         rotate_left
         ·simp only [Act.put,List.setIfInBounds_toArray,List.set_cons_zero,List.set_cons_succ,i64_w,i32_w]
          rfl
         refine pure_ (i:=4) (N:=some 8) (v:=?_) (a':=?_) #[true,true,true,true,true,true,true,false,false,false,true,true,false,false,false] rfl rfl (any_of HT_.out (by kernel_rfl)) (fun _ _ _ h => h) (Or.inl ⟨by rfl,?_⟩) ?_ ?_
         rotate_left
         ·intro w'
          go_simp
          with_reducible rfl
         rotate_left
         ·simp only [Act.put,List.setIfInBounds_toArray,List.set_cons_zero,List.set_cons_succ,i64_w,i32_w]
          rfl
         refine one_ (i:=7) (N:=some 11) #[true,true,true,true,true,true,true,true,false,false,true,true,false,false,false] rfl rfl (one_of HT_.out (by kernel_rfl)) (by decide) (fun K hK => ?_)
         refine goes_ Tryz.func61 (by kernel_rfl) rfl #[.int .i64 a0_1] (by rfl) rfl rfl (by (try simp only [List.map_toArray,List.map_cons,List.map_nil]);first|done|rfl|(simp only [List.length_drop,List.length_take];rfl)) ?_
         with_reducible refine (strconv_Itoa.calls a0_1 t116 _ ?side1 A5.out).mono ?_
         (case side1 => exact GL.below0 hG (by repeat (first|(with_reducible first|exact HB.out|apply below_alloc|apply pw_below_drewN|apply below_drew1|refine below_set ?_ GE114.out)|exact HB.out)))
         rintro e w22 ⟨rfl,hb⟩
         refine ⟨_,rfl,?_⟩
         have n0_:=Aside0.mk (blk_below (g:=gb114) (o:=.cells #[.int .i64 a0_0,.int .i64 a0_1,.int .i64 a0_2,.string a0_3] 43 (0,0)) (by (with_reducible repeat (first|refine blk_drewN ?_ _|refine blk_drew ?_|refine blk_alloc ?_ _));exact BK114.out) hb)
         have n1_:=Aside0.mk (below_step (by repeat (first|(with_reducible first|exact HB.out|apply below_alloc|apply pw_below_drewN|apply below_drew1|refine below_set ?_ GE114.out)|exact HB.out)) hb)
         clear BK114
         clear HB
         have BK114:=n0_
         have HB:=n1_
         clear n0_ n1_
         (try clear hb)
         (try clear hb2)
         (try clear hk)
         (try clear hi)
         refine hK.out _ _ ⟨(blk_cell BK114.out 0).trans rfl,(blk_cell BK114.out 1).trans rfl,(blk_cell BK114.out 2).trans rfl,(blk_cell BK114.out 3).trans rfl⟩ (fun hHeld => ?_)
         clear hK K
         refine norm_ (a':=?_) ?_ ?_
         rotate_left
         ·show Act.put _ (some 11) _=_
          simp only [Act.put,List.setIfInBounds_toArray,List.set_cons_zero,List.set_cons_succ,i64_w,i32_w]
          rfl
         refine pure_ (i:=8) (N:=some 12) (v:=?_) (a':=?_) #[true,true,true,true,true,true,true,true,true,false,true,true,false,false,false] rfl rfl (any_of HT_.out (by kernel_rfl)) (fun _ _ _ h => h) (Or.inl ⟨by rfl,?_⟩) ?_ ?_
         rotate_left
         ·intro w'
          go_simp
          with_reducible rfl
         rotate_left
         ·simp only [Act.put,List.setIfInBounds_toArray,List.set_cons_zero,List.set_cons_succ,i64_w,i32_w]
          rfl
         refine pure_ (i:=9) (N:=some 13) (v:=?_) (a':=?_) #[true,true,true,true,true,true,true,true,true,true,true,true,false,false,false] rfl rfl (any_of HT_.out (by kernel_rfl)) (fun _ _ _ h => h) (Or.inl ⟨by rfl,?_⟩) ?_ ?_
         rotate_left
         ·intro w'
          go_simp
          with_reducible rfl
         rotate_left
         ·simp only [Act.put,List.setIfInBounds_toArray,List.set_cons_zero,List.set_cons_succ,i64_w,i32_w]
          rfl
         refine one_ (i:=12) (N:=some 16) #[true,true,true,true,true,true,true,true,true,true,true,true,true,false,false] rfl rfl (one_of HT_.out (by kernel_rfl)) (by decide) (fun K hK => ?_)
         refine goes_ Tryz.func61 (by kernel_rfl) rfl #[.int .i64 a0_2] (by rfl) rfl rfl (by (try simp only [List.map_toArray,List.map_cons,List.map_nil]);first|done|rfl|(simp only [List.length_drop,List.length_take];rfl)) ?_
         with_reducible refine (strconv_Itoa.calls a0_2 t117 _ ?side1 A8.out).mono ?_
         (case side1 => exact GL.below0 hG (by repeat (first|(with_reducible first|exact HB.out|apply below_alloc|apply pw_below_drewN|apply below_drew1|refine below_set ?_ GE114.out)|exact HB.out)))
         rintro e w23 ⟨rfl,hb⟩
         refine ⟨_,rfl,?_⟩
         have n0_:=Aside0.mk (blk_below (g:=gb114) (o:=.cells #[.int .i64 a0_0,.int .i64 a0_1,.int .i64 a0_2,.string a0_3] 43 (0,0)) (by (with_reducible repeat (first|refine blk_drewN ?_ _|refine blk_drew ?_|refine blk_alloc ?_ _));exact BK114.out) hb)
         have n1_:=Aside0.mk (below_step (by repeat (first|(with_reducible first|exact HB.out|apply below_alloc|apply pw_below_drewN|apply below_drew1|refine below_set ?_ GE114.out)|exact HB.out)) hb)
         clear BK114
         clear HB
         have BK114:=n0_
         have HB:=n1_
         clear n0_ n1_
         (try clear hb)
         (try clear hb2)
         (try clear hk)
         (try clear hi)
         refine hK.out _ _ ⟨(blk_cell BK114.out 0).trans rfl,(blk_cell BK114.out 1).trans rfl,(blk_cell BK114.out 2).trans rfl,(blk_cell BK114.out 3).trans rfl⟩ (fun hHeld => ?_)
         clear hK K
         refine norm_ (a':=?_) ?_ ?_
         rotate_left
         ·show Act.put _ (some 16) _=_
          simp only [Act.put,List.setIfInBounds_toArray,List.set_cons_zero,List.set_cons_succ,i64_w,i32_w]
          rfl
         refine pure_ (i:=13) (N:=some 17) (v:=?_) (a':=?_) #[true,true,true,true,true,true,true,true,true,true,true,true,true,true,false] rfl rfl (any_of HT_.out (by kernel_rfl)) (fun _ _ _ h => h) (Or.inl ⟨by rfl,?_⟩) ?_ ?_
         rotate_left
         ·intro w'
          go_simp
          with_reducible rfl
         rotate_left
         ·simp only [Act.put,List.setIfInBounds_toArray,List.set_cons_zero,List.set_cons_succ,i64_w,i32_w]
          rfl
         refine pure_ (i:=14) (N:=some 3) (v:=?_) (a':=?_) #[true,true,true,true,true,true,true,true,true,true,true,true,true,true,true] rfl rfl (any_of HT_.out (by kernel_rfl)) (fun _ _ _ h => h) (Or.inl ⟨by rfl,?_⟩) ?_ ?_
         rotate_left
         ·intro w'
          go_simp
          with_reducible rfl
         rotate_left
         ·simp only [Act.put,List.setIfInBounds_toArray,List.set_cons_zero,List.set_cons_succ,i64_w,i32_w]
          rfl
         refine done_ (done_of HT_.out (by kernel_rfl)) ?_
         have hcz24_0:w23.cell? ⟨gb114,0,none⟩=some (.int .i64 a0_0):=(blk_cell BK114.out 0).trans rfl
         have hcz24_1:w23.cell? ⟨gb114,1,none⟩=some (.int .i64 a0_1):=(blk_cell BK114.out 1).trans rfl
         have hcz24_2:w23.cell? ⟨gb114,2,none⟩=some (.int .i64 a0_2):=(blk_cell BK114.out 2).trans rfl
         have hcz24_3:w23.cell? ⟨gb114,3,none⟩=some (.string a0_3):=(blk_cell BK114.out 3).trans rfl
         have hfz24_0:=blk_frozen BK114.out 0
         have hfz24_1:=blk_frozen BK114.out 1
         have hfz24_2:=blk_frozen BK114.out 2
         have hfz24_3:=blk_frozen BK114.out 3
         try go_wp2
         go_ret
         exact ⟨by first|rfl|(simp [errW_none,errW_some] <;> rfl)|(simp [*,errW_none,errW_some] <;> rfl),by repeat (first|(with_reducible first|exact HB.out|apply below_alloc|apply pw_below_drewN|apply below_drew1|refine below_set ?_ GE114.out)|exact HB.out)⟩
        ·rw [if_neg c18] at H
         exact absurd H (by simp)
       ·rw [if_neg c17] at H
        exact absurd H (by simp)
     ·rw [if_neg c9] at H
      exact absurd H (by simp)
    ·rw [if_neg c7] at H
     exact absurd H (by simp)
   ·rw [if_neg c6] at H
    exact absurd H (by simp)
  ·rw [if_neg c4] at H
   exact absurd H (by simp)
 ·rw [if_neg c3] at H
  exact absurd H (by simp)
end Go.Proofs.YtjiidlkkkednoaaGreatDoor.Q
