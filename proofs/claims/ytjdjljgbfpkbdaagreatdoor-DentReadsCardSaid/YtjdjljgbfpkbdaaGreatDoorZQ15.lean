import Derived.Test.YtjdjljgbfpkbdaaGreatDoorZQ0
namespace Go.Proofs.YtjdjljgbfpkbdaaGreatDoor.Q
open Go.RowKit Go.Proofs.YtjdjljgbfpkbdaaGreatDoorW.PrintWords Go.Proofs.YtjdjljgbfpkbdaaGreatDoorW.PrintLast Go.Proofs.YtjdjljgbfpkbdaaGreatDoorW.PrintMore
attribute [local go_sem] max2_int min2_int max_two min_two max_three min_three max_four min_four
set_option linter.unusedVariables false
set_option linter.unusedSimpArgs false
def transhumancelaw5_within.f (a0:Int) (a1:Int):Option (Int):=if a1=0 then (none) else (if (Int.tmod a0 a1)<0 then (some (wrap64 ((Int.tmod a0 a1)+a1))) else (some (Int.tmod a0 a1)))
set_option maxHeartbeats 8000000 in
set_option maxRecDepth 100000 in
theorem transhumancelaw5_within.calls (a0:Int) (a1:Int) (r:Int) (w:World) (h:transhumancelaw5_within.f a0 a1=some r) :
  Calls Tryz.prog 40 #[.int .i64 a0,.int .i64 a1] w fun e w' => e=.returned (.int .i64 r)∧Drawn0 w w':=by
 have H:(if a1=0 then (none) else (if (Int.tmod a0 a1)<0 then (some (wrap64 ((Int.tmod a0 a1)+a1))) else (some (Int.tmod a0 a1))))=some r:=h
 clear h
 by_cases c3:a1=0
 ·rw [if_pos c3] at H
  exact absurd H (by simp)
 ·rw [if_neg c3] at H
  have c3b0:(a1 == 0)=false:=beq_eq_false_iff_ne.mpr c3
  have c3b1:(a1 != 0)=true:=bne_iff_ne.mpr c3
  by_cases c4:(Int.tmod a0 a1)<0
  ·rw [if_pos c4] at H
   have c4b0:decide ((Int.tmod a0 a1)<0)=true:=decide_eq_true c4
   clear c4
   obtain rfl:=Option.some.inj H
   go_enter Tryz.func40,Tryz.ntmps40
   go_wp2
   go_ret
   exact ⟨by first|rfl|(simp;done)|(simp [*];done)|(simp;exact (fun l_:List UInt8 => by cases l_ <;> rfl:∀ l_:List UInt8,l_.isEmpty=!(l_ != [])) _),by repeat (first|exact Drawn0.refl _|apply Drawn0.step)⟩
  ·rw [if_neg c4] at H
   have c4b0:decide ((Int.tmod a0 a1)<0)=false:=decide_eq_false c4
   clear c4
   obtain rfl:=Option.some.inj H
   go_enter Tryz.func40,Tryz.ntmps40
   go_wp2
   go_ret
   exact ⟨by first|rfl|(simp;done)|(simp [*];done)|(simp;exact (fun l_:List UInt8 => by cases l_ <;> rfl:∀ l_:List UInt8,l_.isEmpty=!(l_ != [])) _),by repeat (first|exact Drawn0.refl _|apply Drawn0.step)⟩
def transhumancelaw4_within.f (a0:Int) (a1:Int):Option (Int):=if a1=0 then (none) else (if (Int.tmod a0 a1)<0 then (some (wrap64 ((Int.tmod a0 a1)+a1))) else (some (Int.tmod a0 a1)))
set_option maxHeartbeats 8000000 in
set_option maxRecDepth 100000 in
theorem transhumancelaw4_within.calls (a0:Int) (a1:Int) (r:Int) (w:World) (h:transhumancelaw4_within.f a0 a1=some r) :
  Calls Tryz.prog 70 #[.int .i64 a0,.int .i64 a1] w fun e w' => e=.returned (.int .i64 r)∧Drawn0 w w':=by
 have H:(if a1=0 then (none) else (if (Int.tmod a0 a1)<0 then (some (wrap64 ((Int.tmod a0 a1)+a1))) else (some (Int.tmod a0 a1))))=some r:=h
 clear h
 by_cases c3:a1=0
 ·rw [if_pos c3] at H
  exact absurd H (by simp)
 ·rw [if_neg c3] at H
  have c3b0:(a1 == 0)=false:=beq_eq_false_iff_ne.mpr c3
  have c3b1:(a1 != 0)=true:=bne_iff_ne.mpr c3
  by_cases c4:(Int.tmod a0 a1)<0
  ·rw [if_pos c4] at H
   have c4b0:decide ((Int.tmod a0 a1)<0)=true:=decide_eq_true c4
   clear c4
   obtain rfl:=Option.some.inj H
   go_enter Tryz.func70,Tryz.ntmps70
   go_wp2
   go_ret
   exact ⟨by first|rfl|(simp;done)|(simp [*];done)|(simp;exact (fun l_:List UInt8 => by cases l_ <;> rfl:∀ l_:List UInt8,l_.isEmpty=!(l_ != [])) _),by repeat (first|exact Drawn0.refl _|apply Drawn0.step)⟩
  ·rw [if_neg c4] at H
   have c4b0:decide ((Int.tmod a0 a1)<0)=false:=decide_eq_false c4
   clear c4
   obtain rfl:=Option.some.inj H
   go_enter Tryz.func70,Tryz.ntmps70
   go_wp2
   go_ret
   exact ⟨by first|rfl|(simp;done)|(simp [*];done)|(simp;exact (fun l_:List UInt8 => by cases l_ <;> rfl:∀ l_:List UInt8,l_.isEmpty=!(l_ != [])) _),by repeat (first|exact Drawn0.refl _|apply Drawn0.step)⟩
def transhumancelaw4_Make.l0:Nat→Int→List ByteArray→ByteArray→Int→Option (ByteArray)
 | 0,_,_,_,_ => none
 | k+1,x3,x4,x5,x6 => if x6 > 0 then (if x5.size+1≤9223372036854775807 then (if 0≤(Int.tmod (wrap64 (Int.tdiv x3 4)) 11) then (if (Int.tmod (wrap64 (Int.tdiv x3 4)) 11)<(x4.length:Int) then (if (x5++(⟨#[47]⟩:ByteArray)).size+(rdOf ByteArray.empty x4 (Int.tmod (wrap64 (Int.tdiv x3 4)) 11)).size≤9223372036854775807 then (transhumancelaw4_Make.l0 k (wrap64 (Int.tdiv x3 4)) x4 ((x5++(⟨#[47]⟩:ByteArray))++(rdOf ByteArray.empty x4 (Int.tmod (wrap64 (Int.tdiv x3 4)) 11))) (wrap64 (x6 - 1))) else (none)) else (none)) else (none)) else (none)) else (if (x5.size:Int) > 40 then (some (⟨#[97,47,98]⟩:ByteArray)) else (some x5))
def transhumancelaw4_Make.f (k:Nat) (a0:Int):Option (ByteArray):=(transhumancelaw4_within.f a0 1099511627776).bind fun t154 => ((some (([(⟨#[97]⟩:ByteArray),(⟨#[98]⟩:ByteArray),(⟨#[97,46,98]⟩:ByteArray),(⟨#[99,45,100]⟩:ByteArray),(⟨#[118,50]⟩:ByteArray),(⟨#[118,51]⟩:ByteArray),(⟨#[118,49]⟩:ByteArray),(⟨#[118,48,50]⟩:ByteArray),(⟨#[95]⟩:ByteArray),(⟨#[108,105,98]⟩:ByteArray),(⟨#[118,50,48]⟩:ByteArray)]:List ByteArray):List ByteArray)).bind fun y155 => (if 0≤(Int.tmod t154 11) then (if (Int.tmod t154 11)<(y155.length:Int) then (transhumancelaw4_Make.l0 k (wrap64 (Int.tdiv t154 11)) y155 (rdOf ByteArray.empty y155 (Int.tmod t154 11)) (Int.tmod (wrap64 (Int.tdiv t154 11)) 4)) else (none)) else (none)))
set_option maxHeartbeats 8000000 in
set_option maxRecDepth 100000 in
theorem transhumancelaw4_Make.calls (k:Nat) (a0:Int) (r:ByteArray) (w:World) (h:transhumancelaw4_Make.f k a0=some r) :
  Calls Tryz.prog 41 #[.int .i64 a0] w fun e w' => e=.returned (.string r)∧Below w.heap.size w w':=by
 have HB:=Aside0.mk (Below.refl w.heap.size w)
 have H:((transhumancelaw4_within.f a0 1099511627776).bind fun t154 => ((some (([(⟨#[97]⟩:ByteArray),(⟨#[98]⟩:ByteArray),(⟨#[97,46,98]⟩:ByteArray),(⟨#[99,45,100]⟩:ByteArray),(⟨#[118,50]⟩:ByteArray),(⟨#[118,51]⟩:ByteArray),(⟨#[118,49]⟩:ByteArray),(⟨#[118,48,50]⟩:ByteArray),(⟨#[95]⟩:ByteArray),(⟨#[108,105,98]⟩:ByteArray),(⟨#[118,50,48]⟩:ByteArray)]:List ByteArray):List ByteArray)).bind fun y155 => (if 0≤(Int.tmod t154 11) then (if (Int.tmod t154 11)<(y155.length:Int) then (transhumancelaw4_Make.l0 k (wrap64 (Int.tdiv t154 11)) y155 (rdOf ByteArray.empty y155 (Int.tmod t154 11)) (Int.tmod (wrap64 (Int.tdiv t154 11)) 4)) else (none)) else (none))))=some r:=h
 clear h
 replace H:=Option.bind_eq_some_iff.mp H
 obtain ⟨t154,A20,H⟩:=H
 replace H:((some (([(⟨#[97]⟩:ByteArray),(⟨#[98]⟩:ByteArray),(⟨#[97,46,98]⟩:ByteArray),(⟨#[99,45,100]⟩:ByteArray),(⟨#[118,50]⟩:ByteArray),(⟨#[118,51]⟩:ByteArray),(⟨#[118,49]⟩:ByteArray),(⟨#[118,48,50]⟩:ByteArray),(⟨#[95]⟩:ByteArray),(⟨#[108,105,98]⟩:ByteArray),(⟨#[118,50,48]⟩:ByteArray)]:List ByteArray):List ByteArray)).bind fun y155 => (if 0≤(Int.tmod t154 11) then (if (Int.tmod t154 11)<(y155.length:Int) then (transhumancelaw4_Make.l0 k (wrap64 (Int.tdiv t154 11)) y155 (rdOf ByteArray.empty y155 (Int.tmod t154 11)) (Int.tmod (wrap64 (Int.tdiv t154 11)) 4)) else (none)) else (none)))=some r:=H
 have A2:=Aside0.mk A20
 clear A20
 obtain ⟨y155,hy155⟩:∃ y_:List ByteArray,y_=(([(⟨#[97]⟩:ByteArray),(⟨#[98]⟩:ByteArray),(⟨#[97,46,98]⟩:ByteArray),(⟨#[99,45,100]⟩:ByteArray),(⟨#[118,50]⟩:ByteArray),(⟨#[118,51]⟩:ByteArray),(⟨#[118,49]⟩:ByteArray),(⟨#[118,48,50]⟩:ByteArray),(⟨#[95]⟩:ByteArray),(⟨#[108,105,98]⟩:ByteArray),(⟨#[118,50,48]⟩:ByteArray)]:List ByteArray)):=⟨_,rfl⟩
 replace H:(if 0≤(Int.tmod t154 11) then (if (Int.tmod t154 11)<(y155.length:Int) then (transhumancelaw4_Make.l0 k (wrap64 (Int.tdiv t154 11)) y155 (rdOf ByteArray.empty y155 (Int.tmod t154 11)) (Int.tmod (wrap64 (Int.tdiv t154 11)) 4)) else (none)) else (none))=some r:=by first|(rw [hy155];with_reducible exact H)|(have H2_:=(Option.bind_some _ _).symm.trans H;rw [hy155];with_reducible exact H2_)|(have H2_:=(Option.bind_some _ _).symm.trans H;with_reducible exact H2_)|with_reducible exact H|(rw [hy155];exact H)|exact H
 have Ny155:=Aside0.mk hy155
 clear hy155
 obtain ⟨ji3,hji3⟩:∃ j_:Int,(Int.tmod t154 11)=j_:=⟨_,rfl⟩
 replace H:(if 0≤(ji3) then (if (ji3)<(y155.length:Int) then (transhumancelaw4_Make.l0 k (wrap64 (Int.tdiv t154 11)) y155 (rdOf ByteArray.empty y155 (ji3)) (Int.tmod (wrap64 (Int.tdiv t154 11)) 4)) else (none)) else (none))=some r:=by first|(rw [hji3] at H;exact H)|(simp only [hji3] at H ⊢;exact H)
 (try rw [hji3] at A2)
 by_cases c4:0≤(ji3)
 ·rw [if_pos c4] at H
  have c4b0:decide (0≤(ji3))=true:=decide_eq_true c4
  clear c4
  by_cases c5:(ji3)<(y155.length:Int)
  ·rw [if_pos c5] at H
   have c5b0:decide ((ji3)<(y155.length:Int))=true:=decide_eq_true c5
   clear c5
   have H':=Aside0.mk H
   clear H
   go_enter Tryz.func41,Tryz.ntmps41
   go_wp2_with (first|((with_reducible refine gate_callee (f:=70) rfl ?_);refine goesL_ (some 8) rfl rfl Tryz.func70 (by kernel_rfl) rfl #[.int .i64 a0,.int .i64 1099511627776] rfl (by (try simp only [List.map_toArray,List.map_cons,List.map_nil]);first|done|rfl|(simp only [List.length_drop,List.length_take];rfl)) ?_;(with_reducible refine (transhumancelaw4_within.calls a0 1099511627776 t154 _ A2.out).mono ?_);rintro e w' ⟨rfl,⟨nd,rfl⟩⟩;refine ⟨_,rfl,?_⟩)|((with_reducible refine gate_dst (N:=9) rfl ?_);refine Kd.R_lit Kd.string _ 9 ?hg (N:=9) ?hd (xs:=([(⟨#[97]⟩:ByteArray),(⟨#[98]⟩:ByteArray),(⟨#[97,46,98]⟩:ByteArray),(⟨#[99,45,100]⟩:ByteArray),(⟨#[118,50]⟩:ByteArray),(⟨#[118,51]⟩:ByteArray),(⟨#[118,49]⟩:ByteArray),(⟨#[118,48,50]⟩:ByteArray),(⟨#[95]⟩:ByteArray),(⟨#[108,105,98]⟩:ByteArray),(⟨#[118,50,48]⟩:ByteArray)]:List ByteArray)) (inner:=[.string (⟨#[97]⟩:ByteArray),.string (⟨#[98]⟩:ByteArray),.string (⟨#[97,46,98]⟩:ByteArray),.string (⟨#[99,45,100]⟩:ByteArray),.string (⟨#[118,50]⟩:ByteArray),.string (⟨#[118,51]⟩:ByteArray),.string (⟨#[118,49]⟩:ByteArray),.string (⟨#[118,48,50]⟩:ByteArray),.string (⟨#[95]⟩:ByteArray),.string (⟨#[108,105,98]⟩:ByteArray),.string (⟨#[118,50,48]⟩:ByteArray)]) (ok:=fun _ => True) (okp:=fun _ => True) ?hr ?hp (fun _ hk => hk) trivial (Below.refl _ _) (Nat.le_refl _) (by simp) ?_;(case hd => rfl);(case hg => rfl);(case hr => first|(go_simp;done)|(go_simp;rfl));(case hp => exact (Reps.one (show Kd.M Kd.string _ _ _ (⟨#[97]⟩:ByteArray) [.string (⟨#[97]⟩:ByteArray)] from rfl) (Reps.one (show Kd.M Kd.string _ _ _ (⟨#[98]⟩:ByteArray) [.string (⟨#[98]⟩:ByteArray)] from rfl) (Reps.one (show Kd.M Kd.string _ _ _ (⟨#[97,46,98]⟩:ByteArray) [.string (⟨#[97,46,98]⟩:ByteArray)] from rfl) (Reps.one (show Kd.M Kd.string _ _ _ (⟨#[99,45,100]⟩:ByteArray) [.string (⟨#[99,45,100]⟩:ByteArray)] from rfl) (Reps.one (show Kd.M Kd.string _ _ _ (⟨#[118,50]⟩:ByteArray) [.string (⟨#[118,50]⟩:ByteArray)] from rfl) (Reps.one (show Kd.M Kd.string _ _ _ (⟨#[118,51]⟩:ByteArray) [.string (⟨#[118,51]⟩:ByteArray)] from rfl) (Reps.one (show Kd.M Kd.string _ _ _ (⟨#[118,49]⟩:ByteArray) [.string (⟨#[118,49]⟩:ByteArray)] from rfl) (Reps.one (show Kd.M Kd.string _ _ _ (⟨#[118,48,50]⟩:ByteArray) [.string (⟨#[118,48,50]⟩:ByteArray)] from rfl) (Reps.one (show Kd.M Kd.string _ _ _ (⟨#[95]⟩:ByteArray) [.string (⟨#[95]⟩:ByteArray)] from rfl) (Reps.one (show Kd.M Kd.string _ _ _ (⟨#[108,105,98]⟩:ByteArray) [.string (⟨#[108,105,98]⟩:ByteArray)] from rfl) (Reps.one (show Kd.M Kd.string _ _ _ (⟨#[118,50,48]⟩:ByteArray) [.string (⟨#[118,50,48]⟩:ByteArray)] from rfl) (Reps.none _ _)))))))))))));intro v156 w6 ho7 hb hg_ hnew_;clear hg_ hnew_;(first|rw [← Ny155.out] at ho7|(simp only [Int.reduceToNat] at ho7;rw [← Ny155.out] at ho7));have n0_:=Aside0.mk (Kd.R_lower ho7 (below_size (by repeat (first|(with_reducible first|exact HB.out|apply below_alloc|apply pw_below_drewN|apply below_drew1)|exact HB.out))));have n1_:=Aside0.mk (below_step (by repeat (first|(with_reducible first|exact HB.out|apply below_alloc|apply pw_below_drewN|apply below_drew1)|exact HB.out)) hb);clear HB;have HO157:=n0_;have HB:=n1_;clear n0_ n1_;clear hb ho7;obtain ⟨Ao8,co8,eo8⟩:=Kd.R_slice HO157.out;subst eo8;have p158:0≤((ji3):Int):=of_decide_eq_true (by first|(with_reducible assumption)|assumption);have q158:(ji3)<(y155.length:Int):=of_decide_eq_true (by first|(with_reducible assumption)|assumption);obtain ⟨ad158,e158,hx158_0⟩:=Kd.at_string (Kd.R_reads' HO157.out).2.2 (ji3) p158 q158;cases e158;replace p158:=eq_true p158;replace q158:=eq_true q158))
   go_loopg [3,5,6] k (fun kq v3 v5 v6 w' => ∃ (x3_1:Int) (x5_1:ByteArray) (x6_1:Int),v3=.int .i64 x3_1∧v5=.string x5_1∧v6=.int .i64 x6_1∧Aside0 (transhumancelaw4_Make.l0 kq x3_1 y155 x5_1 x6_1=some r)∧Aside0 (kq≤k)∧Aside0 (Kd.R Kd.string 9 w' w.heap.size (fun _ => True) (.slice (some ad158) y155.length co8) y155)∧Aside0 (Below w.heap.size w w'))
   case atStart => exact ⟨(wrap64 (Int.tdiv t154 11)),(rdOf ByteArray.empty y155 (ji3)),(Int.tmod (wrap64 (Int.tdiv t154 11)) 4),(by first|rfl|(simp;done)|(simp [*];done)|(simp;exact (fun l_:List UInt8 => by cases l_ <;> rfl:∀ l_:List UInt8,l_.isEmpty=!(l_ != [])) _)),(by first|rfl|(simp;done)|(simp only [← hji3] <;> (first|rfl|(simp;done)|(simp [*];done)|(simp_all;done)))|(simp [*];done)|(simp;exact (fun l_:List UInt8 => by cases l_ <;> rfl:∀ l_:List UInt8,l_.isEmpty=!(l_ != [])) _)),(by first|rfl|(simp;done)|(simp [*];done)|(simp;exact (fun l_:List UInt8 => by cases l_ <;> rfl:∀ l_:List UInt8,l_.isEmpty=!(l_ != [])) _)),H',⟨Nat.le_refl _⟩,⟨by (with_reducible repeat (first|apply Kd.R_alloc|apply Kd.R_drewN|apply Kd.R_drew));exact HO157.out⟩,⟨by repeat (first|(with_reducible first|exact HB.out|apply below_alloc|apply pw_below_drewN|apply below_drew1)|exact HB.out)⟩⟩
   case round =>
    clear H'
    try clear p1
    try clear q1
    try clear hx1
    try clear p2
    try clear c4
    try clear c4b0
    try clear c5
    try clear c5b0
    try clear p6
    try clear c7
    try clear hx158_0
    try clear p158
    try clear q158
    obtain ⟨x3_1,x5_1,x6_1,rfl,rfl,rfl,HA,HK1,HO_4,HB⟩:=hrel
    cases gk with
    | zero => exact absurd HA.out (by simp [transhumancelaw4_Make.l0])
    | succ k1 =>
     have H:=HA.out
     clear HA
     simp only [transhumancelaw4_Make.l0] at H
     by_cases c9:x6_1 > 0
     ·rw [if_pos c9] at H
      have c9b0:decide (0<x6_1)=true:=decide_eq_true c9
      clear c9
      by_cases c10:x5_1.size+1≤9223372036854775807
      ·rw [if_pos c10] at H
       have c10b0:=eq_true c10
       have c10b1:decide (x5_1.size+1≤9223372036854775807)=true:=decide_eq_true c10
       try have c10b2:(9223372036854775807<x5_1.size+1)=False:=eq_false (Nat.not_lt.2 c10)
       obtain ⟨ji11,hji11⟩:∃ j_:Int,(Int.tmod (wrap64 (Int.tdiv x3_1 4)) 11)=j_:=⟨_,rfl⟩
       replace H:(if 0≤(ji11) then (if (ji11)<(y155.length:Int) then (if (x5_1++(⟨#[47]⟩:ByteArray)).size+(rdOf ByteArray.empty y155 (ji11)).size≤9223372036854775807 then (transhumancelaw4_Make.l0 k1 (wrap64 (Int.tdiv x3_1 4)) y155 ((x5_1++(⟨#[47]⟩:ByteArray))++(rdOf ByteArray.empty y155 (ji11))) (wrap64 (x6_1 - 1))) else (none)) else (none)) else (none))=some r:=by first|(rw [hji11] at H;exact H)|(simp only [hji11] at H ⊢;exact H)
       by_cases c12:0≤(ji11)
       ·rw [if_pos c12] at H
        have c12b0:decide (0≤(ji11))=true:=decide_eq_true c12
        clear c12
        by_cases c13:(ji11)<(y155.length:Int)
        ·rw [if_pos c13] at H
         have c13b0:decide ((ji11)<(y155.length:Int))=true:=decide_eq_true c13
         clear c13
         by_cases c14:(x5_1++(⟨#[47]⟩:ByteArray)).size+(rdOf ByteArray.empty y155 (ji11)).size≤9223372036854775807
         ·rw [if_pos c14] at H
          have c14b0:=eq_true c14
          have c14b1:decide ((x5_1++(⟨#[47]⟩:ByteArray)).size+(rdOf ByteArray.empty y155 (ji11)).size≤9223372036854775807)=true:=decide_eq_true c14
          try have c14b4:(9223372036854775807<x5_1.size+1+(rdOf ByteArray.empty y155 (ji11)).size)=False:=eq_false (by have h_:=c14;(try simp only [ByteArray.size_append] at h_);first|omega|(simp [go_sem] at h_;omega))
          try have c14b2:(9223372036854775807<(x5_1++(⟨#[47]⟩:ByteArray)).size+(rdOf ByteArray.empty y155 (ji11)).size)=False:=eq_false (Nat.not_lt.2 c14)
          have H':=Aside0.mk H
          clear H
          have p159:0≤((ji11):Int):=of_decide_eq_true (by first|(with_reducible assumption)|assumption)
          have q159:(ji11)<(y155.length:Int):=of_decide_eq_true (by first|(with_reducible assumption)|assumption)
          obtain ⟨ad159,e159,hx159_0⟩:=Kd.at_string (Kd.R_reads' HO_4.out).2.2 (ji11) p159 q159
          obtain rfl:ad158=ad159:=(by injection e159)
          replace p159:=eq_true p159
          replace q159:=eq_true q159
          go_wp2
          go_roundg k1
          case measure => have:=HK1.out;omega
          case rel => exact ⟨(wrap64 (Int.tdiv x3_1 4)),((x5_1++(⟨#[47]⟩:ByteArray))++(rdOf ByteArray.empty y155 (ji11))),(wrap64 (x6_1 - 1)),(by first|rfl|(simp;done)|(simp [*];done)|(simp;exact (fun l_:List UInt8 => by cases l_ <;> rfl:∀ l_:List UInt8,l_.isEmpty=!(l_ != [])) _)),(by first|rfl|(simp;done)|(simp only [← hji11] <;> (first|rfl|(simp;done)|(simp [*];done)|(simp_all;done)))|(simp [*];done)|(simp;exact (fun l_:List UInt8 => by cases l_ <;> rfl:∀ l_:List UInt8,l_.isEmpty=!(l_ != [])) _)),(by first|rfl|(simp;done)|(simp [*];done)|(simp;exact (fun l_:List UInt8 => by cases l_ <;> rfl:∀ l_:List UInt8,l_.isEmpty=!(l_ != [])) _)),H',⟨by have:=HK1.out;omega⟩,⟨by (with_reducible repeat (first|apply Kd.R_alloc|apply Kd.R_drewN|apply Kd.R_drew));exact HO_4.out⟩,⟨by repeat (first|(with_reducible first|exact HB.out|apply below_alloc|apply pw_below_drewN|apply below_drew1)|exact HB.out)⟩⟩
         ·rw [if_neg c14] at H
          exact absurd H (by simp)
        ·rw [if_neg c13] at H
         exact absurd H (by simp)
       ·rw [if_neg c12] at H
        exact absurd H (by simp)
      ·rw [if_neg c10] at H
       exact absurd H (by simp)
     ·rw [if_neg c9] at H
      have c9b0:decide (0<x6_1)=false:=decide_eq_false c9
      clear c9
      by_cases c15:(x5_1.size:Int) > 40
      ·rw [if_pos c15] at H
       have c15b0:decide (40<(x5_1.size:Int))=true:=decide_eq_true c15
       have c15b1:decide (40<x5_1.size)=true:=decide_eq_true (by omega)
       clear c15
       obtain rfl:=Option.some.inj H
       go_wp2
       go_ret
       exact ⟨by first|rfl|(simp [errW_none,errW_some] <;> rfl)|(simp only [← hji3];first|rfl|(simp [errW_none,errW_some] <;> rfl))|(simp [*,errW_none,errW_some] <;> rfl),by repeat (first|(with_reducible first|exact HB.out|apply below_alloc|apply pw_below_drewN|apply below_drew1)|exact HB.out)⟩
      ·rw [if_neg c15] at H
       have c15b0:decide (40<(x5_1.size:Int))=false:=decide_eq_false c15
       have c15b1:decide (40<x5_1.size)=false:=decide_eq_false (by omega)
       clear c15
       obtain rfl:=Option.some.inj H
       go_wp2
       go_ret
       exact ⟨by first|rfl|(simp [errW_none,errW_some] <;> rfl)|(simp only [← hji3];first|rfl|(simp [errW_none,errW_some] <;> rfl))|(simp [*,errW_none,errW_some] <;> rfl),by repeat (first|(with_reducible first|exact HB.out|apply below_alloc|apply pw_below_drewN|apply below_drew1)|exact HB.out)⟩
  ·rw [if_neg c5] at H
   exact absurd H (by simp)
 ·rw [if_neg c4] at H
  exact absurd H (by simp)
def transhumanceref1_Digits.f:Nat→Int→Option (ByteArray)
 | 0,_ => none
 | k+1,a0 => if a0 ≥ 10 then ((transhumanceref1_Digits.f k (wrap64 (Int.tdiv a0 10))).bind fun t160 => ((transhumanceref1_Digits.f k (Int.tmod a0 10)).bind fun t161 => (if t160.size+t161.size≤9223372036854775807 then (some (t160++t161)) else (none)))) else (some (strOfNums (([(wrap64 (48+a0)) % 256]:List Int))))
set_option maxHeartbeats 8000000 in
set_option maxRecDepth 100000 in
theorem transhumanceref1_Digits.calls (k:Nat):∀ (a0:Int) (r:ByteArray) (w:World) (h:transhumanceref1_Digits.f k a0=some r),
  Calls Tryz.prog 71 #[.int .i64 a0] w fun e w' => e=.returned (.string r)∧Below w.heap.size w w':=by
 induction k using Nat.strongRecOn with
 | _ k ih =>
 intro a0 r w h
 cases k with
 | zero => exact absurd h (by simp [transhumanceref1_Digits.f])
 | succ k =>
 simp only [transhumanceref1_Digits.f] at h
 have HB:=Aside0.mk (Below.refl w.heap.size w)
 have H:(if a0 ≥ 10 then ((transhumanceref1_Digits.f k (wrap64 (Int.tdiv a0 10))).bind fun t160 => ((transhumanceref1_Digits.f k (Int.tmod a0 10)).bind fun t161 => (if t160.size+t161.size≤9223372036854775807 then (some (t160++t161)) else (none)))) else (some (strOfNums (([(wrap64 (48+a0)) % 256]:List Int)))))=some r:=h
 clear h
 by_cases c2:a0 ≥ 10
 ·rw [if_pos c2] at H
  have c2b0:decide (10≤a0)=true:=decide_eq_true c2
  clear c2
  replace H:=Option.bind_eq_some_iff.mp H
  obtain ⟨t160,A30,H⟩:=H
  replace H:((transhumanceref1_Digits.f k (Int.tmod a0 10)).bind fun t161 => (if t160.size+t161.size≤9223372036854775807 then (some (t160++t161)) else (none)))=some r:=H
  have A3:=Aside0.mk A30
  clear A30
  replace H:=Option.bind_eq_some_iff.mp H
  obtain ⟨t161,A40,H⟩:=H
  replace H:(if t160.size+t161.size≤9223372036854775807 then (some (t160++t161)) else (none))=some r:=H
  have A4:=Aside0.mk A40
  clear A40
  by_cases c5:t160.size+t161.size≤9223372036854775807
  ·rw [if_pos c5] at H
   have c5b0:=eq_true c5
   have c5b1:decide (t160.size+t161.size≤9223372036854775807)=true:=decide_eq_true c5
   try have c5b2:(9223372036854775807<t160.size+t161.size)=False:=eq_false (Nat.not_lt.2 c5)
   obtain rfl:=Option.some.inj H
   go_enter Tryz.func71,Tryz.ntmps71
   go_wp2_with (first|((with_reducible refine gate_callee (f:=71) rfl ?_);refine goesL_ (some 7) rfl rfl Tryz.func71 (by kernel_rfl) rfl #[.int .i64 (wrap64 (Int.tdiv a0 10))] rfl (by (try simp only [List.map_toArray,List.map_cons,List.map_nil]);first|done|rfl|(simp only [List.length_drop,List.length_take];rfl)) ?_;(with_reducible refine (ih k (by omega) (wrap64 (Int.tdiv a0 10)) t160 _ A3.out).mono ?_);rintro e w6 ⟨rfl,hb⟩;refine ⟨_,rfl,?_⟩;have n0_:=Aside0.mk (below_step (by repeat (first|(with_reducible first|exact HB.out|apply below_alloc|apply pw_below_drewN|apply below_drew1)|exact HB.out)) hb);clear HB;have HB:=n0_;clear n0_;(try clear hb);(try clear hb2);(try clear hk);(try clear hi))|((with_reducible refine gate_callee (f:=71) rfl ?_);refine goesL_ (some 10) rfl rfl Tryz.func71 (by kernel_rfl) rfl #[.int .i64 (Int.tmod a0 10)] rfl (by (try simp only [List.map_toArray,List.map_cons,List.map_nil]);first|done|rfl|(simp only [List.length_drop,List.length_take];rfl)) ?_;(with_reducible refine (ih k (by omega) (Int.tmod a0 10) t161 _ A4.out).mono ?_);rintro e w7 ⟨rfl,hb⟩;refine ⟨_,rfl,?_⟩;have n0_:=Aside0.mk (below_step (by repeat (first|(with_reducible first|exact HB.out|apply below_alloc|apply pw_below_drewN|apply below_drew1)|exact HB.out)) hb);clear HB;have HB:=n0_;clear n0_;(try clear hb);(try clear hb2);(try clear hk);(try clear hi)))
   go_ret
   exact ⟨by first|rfl|(simp [errW_none,errW_some] <;> rfl)|(simp [*,errW_none,errW_some] <;> rfl),by repeat (first|(with_reducible first|exact HB.out|apply below_alloc|apply pw_below_drewN|apply below_drew1)|exact HB.out)⟩
  ·rw [if_neg c5] at H
   exact absurd H (by simp)
 ·rw [if_neg c2] at H
  have c2b0:decide (10≤a0)=false:=decide_eq_false c2
  clear c2
  obtain ⟨y162,hy162⟩:∃ y_:List Int,y_=(([(wrap64 (48+a0)) % 256]:List Int)):=⟨_,rfl⟩
  replace H:(some (strOfNums y162))=some r:=by first|(rw [hy162];with_reducible exact H)|(have H2_:=(Option.bind_some _ _).symm.trans H;rw [hy162];with_reducible exact H2_)|(have H2_:=(Option.bind_some _ _).symm.trans H;with_reducible exact H2_)|with_reducible exact H|(rw [hy162];exact H)|exact H
  have Ny162:=Aside0.mk hy162
  clear hy162
  obtain rfl:=Option.some.inj H
  go_enter Tryz.func71,Tryz.ntmps71
  go_wp2_with (first|((with_reducible refine gate_dst (N:=15) rfl ?_);refine Kd.R_lit (Kd.int .u8) _ 5 ?hg (N:=15) ?hd (xs:=([(wrap64 (48+a0)) % 256]:List Int)) (inner:=[.int .u8 ((wrap64 (48+a0)) % 256)]) (ok:=fun _ => True) (okp:=fun _ => True) ?hr ?hp (fun _ hk => hk) trivial (Below.refl _ _) (Nat.le_refl _) (by simp) ?_;(case hd => rfl);(case hg => rfl);(case hr => first|(go_simp;done)|(go_simp;rfl));(case hp => exact (Reps.one (show Kd.M (Kd.int .u8) _ _ _ ((wrap64 (48+a0)) % 256) [.int .u8 ((wrap64 (48+a0)) % 256)] from rfl) (Reps.none _ _)));intro v163 w8 ho9 hb hg_ hnew_;clear hg_ hnew_;(first|rw [← Ny162.out] at ho9|(simp only [Int.reduceToNat] at ho9;rw [← Ny162.out] at ho9));have n0_:=Aside0.mk (Kd.R_lower ho9 (below_size (by repeat (first|(with_reducible first|exact HB.out|apply below_alloc|apply pw_below_drewN|apply below_drew1)|exact HB.out))));have n1_:=Aside0.mk (below_step (by repeat (first|(with_reducible first|exact HB.out|apply below_alloc|apply pw_below_drewN|apply below_drew1)|exact HB.out)) hb);clear HB;have HO164:=n0_;have HB:=n1_;clear n0_ n1_;clear hb ho9;have hcv10:=own_string (P:=Tryz.prog) Tryz.underlying23 Tryz.underlying5 Tryz.underlying9 (Kd.own_of_R HO164.out)))
  go_ret
  exact ⟨by first|rfl|(simp [errW_none,errW_some] <;> rfl)|(simp [*,errW_none,errW_some] <;> rfl),by repeat (first|(with_reducible first|exact HB.out|apply below_alloc|apply pw_below_drewN|apply below_drew1)|exact HB.out)⟩
end Go.Proofs.YtjdjljgbfpkbdaaGreatDoor.Q
