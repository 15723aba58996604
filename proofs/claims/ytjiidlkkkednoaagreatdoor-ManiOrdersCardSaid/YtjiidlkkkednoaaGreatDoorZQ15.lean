import Derived.Test.YtjiidlkkkednoaaGreatDoorZBaseg
import Derived.Test.YtjiidlkkkednoaaGreatDoorZVmg
import Derived.Test.YtjiidlkkkednoaaGreatDoorZQ11g
import Derived.Test.YtjiidlkkkednoaaGreatDoorZQ12
import Derived.Test.YtjiidlkkkednoaaGreatDoorZQ14g
namespace Go.Proofs.YtjiidlkkkednoaaGreatDoor.Q
open Go.RowKit Go.Proofs.YtjiidlkkkednoaaGreatDoorW.PrintWords Go.Proofs.YtjiidlkkkednoaaGreatDoorW.PrintLast Go.Proofs.YtjiidlkkkednoaaGreatDoorW.PrintMore
attribute [local go_sem] max2_int min2_int max_two min_two max_three min_three max_four min_four
set_option linter.unusedVariables false
set_option linter.unusedSimpArgs false
def transhumanceref4_Major.j0:Nat→ByteArray→ByteArray→Bool→Option (ByteArray × Int)
 | 0,_,_,_ => none
 | k+1,x0,x5,x27 => if x27=true then (some (x0,0)) else (if 1≤(x5.size:Int) then ((transhumanceref1_Number.f k (x5.extract 1 x5.size)).bind fun bt178 => (if bt178.2=true then (if bt178.1<2 then (some (x0,0)) else (if bt178.1 > 999999 then (some (x0,0)) else (if 0≤(wrap64 ((wrap64 ((x0.size:Int) - (x5.size:Int))) - 1)) then (if (wrap64 ((wrap64 ((x0.size:Int) - (x5.size:Int))) - 1))≤(x0.size:Int) then (some (x0.extract 0 ((wrap64 ((wrap64 ((x0.size:Int) - (x5.size:Int))) - 1)):Int).toNat,bt178.1)) else (none)) else (none)))) else (some (x0,0)))) else (none))
def transhumanceref4_Major.f (k:Nat) (a0:ByteArray):Option (ByteArray × Int):=(transhumanceref4_words.f k a0).bind fun t174 => (if 0≤(wrap64 ((t174.length:Int) - 1)) then (if (wrap64 ((t174.length:Int) - 1))<(t174.length:Int) then (if (t174.length:Int)<2 then (transhumanceref4_Major.j0 k a0 (rdOf ByteArray.empty t174 (wrap64 ((t174.length:Int) - 1))) true) else (if (rdOf ByteArray.empty t174 (wrap64 ((t174.length:Int) - 1))).toList=([]:List UInt8) then (transhumanceref4_Major.j0 k a0 (rdOf ByteArray.empty t174 (wrap64 ((t174.length:Int) - 1))) true) else (if 0<((rdOf ByteArray.empty t174 (wrap64 ((t174.length:Int) - 1))).size:Int) then (transhumanceref4_Major.j0 k a0 (rdOf ByteArray.empty t174 (wrap64 ((t174.length:Int) - 1))) ((bt (rdOf ByteArray.empty t174 (wrap64 ((t174.length:Int) - 1))) 0) != 118)) else (none)))) else (none)) else (none))
theorem transhumanceref4_Major.mono_l:∀ k,(∀ y0 y1 y2,LeO (transhumanceref4_Major.j0 k y0 y1 y2) (transhumanceref4_Major.j0 (k+1) y0 y1 y2))
 | 0 => fun _ _ _ r h => by simp [transhumanceref4_Major.j0] at h
 | k+1 => by
  have ih0:=transhumanceref4_Major.mono_l k
  ·intro y0 y1 y2
   unfold transhumanceref4_Major.j0
   repeat' first
   | (with_reducible exact ih0 _ _ _)
   | (with_reducible exact transhumanceref1_Number.mono _ _)
   | (with_reducible exact transhumanceref4_words.mono _ _)
   | (with_reducible exact LeO.refl _)
   | (with_reducible exact LeO.none _)
   | (with_reducible refine LeO.ite ?_ ?_)
   | (with_reducible refine LeO.bind ?_ (fun _ => ?_))
   | exact ih0 _ _ _
   | exact transhumanceref1_Number.mono _ _
   | exact transhumanceref4_words.mono _ _
   | exact LeO.none _
   | refine LeO.ite ?_ ?_
   | refine LeO.bind ?_ (fun _ => ?_)
theorem transhumanceref4_Major.mono:∀ a0 k,LeO (transhumanceref4_Major.f k a0) (transhumanceref4_Major.f (k+1) a0):=by
 intro a0 k
 have ih0:=transhumanceref4_Major.mono_l k
 unfold transhumanceref4_Major.f
 repeat' first
   | (with_reducible exact ih0 _ _ _)
   | (with_reducible exact transhumanceref1_Number.mono _ _)
   | (with_reducible exact transhumanceref4_words.mono _ _)
   | (with_reducible exact LeO.refl _)
   | (with_reducible exact LeO.none _)
   | (with_reducible refine LeO.ite ?_ ?_)
   | (with_reducible refine LeO.bind ?_ (fun _ => ?_))
   | exact ih0 _ _ _
   | exact transhumanceref1_Number.mono _ _
   | exact transhumanceref4_words.mono _ _
   | exact LeO.none _
   | refine LeO.ite ?_ ?_
   | refine LeO.bind ?_ (fun _ => ?_)
set_option maxHeartbeats 8000000 in
set_option maxRecDepth 100000 in
theorem transhumanceref4_Major.calls (k:Nat) (a0:ByteArray) (r1:ByteArray) (r2:Int) (w:World) (h:transhumanceref4_Major.f k a0=some (r1,r2)) :
  Calls Tryz.prog 79 #[.string a0] w fun e w' => e=.returned (.tuple #[.string r1,.int .i64 r2])∧Below w.heap.size w w':=by
 have HB:=Aside0.mk (Below.refl w.heap.size w)
 have H:((transhumanceref4_words.f k a0).bind fun t174 => (if 0≤(wrap64 ((t174.length:Int) - 1)) then (if (wrap64 ((t174.length:Int) - 1))<(t174.length:Int) then (if (t174.length:Int)<2 then (transhumanceref4_Major.j0 k a0 (rdOf ByteArray.empty t174 (wrap64 ((t174.length:Int) - 1))) true) else (if (rdOf ByteArray.empty t174 (wrap64 ((t174.length:Int) - 1))).toList=([]:List UInt8) then (transhumanceref4_Major.j0 k a0 (rdOf ByteArray.empty t174 (wrap64 ((t174.length:Int) - 1))) true) else (if 0<((rdOf ByteArray.empty t174 (wrap64 ((t174.length:Int) - 1))).size:Int) then (transhumanceref4_Major.j0 k a0 (rdOf ByteArray.empty t174 (wrap64 ((t174.length:Int) - 1))) ((bt (rdOf ByteArray.empty t174 (wrap64 ((t174.length:Int) - 1))) 0) != 118)) else (none)))) else (none)) else (none)))=some (r1,r2):=h
 clear h
 replace H:=Option.bind_eq_some_iff.mp H
 obtain ⟨t174,A20,H⟩:=H
 replace H:(if 0≤(wrap64 ((t174.length:Int) - 1)) then (if (wrap64 ((t174.length:Int) - 1))<(t174.length:Int) then (if (t174.length:Int)<2 then (transhumanceref4_Major.j0 k a0 (rdOf ByteArray.empty t174 (wrap64 ((t174.length:Int) - 1))) true) else (if (rdOf ByteArray.empty t174 (wrap64 ((t174.length:Int) - 1))).toList=([]:List UInt8) then (transhumanceref4_Major.j0 k a0 (rdOf ByteArray.empty t174 (wrap64 ((t174.length:Int) - 1))) true) else (if 0<((rdOf ByteArray.empty t174 (wrap64 ((t174.length:Int) - 1))).size:Int) then (transhumanceref4_Major.j0 k a0 (rdOf ByteArray.empty t174 (wrap64 ((t174.length:Int) - 1))) ((bt (rdOf ByteArray.empty t174 (wrap64 ((t174.length:Int) - 1))) 0) != 118)) else (none)))) else (none)) else (none))=some (r1,r2):=H
 have A2:=Aside0.mk A20
 clear A20
 obtain ⟨ji3,hji3⟩:∃ j_:Int,(wrap64 ((t174.length:Int) - 1))=j_:=⟨_,rfl⟩
 replace H:(if 0≤(ji3) then (if (ji3)<(t174.length:Int) then (if (t174.length:Int)<2 then (transhumanceref4_Major.j0 k a0 (rdOf ByteArray.empty t174 (ji3)) true) else (if (rdOf ByteArray.empty t174 (ji3)).toList=([]:List UInt8) then (transhumanceref4_Major.j0 k a0 (rdOf ByteArray.empty t174 (ji3)) true) else (if 0<((rdOf ByteArray.empty t174 (ji3)).size:Int) then (transhumanceref4_Major.j0 k a0 (rdOf ByteArray.empty t174 (ji3)) ((bt (rdOf ByteArray.empty t174 (ji3)) 0) != 118)) else (none)))) else (none)) else (none))=some (r1,r2):=by first|(rw [hji3] at H;exact H)|(simp only [hji3] at H ⊢;exact H)
 (try rw [hji3] at A2)
 have hji3w:(IntKind.i64.wrap ((t174.length:Int) - 1))=ji3:=(i64_w _).trans hji3
 by_cases c4:0≤(ji3)
 ·rw [if_pos c4] at H
  have c4b0:decide (0≤(ji3))=true:=decide_eq_true c4
  clear c4
  by_cases c5:(ji3)<(t174.length:Int)
  ·rw [if_pos c5] at H
   have c5b0:decide ((ji3)<(t174.length:Int))=true:=decide_eq_true c5
   clear c5
   have HC6:=Aside0.mk H
   clear H
   go_enter Tryz.func79,Tryz.ntmps79
   go_upto_region 3 with (first|((with_reducible refine gate_callee (f:=89) rfl ?_);refine goesL_ (some 9) rfl rfl Tryz.func89 (by kernel_rfl) rfl #[.string a0] rfl (by (try simp only [List.map_toArray,List.map_cons,List.map_nil]);first|done|rfl|(simp only [List.length_drop,List.length_take];rfl)) ?_;(with_reducible refine (transhumanceref4_words.calls k a0 t174 _ A2.out).mono ?_);rintro e w7 ⟨v175,rfl,ho0,hb⟩;refine ⟨_,rfl,?_⟩;have n0_:=Aside0.mk (Kd.R_lower ho0 (below_size (by repeat (first|(with_reducible first|exact HB.out|apply below_alloc|apply pw_below_drewN|apply below_drew1)|exact HB.out))));have n1_:=Aside0.mk (below_step (by repeat (first|(with_reducible first|exact HB.out|apply below_alloc|apply pw_below_drewN|apply below_drew1)|exact HB.out)) hb);clear HB;have HO176:=n0_;have HB:=n1_;clear n0_ n1_;(try clear hb);(try clear hb2);(try clear hk);(try clear hi);(try clear ho0);obtain ⟨Ao8,co8,eo8⟩:=Kd.R_slice HO176.out;subst eo8;have p177:0≤((ji3):Int):=of_decide_eq_true (by first|(with_reducible assumption)|assumption);have q177:(ji3)<(t174.length:Int):=of_decide_eq_true (by first|(with_reducible assumption)|assumption);obtain ⟨ad177,e177,hx177_0⟩:=Kd.at_string (Kd.R_reads' HO176.out).2.2 (ji3) p177 q177;cases e177;replace p177:=eq_true p177;replace q177:=eq_true q177))
   (try simp only [Act.put,List.setIfInBounds_toArray,List.set_cons_zero,List.set_cons_succ])
   go_cut [27] (fun v27 wc => ∃ (kq:Nat) (x27_5:Bool),v27=.bool x27_5∧Aside0 (transhumanceref4_Major.j0 kq a0 (rdOf ByteArray.empty t174 (ji3)) x27_5=some (r1,r2))∧Aside0 (kq≤k)∧Aside0 (Below w.heap.size w wc))
   case first =>
    have H:=HC6.out
    clear HC6
    by_cases c9:(t174.length:Int)<2
    ·rw [if_pos c9] at H
     have c9b0:decide ((t174.length:Int)<2)=true:=decide_eq_true c9
     have c9b1:decide (t174.length<2)=true:=decide_eq_true (by omega)
     clear c9
     (first|rw [c9b0]|(simp only [i64_w,i32_w];rw [c9b0])|skip)
     have H':=Aside0.mk H
     clear H
     go_wp2
     go_meet
     case rel => exact ⟨_,(true),(by first|rfl|(simp;done)|(simp [*];done)|(simp;exact (fun l_:List UInt8 => by cases l_ <;> rfl:∀ l_:List UInt8,l_.isEmpty=!(l_ != [])) _)),H',⟨by first|omega|exact Nat.le_refl _⟩,⟨by repeat (first|(with_reducible first|exact HB.out|apply below_alloc|apply pw_below_drewN|apply below_drew1)|exact HB.out)⟩⟩
    ·rw [if_neg c9] at H
     have c9b0:decide ((t174.length:Int)<2)=false:=decide_eq_false c9
     have c9b1:decide (t174.length<2)=false:=decide_eq_false (by omega)
     clear c9
     (first|rw [c9b0]|(simp only [i64_w,i32_w];rw [c9b0])|skip)
     by_cases c10:(rdOf ByteArray.empty t174 (ji3)).toList=([]:List UInt8)
     ·rw [if_pos c10] at H
      have c10b0:((rdOf ByteArray.empty t174 (ji3)).toList == ([]:List UInt8))=true:=beq_iff_eq.mpr c10
      have c10b1:((rdOf ByteArray.empty t174 (ji3)).toList != ([]:List UInt8))=false:=bne_eq_false_iff_eq.mpr c10
      clear c10
      have H':=Aside0.mk H
      clear H
      go_wp2
      go_meet
      case rel => exact ⟨_,(true),(by first|rfl|(simp;done)|(simp [*];done)|(simp;exact (fun l_:List UInt8 => by cases l_ <;> rfl:∀ l_:List UInt8,l_.isEmpty=!(l_ != [])) _)),H',⟨by first|omega|exact Nat.le_refl _⟩,⟨by repeat (first|(with_reducible first|exact HB.out|apply below_alloc|apply pw_below_drewN|apply below_drew1)|exact HB.out)⟩⟩
     ·rw [if_neg c10] at H
      have c10b0:((rdOf ByteArray.empty t174 (ji3)).toList == ([]:List UInt8))=false:=beq_eq_false_iff_ne.mpr c10
      have c10b1:((rdOf ByteArray.empty t174 (ji3)).toList != ([]:List UInt8))=true:=bne_iff_ne.mpr c10
      by_cases c11:0<((rdOf ByteArray.empty t174 (ji3)).size:Int)
      ·rw [if_pos c11] at H
       have c11b0:decide (0<((rdOf ByteArray.empty t174 (ji3)).size:Int))=true:=decide_eq_true c11
       have c11b1:decide (0<(rdOf ByteArray.empty t174 (ji3)).size)=true:=decide_eq_true (by omega)
       clear c11
       have H':=Aside0.mk H
       clear H
       have p12:0≤(0:Int):=(by omega)
       have q12:0<(rdOf ByteArray.empty t174 (ji3)).size:=(by have:(0:Int)<((rdOf ByteArray.empty t174 (ji3)).size:Int):=of_decide_eq_true (by first|(with_reducible assumption)|assumption);omega)
       have hx12:∀ h:0<(rdOf ByteArray.empty t174 (ji3)).size,(((rdOf ByteArray.empty t174 (ji3))[0]'h).toNat:Int)=bt (rdOf ByteArray.empty t174 (ji3)) 0:=bt_at (rdOf ByteArray.empty t174 (ji3)) 0
       clear p12
       have qi12:(0<((rdOf ByteArray.empty t174 (ji3)).size:Int))=True:=eq_true (of_decide_eq_true (by first|(with_reducible assumption)|assumption))
       replace q12:=eq_true q12
       go_wp2
       go_meet
       case rel => exact ⟨_,(((bt (rdOf ByteArray.empty t174 (ji3)) 0) != 118)),(by first|rfl|(simp;done)|(simp only [← hji3] <;> (first|rfl|(simp;done)|(simp [*];done)|(simp_all;done)))|(simp [*];done)|(simp;exact (fun l_:List UInt8 => by cases l_ <;> rfl:∀ l_:List UInt8,l_.isEmpty=!(l_ != [])) _)),H',⟨by first|omega|exact Nat.le_refl _⟩,⟨by repeat (first|(with_reducible first|exact HB.out|apply below_alloc|apply pw_below_drewN|apply below_drew1)|exact HB.out)⟩⟩
      ·rw [if_neg c11] at H
       exact absurd H (by simp)
   case rest =>
    clear HC6
    try clear c1
    try clear p1
    try clear q1
    try clear hx1
    try clear qi1
    try clear p2
    try clear c4
    try clear c4b0
    try clear c5
    try clear c5b0
    try clear p6
    try clear c7
    try clear c8
    try clear c9
    try clear c9b0
    try clear c9b1
    try clear c10
    try clear c10b0
    try clear c10b1
    try clear c11
    try clear c11b0
    try clear c11b1
    try clear p12
    try clear q12
    try clear hx12
    try clear qi12
    try clear hx177_0
    try clear p12
    try clear p177
    try clear q12
    try clear q177
    obtain ⟨kq,x27_5,rfl,HA,HJ5,HB⟩:=hcut
    cases kq with
    | zero => exact absurd HA.out (by simp [transhumanceref4_Major.j0])
    | succ kj5 =>
     have H:=HA.out
     clear HA
     simp only [transhumanceref4_Major.j0] at H
     by_cases c13:x27_5=true
     ·subst c13
      have H1:(some (a0,0))=some (r1,r2):=by rw [if_pos rfl] at H;exact H
      clear H
      have H:=H1
      clear H1
      simp only [Option.some.injEq,Prod.mk.injEq] at H
      obtain ⟨rfl,rfl⟩:=H
      go_wp2
      go_ret2
      exact ⟨by first|rfl|(simp [errW_none,errW_some] <;> rfl)|(simp only [← hji3];first|rfl|(simp [errW_none,errW_some] <;> rfl))|(simp [*,errW_none,errW_some] <;> rfl),by repeat (first|(with_reducible first|exact HB.out|apply below_alloc|apply pw_below_drewN|apply below_drew1)|exact HB.out)⟩
     ·replace c13:=Bool.eq_false_iff.mpr c13
      subst c13
      have H1:(if 1≤((rdOf ByteArray.empty t174 (ji3)).size:Int) then ((transhumanceref1_Number.f kj5 ((rdOf ByteArray.empty t174 (ji3)).extract 1 (rdOf ByteArray.empty t174 (ji3)).size)).bind fun bt178 => (if bt178.2=true then (if bt178.1<2 then (some (a0,0)) else (if bt178.1 > 999999 then (some (a0,0)) else (if 0≤(wrap64 ((wrap64 ((a0.size:Int) - ((rdOf ByteArray.empty t174 (ji3)).size:Int))) - 1)) then (if (wrap64 ((wrap64 ((a0.size:Int) - ((rdOf ByteArray.empty t174 (ji3)).size:Int))) - 1))≤(a0.size:Int) then (some (a0.extract 0 ((wrap64 ((wrap64 ((a0.size:Int) - ((rdOf ByteArray.empty t174 (ji3)).size:Int))) - 1)):Int).toNat,bt178.1)) else (none)) else (none)))) else (some (a0,0)))) else (none))=some (r1,r2):=by rw [if_neg (show ¬ (false=true) by decide)] at H;exact H
      clear H
      have H:=H1
      clear H1
      by_cases c14:1≤((rdOf ByteArray.empty t174 (ji3)).size:Int)
      ·rw [if_pos c14] at H
       have c14b0:=eq_true c14
       have c14b1:decide (1≤((rdOf ByteArray.empty t174 (ji3)).size:Int))=true:=decide_eq_true c14
       clear c14
       replace H:=Option.bind_eq_some_iff.mp H
       obtain ⟨⟨t178,t179⟩,A150,H⟩:=H
       replace H:(if t179=true then (if t178<2 then (some (a0,0)) else (if t178 > 999999 then (some (a0,0)) else (if 0≤(wrap64 ((wrap64 ((a0.size:Int) - ((rdOf ByteArray.empty t174 (ji3)).size:Int))) - 1)) then (if (wrap64 ((wrap64 ((a0.size:Int) - ((rdOf ByteArray.empty t174 (ji3)).size:Int))) - 1))≤(a0.size:Int) then (some (a0.extract 0 ((wrap64 ((wrap64 ((a0.size:Int) - ((rdOf ByteArray.empty t174 (ji3)).size:Int))) - 1)):Int).toNat,t178)) else (none)) else (none)))) else (some (a0,0)))=some (r1,r2):=H
       have A15:=Aside0.mk A150
       clear A150
       by_cases c16:t179=true
       ·subst c16
        have H1:(if t178<2 then (some (a0,0)) else (if t178 > 999999 then (some (a0,0)) else (if 0≤(wrap64 ((wrap64 ((a0.size:Int) - ((rdOf ByteArray.empty t174 (ji3)).size:Int))) - 1)) then (if (wrap64 ((wrap64 ((a0.size:Int) - ((rdOf ByteArray.empty t174 (ji3)).size:Int))) - 1))≤(a0.size:Int) then (some (a0.extract 0 ((wrap64 ((wrap64 ((a0.size:Int) - ((rdOf ByteArray.empty t174 (ji3)).size:Int))) - 1)):Int).toNat,t178)) else (none)) else (none))))=some (r1,r2):=by rw [if_pos rfl] at H;exact H
        clear H
        have H:=H1
        clear H1
        by_cases c17:t178<2
        ·rw [if_pos c17] at H
         have c17b0:decide (t178<2)=true:=decide_eq_true c17
         clear c17
         simp only [Option.some.injEq,Prod.mk.injEq] at H
         obtain ⟨rfl,rfl⟩:=H
         go_wp2_with (first|((with_reducible refine gate_callee (f:=118) rfl ?_);refine goesL_ (some 32) rfl rfl Tryz.func118 (by kernel_rfl) rfl #[.string ((rdOf ByteArray.empty t174 (ji3)).extract 1 (rdOf ByteArray.empty t174 (ji3)).size)] rfl (by (try simp only [List.map_toArray,List.map_cons,List.map_nil]);first|done|(simp only [hji3];rfl)|rfl|(simp only [List.length_drop,List.length_take];rfl)) ?_;(with_reducible refine (transhumanceref1_Number.calls kj5 ((rdOf ByteArray.empty t174 (ji3)).extract 1 (rdOf ByteArray.empty t174 (ji3)).size) t178 true _ A15.out).mono ?_);rintro e w' ⟨rfl,⟨nd,rfl⟩⟩;refine ⟨_,rfl,?_⟩))
         go_ret2
         exact ⟨by first|rfl|(simp [errW_none,errW_some] <;> rfl)|(simp only [← hji3];first|rfl|(simp [errW_none,errW_some] <;> rfl))|(simp [*,errW_none,errW_some] <;> rfl),by repeat (first|(with_reducible first|exact HB.out|apply below_alloc|apply pw_below_drewN|apply below_drew1)|exact HB.out)⟩
        ·rw [if_neg c17] at H
         have c17b0:decide (t178<2)=false:=decide_eq_false c17
         clear c17
         by_cases c18:t178 > 999999
         ·rw [if_pos c18] at H
          have c18b0:decide (999999<t178)=true:=decide_eq_true c18
          clear c18
          simp only [Option.some.injEq,Prod.mk.injEq] at H
          obtain ⟨rfl,rfl⟩:=H
          go_wp2_with (first|((with_reducible refine gate_callee (f:=118) rfl ?_);refine goesL_ (some 32) rfl rfl Tryz.func118 (by kernel_rfl) rfl #[.string ((rdOf ByteArray.empty t174 (ji3)).extract 1 (rdOf ByteArray.empty t174 (ji3)).size)] rfl (by (try simp only [List.map_toArray,List.map_cons,List.map_nil]);first|done|(simp only [hji3];rfl)|rfl|(simp only [List.length_drop,List.length_take];rfl)) ?_;(with_reducible refine (transhumanceref1_Number.calls kj5 ((rdOf ByteArray.empty t174 (ji3)).extract 1 (rdOf ByteArray.empty t174 (ji3)).size) t178 true _ A15.out).mono ?_);rintro e w' ⟨rfl,⟨nd,rfl⟩⟩;refine ⟨_,rfl,?_⟩))
          go_ret2
          exact ⟨by first|rfl|(simp [errW_none,errW_some] <;> rfl)|(simp only [← hji3];first|rfl|(simp [errW_none,errW_some] <;> rfl))|(simp [*,errW_none,errW_some] <;> rfl),by repeat (first|(with_reducible first|exact HB.out|apply below_alloc|apply pw_below_drewN|apply below_drew1)|exact HB.out)⟩
         ·rw [if_neg c18] at H
          have c18b0:decide (999999<t178)=false:=decide_eq_false c18
          clear c18
          obtain ⟨ji19,hji19⟩:∃ j_:Int,(wrap64 ((wrap64 ((a0.size:Int) - ((rdOf ByteArray.empty t174 (ji3)).size:Int))) - 1))=j_:=⟨_,rfl⟩
          replace H:(if 0≤(ji19) then (if (ji19)≤(a0.size:Int) then (some (a0.extract 0 ((ji19):Int).toNat,t178)) else (none)) else (none))=some (r1,r2):=by first|(rw [hji19] at H;exact H)|(simp only [hji19] at H ⊢;exact H)
          (try rw [hji19] at A15)
          have hji19w:(IntKind.i64.wrap ((wrap64 ((a0.size:Int) - ((rdOf ByteArray.empty t174 (ji3)).size:Int))) - 1))=ji19:=(i64_w _).trans hji19
          by_cases c20:0≤(ji19)
          ·rw [if_pos c20] at H
           have c20b0:=eq_true c20
           have c20b1:decide (0≤(ji19))=true:=decide_eq_true c20
           clear c20
           by_cases c21:(ji19)≤(a0.size:Int)
           ·rw [if_pos c21] at H
            have c21b0:=eq_true c21
            have c21b1:decide ((ji19)≤(a0.size:Int))=true:=decide_eq_true c21
            clear c21
            simp only [Option.some.injEq,Prod.mk.injEq] at H
            obtain ⟨rfl,rfl⟩:=H
            go_wp2_with (first|((with_reducible refine gate_callee (f:=118) rfl ?_);refine goesL_ (some 32) rfl rfl Tryz.func118 (by kernel_rfl) rfl #[.string ((rdOf ByteArray.empty t174 (ji3)).extract 1 (rdOf ByteArray.empty t174 (ji3)).size)] rfl (by (try simp only [List.map_toArray,List.map_cons,List.map_nil]);first|done|(simp only [hji3];rfl)|rfl|(simp only [List.length_drop,List.length_take];rfl)) ?_;(with_reducible refine (transhumanceref1_Number.calls kj5 ((rdOf ByteArray.empty t174 (ji3)).extract 1 (rdOf ByteArray.empty t174 (ji3)).size) t178 true _ A15.out).mono ?_);rintro e w' ⟨rfl,⟨nd,rfl⟩⟩;refine ⟨_,rfl,?_⟩))
            go_ret2
            exact ⟨by first|rfl|(simp [errW_none,errW_some] <;> rfl)|(simp only [← hji3,← hji19];first|rfl|(simp [errW_none,errW_some] <;> rfl))|(simp [*,errW_none,errW_some] <;> rfl),by repeat (first|(with_reducible first|exact HB.out|apply below_alloc|apply pw_below_drewN|apply below_drew1)|exact HB.out)⟩
           ·rw [if_neg c21] at H
            exact absurd H (by simp)
          ·rw [if_neg c20] at H
           exact absurd H (by simp)
       ·replace c16:=Bool.eq_false_iff.mpr c16
        subst c16
        have H1:(some (a0,0))=some (r1,r2):=by rw [if_neg (show ¬ (false=true) by decide)] at H;exact H
        clear H
        have H:=H1
        clear H1
        simp only [Option.some.injEq,Prod.mk.injEq] at H
        obtain ⟨rfl,rfl⟩:=H
        go_wp2_with (first|((with_reducible refine gate_callee (f:=118) rfl ?_);refine goesL_ (some 32) rfl rfl Tryz.func118 (by kernel_rfl) rfl #[.string ((rdOf ByteArray.empty t174 (ji3)).extract 1 (rdOf ByteArray.empty t174 (ji3)).size)] rfl (by (try simp only [List.map_toArray,List.map_cons,List.map_nil]);first|done|(simp only [hji3];rfl)|rfl|(simp only [List.length_drop,List.length_take];rfl)) ?_;(with_reducible refine (transhumanceref1_Number.calls kj5 ((rdOf ByteArray.empty t174 (ji3)).extract 1 (rdOf ByteArray.empty t174 (ji3)).size) t178 false _ A15.out).mono ?_);rintro e w' ⟨rfl,⟨nd,rfl⟩⟩;refine ⟨_,rfl,?_⟩))
        go_ret2
        exact ⟨by first|rfl|(simp [errW_none,errW_some] <;> rfl)|(simp only [← hji3];first|rfl|(simp [errW_none,errW_some] <;> rfl))|(simp [*,errW_none,errW_some] <;> rfl),by repeat (first|(with_reducible first|exact HB.out|apply below_alloc|apply pw_below_drewN|apply below_drew1)|exact HB.out)⟩
      ·rw [if_neg c14] at H
       exact absurd H (by simp)
  ·rw [if_neg c5] at H
   exact absurd H (by simp)
 ·rw [if_neg c4] at H
  exact absurd H (by simp)
def transhumancelaw9_pair.f (k:Nat) (a0:Int) (a1:Int):Option (ByteArray × Int × Int × Int × ByteArray):=(transhumancelaw4_Make.f k a0).bind fun t181 => ((transhumancelaw2_Make.f k a1 a0).bind fun bt182 => ((transhumanceref4_Major.f k t181).bind fun bt187 => (if bt187.2=0 then ((transhumancelaw9_within.f a1 2).bind fun t189 => (some (t181,t189,bt182.2.1,bt182.2.2.1,bt182.2.2.2))) else (some (t181,bt187.2,bt182.2.1,bt182.2.2.1,bt182.2.2.2)))))
set_option maxHeartbeats 8000000 in
set_option maxRecDepth 100000 in
theorem transhumancelaw9_pair.calls (k:Nat) (a0:Int) (a1:Int) (r1:ByteArray) (r2:Int) (r3:Int) (r4:Int) (r5:ByteArray) (w:World) (h:transhumancelaw9_pair.f k a0 a1=some (r1,r2,r3,r4,r5)) :
  Calls Tryz.prog 45 #[.int .i64 a0,.int .i64 a1] w fun e w' => e=.returned (.agg #[.string r1,.int .i64 r2,.int .i64 r3,.int .i64 r4,.string r5])∧Below w.heap.size w w':=by
 have hu45:=Tryz.underlying45
 have hu43:=Tryz.underlying43
 have HB:=Aside0.mk (Below.refl w.heap.size w)
 have H:((transhumancelaw4_Make.f k a0).bind fun t181 => ((transhumancelaw2_Make.f k a1 a0).bind fun bt182 => ((transhumanceref4_Major.f k t181).bind fun bt187 => (if bt187.2=0 then ((transhumancelaw9_within.f a1 2).bind fun t189 => (some (t181,t189,bt182.2.1,bt182.2.2.1,bt182.2.2.2))) else (some (t181,bt187.2,bt182.2.1,bt182.2.2.1,bt182.2.2.2))))))=some (r1,r2,r3,r4,r5):=h
 clear h
 replace H:=Option.bind_eq_some_iff.mp H
 obtain ⟨t181,A30,H⟩:=H
 replace H:((transhumancelaw2_Make.f k a1 a0).bind fun bt182 => ((transhumanceref4_Major.f k t181).bind fun bt187 => (if bt187.2=0 then ((transhumancelaw9_within.f a1 2).bind fun t189 => (some (t181,t189,bt182.2.1,bt182.2.2.1,bt182.2.2.2))) else (some (t181,bt187.2,bt182.2.1,bt182.2.2.1,bt182.2.2.2)))))=some (r1,r2,r3,r4,r5):=H
 have A3:=Aside0.mk A30
 clear A30
 replace H:=Option.bind_eq_some_iff.mp H
 obtain ⟨⟨t182,t183,t184,t185⟩,A40,H⟩:=H
 replace H:((transhumanceref4_Major.f k t181).bind fun bt187 => (if bt187.2=0 then ((transhumancelaw9_within.f a1 2).bind fun t189 => (some (t181,t189,t183,t184,t185))) else (some (t181,bt187.2,t183,t184,t185))))=some (r1,r2,r3,r4,r5):=H
 have A4:=Aside0.mk A40
 clear A40
 replace H:=Option.bind_eq_some_iff.mp H
 obtain ⟨⟨t187,t188⟩,A50,H⟩:=H
 replace H:(if t188=0 then ((transhumancelaw9_within.f a1 2).bind fun t189 => (some (t181,t189,t183,t184,t185))) else (some (t181,t188,t183,t184,t185)))=some (r1,r2,r3,r4,r5):=H
 have A5:=Aside0.mk A50
 clear A50
 by_cases c6:t188=0
 ·rw [if_pos c6] at H
  have c6b0:(t188 == 0)=true:=beq_iff_eq.mpr c6
  have c6b1:(t188 != 0)=false:=bne_eq_false_iff_eq.mpr c6
  clear c6
  replace H:=Option.bind_eq_some_iff.mp H
  obtain ⟨t189,A70,H⟩:=H
  replace H:(some (t181,t189,t183,t184,t185))=some (r1,r2,r3,r4,r5):=H
  have A7:=Aside0.mk A70
  clear A70
  simp only [Option.some.injEq,Prod.mk.injEq] at H
  obtain ⟨rfl,rfl,rfl,rfl,rfl⟩:=H
  go_enter Tryz.func45,Tryz.ntmps45
  go_wp2_with (first|((with_reducible refine gate_dst (N:=4) rfl ?_);refine box_event ?hg (N:=4) ?hd (cs:=#[.string (⟨#[]⟩:ByteArray),.int .i64 0,.int .i64 0,.int .i64 0,.string (⟨#[]⟩:ByteArray)]) (t:=45) ?hr ?_;(case hd => rfl);(case hg => rfl);(case hr => first|(go_simp;done)|(go_simp;rfl));intro gb180 hg w8 hbox hb;have n0_:=Aside0.mk (below_step (by repeat (first|(with_reducible first|exact HB.out|apply below_alloc|apply pw_below_drewN|apply below_drew1)|exact HB.out)) hb);have n1_:=Aside0.mk (hbox);have n2_:=Aside0.mk ((by rw [hg];exact (below_size (by repeat (first|(with_reducible first|exact HB.out|apply below_alloc|apply pw_below_drewN|apply below_drew1)|exact HB.out))):w.heap.size≤gb180));have n3_:=Aside0.mk ((by rw [hg];exact (below_size (by repeat (first|(with_reducible first|exact HB.out|apply below_alloc|apply pw_below_drewN|apply below_drew1)|exact HB.out))):w.heap.size≤gb180));clear HB;have HB:=n0_;have BK180:=n1_;have GW180:=n2_;have GE180:=n3_;clear n0_ n1_ n2_ n3_;clear hb hbox hg)|((with_reducible refine gate_callee (f:=44) rfl ?_);refine goesL_ (some 10) rfl rfl Tryz.func44 (by kernel_rfl) rfl #[.int .i64 a0] rfl (by (try simp only [List.map_toArray,List.map_cons,List.map_nil]);first|done|rfl|(simp only [List.length_drop,List.length_take];rfl)) ?_;(with_reducible refine (transhumancelaw4_Make.calls k a0 t181 _ A3.out).mono ?_);rintro e w9 ⟨rfl,hb⟩;refine ⟨_,rfl,?_⟩;have n0_:=Aside0.mk (blk_below (g:=gb180) (o:=.cells #[.string (⟨#[]⟩:ByteArray),.int .i64 0,.int .i64 0,.int .i64 0,.string (⟨#[]⟩:ByteArray)] 45 (0,0)) (by (with_reducible repeat (first|refine blk_drewN ?_ _|refine blk_drew ?_|refine blk_alloc ?_ _));exact BK180.out) hb);have n1_:=Aside0.mk (below_step (by repeat (first|(with_reducible first|exact HB.out|apply below_alloc|apply pw_below_drewN|apply below_drew1|refine below_set ?_ GE180.out)|exact HB.out)) hb);clear BK180;clear HB;have BK180:=n0_;have HB:=n1_;clear n0_ n1_;(try clear hb);(try clear hb2);(try clear hk);(try clear hi))|((with_reducible refine gate_callee (f:=22) rfl ?_);refine goesL_ (some 13) rfl rfl Tryz.func22 (by kernel_rfl) rfl #[.int .i64 a1,.int .i64 a0] rfl (by (try simp only [List.map_toArray,List.map_cons,List.map_nil]);first|done|rfl|(simp only [List.length_drop,List.length_take];rfl)) ?_;(with_reducible refine (transhumancelaw2_Make.calls k a1 a0 t182 t183 t184 t185 _ A4.out).mono ?_);rintro e w10 ⟨rfl,hb⟩;refine ⟨_,rfl,?_⟩;have n0_:=Aside0.mk (blk_below (g:=gb180) (o:=.cells #[.string (⟨#[]⟩:ByteArray),.int .i64 0,.int .i64 0,.int .i64 0,.string (⟨#[]⟩:ByteArray)] 45 (0,0)) (by (with_reducible repeat (first|refine blk_drewN ?_ _|refine blk_drew ?_|refine blk_alloc ?_ _));exact BK180.out) hb);have n1_:=Aside0.mk (below_step (by repeat (first|(with_reducible first|exact HB.out|apply below_alloc|apply pw_below_drewN|apply below_drew1|refine below_set ?_ GE180.out)|exact HB.out)) hb);clear BK180;clear HB;have BK180:=n0_;have HB:=n1_;clear n0_ n1_;(try clear hb);(try clear hb2);(try clear hk);(try clear hi))|((with_reducible refine gate_dst (N:=6) rfl ?_);refine box_event ?hg (N:=6) ?hd (cs:=#[.int .i64 0,.int .i64 0,.int .i64 0,.string (⟨#[]⟩:ByteArray)]) (t:=43) ?hr ?_;(case hd => rfl);(case hg => rfl);(case hr => first|(go_simp;done)|(go_simp;rfl));intro gb186 hg w11 hbox hb;have n0_:=Aside0.mk (blk_below (g:=gb180) (o:=.cells #[.string (⟨#[]⟩:ByteArray),.int .i64 0,.int .i64 0,.int .i64 0,.string (⟨#[]⟩:ByteArray)] 45 (0,0)) (by (with_reducible repeat (first|refine blk_drewN ?_ _|refine blk_drew ?_|refine blk_alloc ?_ _));exact BK180.out) hb);have n1_:=Aside0.mk (below_step (by repeat (first|(with_reducible first|exact HB.out|apply below_alloc|apply pw_below_drewN|apply below_drew1|refine below_set ?_ GE180.out)|exact HB.out)) hb);have n2_:=Aside0.mk (hbox);have n3_:=Aside0.mk ((by rw [hg];exact (below_size (by repeat (first|(with_reducible first|exact HB.out|apply below_alloc|apply pw_below_drewN|apply below_drew1|refine below_set ?_ GE180.out)|exact HB.out))):w.heap.size≤gb186));have n4_:=Aside0.mk ((by rw [hg];exact (below_size (by repeat (first|(with_reducible first|exact HB.out|apply below_alloc|apply pw_below_drewN|apply below_drew1|refine below_set ?_ GE180.out)|exact HB.out))):w.heap.size≤gb186));have n5_:=Aside0.mk ((by rw [hg];exact Nat.ne_of_lt (blk_lt (g:=gb180) (o:=.cells #[.string (⟨#[]⟩:ByteArray),.int .i64 0,.int .i64 0,.int .i64 0,.string (⟨#[]⟩:ByteArray)] 45 (0,0)) (by (with_reducible repeat (first|refine blk_drewN ?_ _|refine blk_drew ?_|refine blk_alloc ?_ _));exact BK180.out)):gb180≠gb186));have n6_:=Aside0.mk ((by rw [hg];exact Nat.ne_of_gt (blk_lt (g:=gb180) (o:=.cells #[.string (⟨#[]⟩:ByteArray),.int .i64 0,.int .i64 0,.int .i64 0,.string (⟨#[]⟩:ByteArray)] 45 (0,0)) (by (with_reducible repeat (first|refine blk_drewN ?_ _|refine blk_drew ?_|refine blk_alloc ?_ _));exact BK180.out)):gb186≠gb180));clear BK180;clear HB;have BK180:=n0_;have HB:=n1_;have BK186:=n2_;have GW186:=n3_;have GE186:=n4_;have NB180_186:=n5_;have NB186_180:=n6_;clear n0_ n1_ n2_ n3_ n4_ n5_ n6_;clear hb hbox hg;have hnb12:=NB186_180.out;have hnc12:=NB180_186.out;have hcz13_0:w11.cell? ⟨gb186,0,none⟩=some (.int .i64 0):=(blk_cell BK186.out 0).trans rfl;have hcz13_1:w11.cell? ⟨gb186,1,none⟩=some (.int .i64 0):=(blk_cell BK186.out 1).trans rfl;have hcz13_2:w11.cell? ⟨gb186,2,none⟩=some (.int .i64 0):=(blk_cell BK186.out 2).trans rfl;have hcz13_3:w11.cell? ⟨gb186,3,none⟩=some (.string (⟨#[]⟩:ByteArray)):=(blk_cell BK186.out 3).trans rfl;have hfz13_0:=blk_frozen BK186.out 0;have hfz13_1:=blk_frozen BK186.out 1;have hfz13_2:=blk_frozen BK186.out 2;have hfz13_3:=blk_frozen BK186.out 3)|((with_reducible refine gate_callee (f:=79) rfl ?_);refine goesL_ (some 16) rfl rfl Tryz.func79 (by kernel_rfl) rfl #[.string t181] rfl (by (try simp only [List.map_toArray,List.map_cons,List.map_nil]);first|done|rfl|(simp only [List.length_drop,List.length_take];rfl)) ?_;(with_reducible refine (transhumanceref4_Major.calls k t181 t187 t188 _ A5.out).mono ?_);rintro e w14 ⟨rfl,hb⟩;refine ⟨_,rfl,?_⟩;have n0_:=Aside0.mk (blk_below (g:=gb180) (o:=.cells #[.string (⟨#[]⟩:ByteArray),.int .i64 0,.int .i64 0,.int .i64 0,.string (⟨#[]⟩:ByteArray)] 45 (0,0)) (by (with_reducible repeat (first|refine blk_drewN ?_ _|refine blk_drew ?_|refine blk_alloc ?_ _));refine blk_far ?_ NB180_186.out _;(with_reducible repeat (first|refine blk_drewN ?_ _|refine blk_drew ?_|refine blk_alloc ?_ _));refine blk_far ?_ NB180_186.out _;(with_reducible repeat (first|refine blk_drewN ?_ _|refine blk_drew ?_|refine blk_alloc ?_ _));refine blk_far ?_ NB180_186.out _;(with_reducible repeat (first|refine blk_drewN ?_ _|refine blk_drew ?_|refine blk_alloc ?_ _));refine blk_far ?_ NB180_186.out _;(with_reducible repeat (first|refine blk_drewN ?_ _|refine blk_drew ?_|refine blk_alloc ?_ _));exact BK180.out) hb);have n1_:=Aside0.mk (blk_below (g:=gb186) (o:=.cells #[.int .i64 t182,.int .i64 t183,.int .i64 t184,.string t185] 43 (0,0)) (by (with_reducible repeat (first|refine blk_drewN ?_ _|refine blk_drew ?_|refine blk_alloc ?_ _));refine blk_put (cs:=#[.int .i64 t182,.int .i64 t183,.int .i64 t184,.string (⟨#[]⟩:ByteArray)]) ?_ 3 _ rfl;(with_reducible repeat (first|refine blk_drewN ?_ _|refine blk_drew ?_|refine blk_alloc ?_ _));refine blk_put (cs:=#[.int .i64 t182,.int .i64 t183,.int .i64 0,.string (⟨#[]⟩:ByteArray)]) ?_ 2 _ rfl;(with_reducible repeat (first|refine blk_drewN ?_ _|refine blk_drew ?_|refine blk_alloc ?_ _));refine blk_put (cs:=#[.int .i64 t182,.int .i64 0,.int .i64 0,.string (⟨#[]⟩:ByteArray)]) ?_ 1 _ rfl;(with_reducible repeat (first|refine blk_drewN ?_ _|refine blk_drew ?_|refine blk_alloc ?_ _));refine blk_put (cs:=#[.int .i64 0,.int .i64 0,.int .i64 0,.string (⟨#[]⟩:ByteArray)]) ?_ 0 _ rfl;(with_reducible repeat (first|refine blk_drewN ?_ _|refine blk_drew ?_|refine blk_alloc ?_ _));exact BK186.out) hb);have n2_:=Aside0.mk (below_step (by repeat (first|(with_reducible first|exact HB.out|apply below_alloc|apply pw_below_drewN|apply below_drew1|refine below_set ?_ GE180.out|refine below_set ?_ GE186.out)|exact HB.out)) hb);clear BK180;clear BK186;clear HB;have BK180:=n0_;have BK186:=n1_;have HB:=n2_;clear n0_ n1_ n2_;(try clear hb);(try clear hb2);(try clear hk);(try clear hi);have hcz15_0:w14.cell? ⟨gb186,0,none⟩=some (.int .i64 t182):=(blk_cell BK186.out 0).trans rfl;have hcz15_1:w14.cell? ⟨gb186,1,none⟩=some (.int .i64 t183):=(blk_cell BK186.out 1).trans rfl;have hcz15_2:w14.cell? ⟨gb186,2,none⟩=some (.int .i64 t184):=(blk_cell BK186.out 2).trans rfl;have hcz15_3:w14.cell? ⟨gb186,3,none⟩=some (.string t185):=(blk_cell BK186.out 3).trans rfl;have hfz15_0:=blk_frozen BK186.out 0;have hfz15_1:=blk_frozen BK186.out 1;have hfz15_2:=blk_frozen BK186.out 2;have hfz15_3:=blk_frozen BK186.out 3)|((with_reducible refine gate_callee (f:=19) rfl ?_);refine goesL_ (some 24) rfl rfl Tryz.func19 (by kernel_rfl) rfl #[.int .i64 a1,.int .i64 2] rfl (by (try simp only [List.map_toArray,List.map_cons,List.map_nil]);first|done|rfl|(simp only [List.length_drop,List.length_take];rfl)) ?_;(with_reducible refine (transhumancelaw9_within.calls a1 2 t189 _ A7.out).mono ?_);rintro e w' ⟨rfl,⟨nd,rfl⟩⟩;refine ⟨_,rfl,?_⟩;have hcz16_0:w14.cell? ⟨gb180,0,none⟩=some (.string (⟨#[]⟩:ByteArray)):=(blk_cell BK180.out 0).trans rfl;have hcz16_1:w14.cell? ⟨gb180,1,none⟩=some (.int .i64 0):=(blk_cell BK180.out 1).trans rfl;have hcz16_2:w14.cell? ⟨gb180,2,none⟩=some (.int .i64 0):=(blk_cell BK180.out 2).trans rfl;have hcz16_3:w14.cell? ⟨gb180,3,none⟩=some (.int .i64 0):=(blk_cell BK180.out 3).trans rfl;have hcz16_4:w14.cell? ⟨gb180,4,none⟩=some (.string (⟨#[]⟩:ByteArray)):=(blk_cell BK180.out 4).trans rfl;have hfz16_0:=blk_frozen BK180.out 0;have hfz16_1:=blk_frozen BK180.out 1;have hfz16_2:=blk_frozen BK180.out 2;have hfz16_3:=blk_frozen BK180.out 3;have hfz16_4:=blk_frozen BK180.out 4))
  refine bodyPost_ret (results_cell_row rfl _ _ gb180 45 #[.string t181,.int .i64 t189,.int .i64 t183,.int .i64 t184,.string t185] (0,0) _ rfl (by (with_reducible repeat (first|refine blk_drewN ?_ _|refine blk_drew ?_|refine blk_alloc ?_ _));refine blk_put (cs:=#[.string t181,.int .i64 t189,.int .i64 t183,.int .i64 t184,.string (⟨#[]⟩:ByteArray)]) ?_ 4 _ rfl;(with_reducible repeat (first|refine blk_drewN ?_ _|refine blk_drew ?_|refine blk_alloc ?_ _));refine blk_put (cs:=#[.string t181,.int .i64 t189,.int .i64 t183,.int .i64 0,.string (⟨#[]⟩:ByteArray)]) ?_ 3 _ rfl;(with_reducible repeat (first|refine blk_drewN ?_ _|refine blk_drew ?_|refine blk_alloc ?_ _));refine blk_put (cs:=#[.string t181,.int .i64 t189,.int .i64 0,.int .i64 0,.string (⟨#[]⟩:ByteArray)]) ?_ 2 _ rfl;(with_reducible repeat (first|refine blk_drewN ?_ _|refine blk_drew ?_|refine blk_alloc ?_ _));refine blk_put (cs:=#[.string t181,.int .i64 0,.int .i64 0,.int .i64 0,.string (⟨#[]⟩:ByteArray)]) ?_ 1 _ rfl;(with_reducible repeat (first|refine blk_drewN ?_ _|refine blk_drew ?_|refine blk_alloc ?_ _));refine blk_put (cs:=#[.string (⟨#[]⟩:ByteArray),.int .i64 0,.int .i64 0,.int .i64 0,.string (⟨#[]⟩:ByteArray)]) ?_ 0 _ rfl;(with_reducible repeat (first|refine blk_drewN ?_ _|refine blk_drew ?_|refine blk_alloc ?_ _));refine blk_far ?_ NB180_186.out _;(with_reducible repeat (first|refine blk_drewN ?_ _|refine blk_drew ?_|refine blk_alloc ?_ _));refine blk_far ?_ NB180_186.out _;(with_reducible repeat (first|refine blk_drewN ?_ _|refine blk_drew ?_|refine blk_alloc ?_ _));exact BK180.out) Tryz.underlying45 rfl (by kernel_rfl)) rfl ?_
  exact ⟨by first|rfl|(simp [errW_none,errW_some] <;> rfl)|(simp [*,errW_none,errW_some] <;> rfl),by repeat (first|(with_reducible first|exact HB.out|apply below_alloc|apply pw_below_drewN|apply below_drew1|refine below_set ?_ GE180.out|refine below_set ?_ GE186.out)|exact HB.out)⟩
 ·rw [if_neg c6] at H
  have c6b0:(t188 == 0)=false:=beq_eq_false_iff_ne.mpr c6
  have c6b1:(t188 != 0)=true:=bne_iff_ne.mpr c6
  simp only [Option.some.injEq,Prod.mk.injEq] at H
  obtain ⟨rfl,rfl,rfl,rfl,rfl⟩:=H
  go_enter Tryz.func45,Tryz.ntmps45
  go_wp2_with (first|((with_reducible refine gate_dst (N:=4) rfl ?_);refine box_event ?hg (N:=4) ?hd (cs:=#[.string (⟨#[]⟩:ByteArray),.int .i64 0,.int .i64 0,.int .i64 0,.string (⟨#[]⟩:ByteArray)]) (t:=45) ?hr ?_;(case hd => rfl);(case hg => rfl);(case hr => first|(go_simp;done)|(go_simp;rfl));intro gb180 hg w17 hbox hb;have n0_:=Aside0.mk (below_step (by repeat (first|(with_reducible first|exact HB.out|apply below_alloc|apply pw_below_drewN|apply below_drew1)|exact HB.out)) hb);have n1_:=Aside0.mk (hbox);have n2_:=Aside0.mk ((by rw [hg];exact (below_size (by repeat (first|(with_reducible first|exact HB.out|apply below_alloc|apply pw_below_drewN|apply below_drew1)|exact HB.out))):w.heap.size≤gb180));have n3_:=Aside0.mk ((by rw [hg];exact (below_size (by repeat (first|(with_reducible first|exact HB.out|apply below_alloc|apply pw_below_drewN|apply below_drew1)|exact HB.out))):w.heap.size≤gb180));clear HB;have HB:=n0_;have BK180:=n1_;have GW180:=n2_;have GE180:=n3_;clear n0_ n1_ n2_ n3_;clear hb hbox hg)|((with_reducible refine gate_callee (f:=44) rfl ?_);refine goesL_ (some 10) rfl rfl Tryz.func44 (by kernel_rfl) rfl #[.int .i64 a0] rfl (by (try simp only [List.map_toArray,List.map_cons,List.map_nil]);first|done|rfl|(simp only [List.length_drop,List.length_take];rfl)) ?_;(with_reducible refine (transhumancelaw4_Make.calls k a0 t181 _ A3.out).mono ?_);rintro e w18 ⟨rfl,hb⟩;refine ⟨_,rfl,?_⟩;have n0_:=Aside0.mk (blk_below (g:=gb180) (o:=.cells #[.string (⟨#[]⟩:ByteArray),.int .i64 0,.int .i64 0,.int .i64 0,.string (⟨#[]⟩:ByteArray)] 45 (0,0)) (by (with_reducible repeat (first|refine blk_drewN ?_ _|refine blk_drew ?_|refine blk_alloc ?_ _));exact BK180.out) hb);have n1_:=Aside0.mk (below_step (by repeat (first|(with_reducible first|exact HB.out|apply below_alloc|apply pw_below_drewN|apply below_drew1|refine below_set ?_ GE180.out)|exact HB.out)) hb);clear BK180;clear HB;have BK180:=n0_;have HB:=n1_;clear n0_ n1_;(try clear hb);(try clear hb2);(try clear hk);(try clear hi))|((with_reducible refine gate_callee (f:=22) rfl ?_);refine goesL_ (some 13) rfl rfl Tryz.func22 (by kernel_rfl) rfl #[.int .i64 a1,.int .i64 a0] rfl (by (try simp only [List.map_toArray,List.map_cons,List.map_nil]);first|done|rfl|(simp only [List.length_drop,List.length_take];rfl)) ?_;(with_reducible refine (transhumancelaw2_Make.calls k a1 a0 t182 t183 t184 t185 _ A4.out).mono ?_);rintro e w19 ⟨rfl,hb⟩;refine ⟨_,rfl,?_⟩;have n0_:=Aside0.mk (blk_below (g:=gb180) (o:=.cells #[.string (⟨#[]⟩:ByteArray),.int .i64 0,.int .i64 0,.int .i64 0,.string (⟨#[]⟩:ByteArray)] 45 (0,0)) (by (with_reducible repeat (first|refine blk_drewN ?_ _|refine blk_drew ?_|refine blk_alloc ?_ _));exact BK180.out) hb);have n1_:=Aside0.mk (below_step (by repeat (first|(with_reducible first|exact HB.out|apply below_alloc|apply pw_below_drewN|apply below_drew1|refine below_set ?_ GE180.out)|exact HB.out)) hb);clear BK180;clear HB;have BK180:=n0_;have HB:=n1_;clear n0_ n1_;(try clear hb);(try clear hb2);(try clear hk);(try clear hi))|((with_reducible refine gate_dst (N:=6) rfl ?_);refine box_event ?hg (N:=6) ?hd (cs:=#[.int .i64 0,.int .i64 0,.int .i64 0,.string (⟨#[]⟩:ByteArray)]) (t:=43) ?hr ?_;(case hd => rfl);(case hg => rfl);(case hr => first|(go_simp;done)|(go_simp;rfl));intro gb186 hg w20 hbox hb;have n0_:=Aside0.mk (blk_below (g:=gb180) (o:=.cells #[.string (⟨#[]⟩:ByteArray),.int .i64 0,.int .i64 0,.int .i64 0,.string (⟨#[]⟩:ByteArray)] 45 (0,0)) (by (with_reducible repeat (first|refine blk_drewN ?_ _|refine blk_drew ?_|refine blk_alloc ?_ _));exact BK180.out) hb);have n1_:=Aside0.mk (below_step (by repeat (first|(with_reducible first|exact HB.out|apply below_alloc|apply pw_below_drewN|apply below_drew1|refine below_set ?_ GE180.out)|exact HB.out)) hb);have n2_:=Aside0.mk (hbox);have n3_:=Aside0.mk ((by rw [hg];exact (below_size (by repeat (first|(with_reducible first|exact HB.out|apply below_alloc|apply pw_below_drewN|apply below_drew1|refine below_set ?_ GE180.out)|exact HB.out))):w.heap.size≤gb186));have n4_:=Aside0.mk ((by rw [hg];exact (below_size (by repeat (first|(with_reducible first|exact HB.out|apply below_alloc|apply pw_below_drewN|apply below_drew1|refine below_set ?_ GE180.out)|exact HB.out))):w.heap.size≤gb186));have n5_:=Aside0.mk ((by rw [hg];exact Nat.ne_of_lt (blk_lt (g:=gb180) (o:=.cells #[.string (⟨#[]⟩:ByteArray),.int .i64 0,.int .i64 0,.int .i64 0,.string (⟨#[]⟩:ByteArray)] 45 (0,0)) (by (with_reducible repeat (first|refine blk_drewN ?_ _|refine blk_drew ?_|refine blk_alloc ?_ _));exact BK180.out)):gb180≠gb186));have n6_:=Aside0.mk ((by rw [hg];exact Nat.ne_of_gt (blk_lt (g:=gb180) (o:=.cells #[.string (⟨#[]⟩:ByteArray),.int .i64 0,.int .i64 0,.int .i64 0,.string (⟨#[]⟩:ByteArray)] 45 (0,0)) (by (with_reducible repeat (first|refine blk_drewN ?_ _|refine blk_drew ?_|refine blk_alloc ?_ _));exact BK180.out)):gb186≠gb180));clear BK180;clear HB;have BK180:=n0_;have HB:=n1_;have BK186:=n2_;have GW186:=n3_;have GE186:=n4_;have NB180_186:=n5_;have NB186_180:=n6_;clear n0_ n1_ n2_ n3_ n4_ n5_ n6_;clear hb hbox hg;have hnb21:=NB186_180.out;have hnc21:=NB180_186.out;have hcz22_0:w20.cell? ⟨gb186,0,none⟩=some (.int .i64 0):=(blk_cell BK186.out 0).trans rfl;have hcz22_1:w20.cell? ⟨gb186,1,none⟩=some (.int .i64 0):=(blk_cell BK186.out 1).trans rfl;have hcz22_2:w20.cell? ⟨gb186,2,none⟩=some (.int .i64 0):=(blk_cell BK186.out 2).trans rfl;have hcz22_3:w20.cell? ⟨gb186,3,none⟩=some (.string (⟨#[]⟩:ByteArray)):=(blk_cell BK186.out 3).trans rfl;have hfz22_0:=blk_frozen BK186.out 0;have hfz22_1:=blk_frozen BK186.out 1;have hfz22_2:=blk_frozen BK186.out 2;have hfz22_3:=blk_frozen BK186.out 3)|((with_reducible refine gate_callee (f:=79) rfl ?_);refine goesL_ (some 16) rfl rfl Tryz.func79 (by kernel_rfl) rfl #[.string t181] rfl (by (try simp only [List.map_toArray,List.map_cons,List.map_nil]);first|done|rfl|(simp only [List.length_drop,List.length_take];rfl)) ?_;(with_reducible refine (transhumanceref4_Major.calls k t181 t187 t188 _ A5.out).mono ?_);rintro e w23 ⟨rfl,hb⟩;refine ⟨_,rfl,?_⟩;have n0_:=Aside0.mk (blk_below (g:=gb180) (o:=.cells #[.string (⟨#[]⟩:ByteArray),.int .i64 0,.int .i64 0,.int .i64 0,.string (⟨#[]⟩:ByteArray)] 45 (0,0)) (by (with_reducible repeat (first|refine blk_drewN ?_ _|refine blk_drew ?_|refine blk_alloc ?_ _));refine blk_far ?_ NB180_186.out _;(with_reducible repeat (first|refine blk_drewN ?_ _|refine blk_drew ?_|refine blk_alloc ?_ _));refine blk_far ?_ NB180_186.out _;(with_reducible repeat (first|refine blk_drewN ?_ _|refine blk_drew ?_|refine blk_alloc ?_ _));refine blk_far ?_ NB180_186.out _;(with_reducible repeat (first|refine blk_drewN ?_ _|refine blk_drew ?_|refine blk_alloc ?_ _));refine blk_far ?_ NB180_186.out _;(with_reducible repeat (first|refine blk_drewN ?_ _|refine blk_drew ?_|refine blk_alloc ?_ _));exact BK180.out) hb);have n1_:=Aside0.mk (blk_below (g:=gb186) (o:=.cells #[.int .i64 t182,.int .i64 t183,.int .i64 t184,.string t185] 43 (0,0)) (by (with_reducible repeat (first|refine blk_drewN ?_ _|refine blk_drew ?_|refine blk_alloc ?_ _));refine blk_put (cs:=#[.int .i64 t182,.int .i64 t183,.int .i64 t184,.string (⟨#[]⟩:ByteArray)]) ?_ 3 _ rfl;(with_reducible repeat (first|refine blk_drewN ?_ _|refine blk_drew ?_|refine blk_alloc ?_ _));refine blk_put (cs:=#[.int .i64 t182,.int .i64 t183,.int .i64 0,.string (⟨#[]⟩:ByteArray)]) ?_ 2 _ rfl;(with_reducible repeat (first|refine blk_drewN ?_ _|refine blk_drew ?_|refine blk_alloc ?_ _));refine blk_put (cs:=#[.int .i64 t182,.int .i64 0,.int .i64 0,.string (⟨#[]⟩:ByteArray)]) ?_ 1 _ rfl;(with_reducible repeat (first|refine blk_drewN ?_ _|refine blk_drew ?_|refine blk_alloc ?_ _));refine blk_put (cs:=#[.int .i64 0,.int .i64 0,.int .i64 0,.string (⟨#[]⟩:ByteArray)]) ?_ 0 _ rfl;(with_reducible repeat (first|refine blk_drewN ?_ _|refine blk_drew ?_|refine blk_alloc ?_ _));exact BK186.out) hb);have n2_:=Aside0.mk (below_step (by repeat (first|(with_reducible first|exact HB.out|apply below_alloc|apply pw_below_drewN|apply below_drew1|refine below_set ?_ GE180.out|refine below_set ?_ GE186.out)|exact HB.out)) hb);clear BK180;clear BK186;clear HB;have BK180:=n0_;have BK186:=n1_;have HB:=n2_;clear n0_ n1_ n2_;(try clear hb);(try clear hb2);(try clear hk);(try clear hi);have hcz24_0:w23.cell? ⟨gb186,0,none⟩=some (.int .i64 t182):=(blk_cell BK186.out 0).trans rfl;have hcz24_1:w23.cell? ⟨gb186,1,none⟩=some (.int .i64 t183):=(blk_cell BK186.out 1).trans rfl;have hcz24_2:w23.cell? ⟨gb186,2,none⟩=some (.int .i64 t184):=(blk_cell BK186.out 2).trans rfl;have hcz24_3:w23.cell? ⟨gb186,3,none⟩=some (.string t185):=(blk_cell BK186.out 3).trans rfl;have hfz24_0:=blk_frozen BK186.out 0;have hfz24_1:=blk_frozen BK186.out 1;have hfz24_2:=blk_frozen BK186.out 2;have hfz24_3:=blk_frozen BK186.out 3;have hcz25_0:w23.cell? ⟨gb180,0,none⟩=some (.string (⟨#[]⟩:ByteArray)):=(blk_cell BK180.out 0).trans rfl;have hcz25_1:w23.cell? ⟨gb180,1,none⟩=some (.int .i64 0):=(blk_cell BK180.out 1).trans rfl;have hcz25_2:w23.cell? ⟨gb180,2,none⟩=some (.int .i64 0):=(blk_cell BK180.out 2).trans rfl;have hcz25_3:w23.cell? ⟨gb180,3,none⟩=some (.int .i64 0):=(blk_cell BK180.out 3).trans rfl;have hcz25_4:w23.cell? ⟨gb180,4,none⟩=some (.string (⟨#[]⟩:ByteArray)):=(blk_cell BK180.out 4).trans rfl;have hfz25_0:=blk_frozen BK180.out 0;have hfz25_1:=blk_frozen BK180.out 1;have hfz25_2:=blk_frozen BK180.out 2;have hfz25_3:=blk_frozen BK180.out 3;have hfz25_4:=blk_frozen BK180.out 4))
  refine bodyPost_ret (results_cell_row rfl _ _ gb180 45 #[.string t181,.int .i64 t188,.int .i64 t183,.int .i64 t184,.string t185] (0,0) _ rfl (by (with_reducible repeat (first|refine blk_drewN ?_ _|refine blk_drew ?_|refine blk_alloc ?_ _));refine blk_put (cs:=#[.string t181,.int .i64 t188,.int .i64 t183,.int .i64 t184,.string (⟨#[]⟩:ByteArray)]) ?_ 4 _ rfl;(with_reducible repeat (first|refine blk_drewN ?_ _|refine blk_drew ?_|refine blk_alloc ?_ _));refine blk_put (cs:=#[.string t181,.int .i64 t188,.int .i64 t183,.int .i64 0,.string (⟨#[]⟩:ByteArray)]) ?_ 3 _ rfl;(with_reducible repeat (first|refine blk_drewN ?_ _|refine blk_drew ?_|refine blk_alloc ?_ _));refine blk_put (cs:=#[.string t181,.int .i64 t188,.int .i64 0,.int .i64 0,.string (⟨#[]⟩:ByteArray)]) ?_ 2 _ rfl;(with_reducible repeat (first|refine blk_drewN ?_ _|refine blk_drew ?_|refine blk_alloc ?_ _));refine blk_put (cs:=#[.string t181,.int .i64 0,.int .i64 0,.int .i64 0,.string (⟨#[]⟩:ByteArray)]) ?_ 1 _ rfl;(with_reducible repeat (first|refine blk_drewN ?_ _|refine blk_drew ?_|refine blk_alloc ?_ _));refine blk_put (cs:=#[.string (⟨#[]⟩:ByteArray),.int .i64 0,.int .i64 0,.int .i64 0,.string (⟨#[]⟩:ByteArray)]) ?_ 0 _ rfl;(with_reducible repeat (first|refine blk_drewN ?_ _|refine blk_drew ?_|refine blk_alloc ?_ _));refine blk_far ?_ NB180_186.out _;(with_reducible repeat (first|refine blk_drewN ?_ _|refine blk_drew ?_|refine blk_alloc ?_ _));exact BK180.out) Tryz.underlying45 rfl (by kernel_rfl)) rfl ?_
  exact ⟨by first|rfl|(simp [errW_none,errW_some] <;> rfl)|(simp [*,errW_none,errW_some] <;> rfl),by repeat (first|(with_reducible first|exact HB.out|apply below_alloc|apply pw_below_drewN|apply below_drew1|refine below_set ?_ GE180.out|refine below_set ?_ GE186.out)|exact HB.out)⟩
end Go.Proofs.YtjiidlkkkednoaaGreatDoor.Q
