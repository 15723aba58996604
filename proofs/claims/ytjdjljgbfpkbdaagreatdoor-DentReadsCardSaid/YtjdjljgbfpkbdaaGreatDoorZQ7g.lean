import Derived.Test.YtjdjljgbfpkbdaaGreatDoorZQ0
import Derived.Test.YtjdjljgbfpkbdaaGreatDoorZQ4g
section
namespace Go.Proofs.YtjdjljgbfpkbdaaGreatDoor.Q
open Go.RowKit Go.Proofs.YtjdjljgbfpkbdaaGreatDoorW.PrintWords Go.Proofs.YtjdjljgbfpkbdaaGreatDoorW.PrintLast Go.Proofs.YtjdjljgbfpkbdaaGreatDoorW.PrintMore
attribute [local go_sem] max2_int min2_int max_two min_two max_three min_three max_four min_four
set_option linter.unusedVariables false
set_option linter.unusedSimpArgs false
def transhumanceref1_Plain.l0:Nat→ByteArray→Int→Option (Bool)
 | 0,_,_ => none
 | k+1,x0,x3 => if x3<(x0.size:Int) then (if 0≤x3 then ((transhumanceref1_bad.f (bt x0 x3)).bind fun t128 => (if t128=true then (some false) else (transhumanceref1_Plain.l0 k x0 (wrap64 (x3+1))))) else (none)) else (some true)
def transhumanceref1_Plain.f (k:Nat) (a0:ByteArray):Option (Bool):=transhumanceref1_Plain.l0 k a0 0
set_option maxHeartbeats 8000000 in
set_option maxRecDepth 100000 in
theorem transhumanceref1_Plain.calls (k:Nat) (a0:ByteArray) (r:Bool) (w:World) (h:transhumanceref1_Plain.f k a0=some r) :
  Calls Tryz.prog 65 #[.string a0] w fun e w' => e=.returned (.bool r)∧Drawn0 w w':=by
 have H:(transhumanceref1_Plain.l0 k a0 0)=some r:=h
 clear h
 have H':=Aside0.mk H
 clear H
 go_enter Tryz.func65,Tryz.ntmps65
 go_wp2
 go_loopg [3] k (fun kq v3 w' => ∃ (x3_1:Int),v3=.int .i64 x3_1∧Aside0 (transhumanceref1_Plain.l0 kq a0 x3_1=some r)∧Aside0 (kq≤k)∧Drawn0 w w')
 case atStart => exact ⟨(0),(by first|rfl|(simp;done)|(simp [*];done)|(simp;exact (fun l_:List UInt8 => by cases l_ <;> rfl:∀ l_:List UInt8,l_.isEmpty=!(l_ != [])) _)),H',⟨Nat.le_refl _⟩,by repeat (first|exact Drawn0.refl _|apply Drawn0.step)⟩
 case round =>
  clear H'
  obtain ⟨x3_1,rfl,HA,HK1,⟨m1,rfl⟩⟩:=hrel
  cases gk with
  | zero => exact absurd HA.out (by simp [transhumanceref1_Plain.l0])
  | succ k1 =>
   have H:=HA.out
   clear HA
   simp only [transhumanceref1_Plain.l0] at H
   by_cases c2:x3_1<(a0.size:Int)
   ·rw [if_pos c2] at H
    have c2b0:decide (x3_1<(a0.size:Int))=true:=decide_eq_true c2
    clear c2
    by_cases c3:0≤x3_1
    ·rw [if_pos c3] at H
     have c3b0:decide (0≤x3_1)=true:=decide_eq_true c3
     clear c3
     replace H:=Option.bind_eq_some_iff.mp H
     obtain ⟨t128,A50,H⟩:=H
     replace H:(if t128=true then (some false) else (transhumanceref1_Plain.l0 k1 a0 (wrap64 (x3_1+1))))=some r:=H
     have A5:=Aside0.mk A50
     clear A50
     by_cases c6:t128=true
     ·subst c6
      have H1:(some false)=some r:=by rw [if_pos rfl] at H;exact H
      clear H
      have H:=H1
      clear H1
      obtain rfl:=Option.some.inj H
      have p4:0≤(x3_1:Int):=of_decide_eq_true (by first|(with_reducible assumption)|assumption)
      have q4:x3_1<(a0.size:Int):=of_decide_eq_true (by first|(with_reducible assumption)|assumption)
      have hx4:=bt_at a0 x3_1
      replace p4:=eq_true p4
      replace q4:=eq_true q4
      go_wp2_with (first|((with_reducible refine gate_callee (f:=66) rfl ?_);refine goesL_ (some 13) rfl rfl Tryz.func66 (by kernel_rfl) rfl #[.int .u8 (bt a0 x3_1)] rfl (by (try simp only [List.map_toArray,List.map_cons,List.map_nil]);first|done|rfl|(simp only [List.length_drop,List.length_take];rfl)) ?_;(with_reducible refine (transhumanceref1_bad.calls (bt a0 x3_1) true _ A5.out).mono ?_);rintro e w' ⟨rfl,⟨nd,rfl⟩⟩;refine ⟨_,rfl,?_⟩))
      go_ret
      exact ⟨by first|rfl|(simp;done)|(simp [*];done)|(simp;exact (fun l_:List UInt8 => by cases l_ <;> rfl:∀ l_:List UInt8,l_.isEmpty=!(l_ != [])) _),by repeat (first|exact Drawn0.refl _|apply Drawn0.step)⟩
     ·replace c6:=Bool.eq_false_iff.mpr c6
      subst c6
      have H1:(transhumanceref1_Plain.l0 k1 a0 (wrap64 (x3_1+1)))=some r:=by rw [if_neg (show ¬ (false=true) by decide)] at H;exact H
      clear H
      have H:=H1
      clear H1
      have H':=Aside0.mk H
      clear H
      have p4:0≤(x3_1:Int):=of_decide_eq_true (by first|(with_reducible assumption)|assumption)
      have q4:x3_1<(a0.size:Int):=of_decide_eq_true (by first|(with_reducible assumption)|assumption)
      have hx4:=bt_at a0 x3_1
      replace p4:=eq_true p4
      replace q4:=eq_true q4
      go_wp2_with (first|((with_reducible refine gate_callee (f:=66) rfl ?_);refine goesL_ (some 13) rfl rfl Tryz.func66 (by kernel_rfl) rfl #[.int .u8 (bt a0 x3_1)] rfl (by (try simp only [List.map_toArray,List.map_cons,List.map_nil]);first|done|rfl|(simp only [List.length_drop,List.length_take];rfl)) ?_;(with_reducible refine (transhumanceref1_bad.calls (bt a0 x3_1) false _ A5.out).mono ?_);rintro e w' ⟨rfl,⟨nd,rfl⟩⟩;refine ⟨_,rfl,?_⟩))
      go_roundg k1
      case measure => have:=HK1.out;omega
      case rel => exact ⟨(wrap64 (x3_1+1)),(by first|rfl|(simp;done)|(simp [*];done)|(simp;exact (fun l_:List UInt8 => by cases l_ <;> rfl:∀ l_:List UInt8,l_.isEmpty=!(l_ != [])) _)),H',⟨by have:=HK1.out;omega⟩,by repeat (first|exact Drawn0.refl _|apply Drawn0.step)⟩
    ·rw [if_neg c3] at H
     exact absurd H (by simp)
   ·rw [if_neg c2] at H
    have c2b0:decide (x3_1<(a0.size:Int))=false:=decide_eq_false c2
    clear c2
    obtain rfl:=Option.some.inj H
    go_wp2
    go_ret
    exact ⟨by first|rfl|(simp;done)|(simp [*];done)|(simp;exact (fun l_:List UInt8 => by cases l_ <;> rfl:∀ l_:List UInt8,l_.isEmpty=!(l_ != [])) _),by repeat (first|exact Drawn0.refl _|apply Drawn0.step)⟩
end Go.Proofs.YtjdjljgbfpkbdaaGreatDoor.Q
end
section
namespace Go.Proofs.YtjdjljgbfpkbdaaGreatDoor.Q
open Go.RowKit Go.Proofs.YtjdjljgbfpkbdaaGreatDoorW.PrintWords Go.Proofs.YtjdjljgbfpkbdaaGreatDoorW.PrintLast Go.Proofs.YtjdjljgbfpkbdaaGreatDoorW.PrintMore
attribute [local go_sem] max2_int min2_int max_two min_two max_three min_three max_four min_four
set_option linter.unusedVariables false
set_option linter.unusedSimpArgs false
mutual
def transhumanceref7_plain.j0:Nat→ByteArray→Bool→Option (Bool)
 | 0,_,_ => none
 | k+1,x0,x28 => if x28=true then (some false) else (transhumanceref7_plain.l0 k x0 0)
def transhumanceref7_plain.l0:Nat→ByteArray→Int→Option (Bool)
 | 0,_,_ => none
 | k+1,x0,x3 => if x3<(x0.size:Int) then (if 0≤x3 then (if (bt x0 x3)=10 then (some false) else (if x3≤(wrap64 (x3+1)) then (if (wrap64 (x3+1))≤(x0.size:Int) then ((transhumanceref1_Plain.f k (x0.extract (x3:Int).toNat ((wrap64 (x3+1)):Int).toNat)).bind fun t129 => (if t129=true then (if (bt x0 x3)=35 then (if 0≤(wrap64 (x3 - 1)) then (if (wrap64 (x3 - 1))<(x0.size:Int) then (if (bt x0 (wrap64 (x3 - 1)))=32 then (some false) else (transhumanceref7_plain.l0 k x0 (wrap64 (x3+1)))) else (none)) else (none)) else (transhumanceref7_plain.l0 k x0 (wrap64 (x3+1)))) else (some false))) else (none)) else (none))) else (none)) else (some true)
end
def transhumanceref7_plain.f (k:Nat) (a0:ByteArray):Option (Bool):=if a0.toList=([]:List UInt8) then (transhumanceref7_plain.j0 k a0 true) else (if 0<(a0.size:Int) then (if (bt a0 0)=34 then (transhumanceref7_plain.j0 k a0 true) else (if (bt a0 0)=32 then (transhumanceref7_plain.j0 k a0 true) else (if (bt a0 0)=35 then (transhumanceref7_plain.j0 k a0 true) else (if 0≤(wrap64 ((a0.size:Int) - 1)) then (if (wrap64 ((a0.size:Int) - 1))<(a0.size:Int) then (transhumanceref7_plain.j0 k a0 ((bt a0 (wrap64 ((a0.size:Int) - 1))) == 32)) else (none)) else (none))))) else (none))
set_option maxHeartbeats 8000000 in
set_option maxRecDepth 100000 in
theorem transhumanceref7_plain.calls (k:Nat) (a0:ByteArray) (r:Bool) (w:World) (h:transhumanceref7_plain.f k a0=some r) :
  Calls Tryz.prog 34 #[.string a0] w fun e w' => e=.returned (.bool r)∧Drawn0 w w':=by
 have H:(if a0.toList=([]:List UInt8) then (transhumanceref7_plain.j0 k a0 true) else (if 0<(a0.size:Int) then (if (bt a0 0)=34 then (transhumanceref7_plain.j0 k a0 true) else (if (bt a0 0)=32 then (transhumanceref7_plain.j0 k a0 true) else (if (bt a0 0)=35 then (transhumanceref7_plain.j0 k a0 true) else (if 0≤(wrap64 ((a0.size:Int) - 1)) then (if (wrap64 ((a0.size:Int) - 1))<(a0.size:Int) then (transhumanceref7_plain.j0 k a0 ((bt a0 (wrap64 ((a0.size:Int) - 1))) == 32)) else (none)) else (none))))) else (none)))=some r:=h
 clear h
 have HC2:=Aside0.mk H
 clear H
 go_enter Tryz.func34,Tryz.ntmps34
 go_upto_region 1 with (fail)
 go_cut [28] (fun v28 wc => ∃ (kq:Nat) (x28_1:Bool),v28=.bool x28_1∧Aside0 (transhumanceref7_plain.j0 kq a0 x28_1=some r)∧Aside0 (kq≤k)∧Drawn0 w wc)
 case first =>
  have H:=HC2.out
  clear HC2
  by_cases c3:a0.toList=([]:List UInt8)
  ·rw [if_pos c3] at H
   have c3b0:(a0.toList == ([]:List UInt8))=true:=beq_iff_eq.mpr c3
   have c3b1:(a0.toList != ([]:List UInt8))=false:=bne_eq_false_iff_eq.mpr c3
   clear c3
   (first|rw [c3b0]|(simp only [i64_w,i32_w];rw [c3b0])|skip)
   have H':=Aside0.mk H
   clear H
   go_wp2
   go_meet
   case rel => exact ⟨_,(true),(by first|rfl|(simp;done)|(simp [*];done)|(simp;exact (fun l_:List UInt8 => by cases l_ <;> rfl:∀ l_:List UInt8,l_.isEmpty=!(l_ != [])) _)),H',⟨by first|omega|exact Nat.le_refl _⟩,by repeat (first|exact Drawn0.refl _|apply Drawn0.step)⟩
  ·rw [if_neg c3] at H
   have c3b0:(a0.toList == ([]:List UInt8))=false:=beq_eq_false_iff_ne.mpr c3
   have c3b1:(a0.toList != ([]:List UInt8))=true:=bne_iff_ne.mpr c3
   (first|rw [c3b0]|(simp only [i64_w,i32_w];rw [c3b0])|skip)
   by_cases c4:0<(a0.size:Int)
   ·rw [if_pos c4] at H
    have c4b0:decide (0<(a0.size:Int))=true:=decide_eq_true c4
    have c4b1:decide (0<a0.size)=true:=decide_eq_true (by omega)
    clear c4
    by_cases c6:(bt a0 0)=34
    ·rw [if_pos c6] at H
     have c6b0:((bt a0 0) == 34)=true:=beq_iff_eq.mpr c6
     have c6b1:((bt a0 0) != 34)=false:=bne_eq_false_iff_eq.mpr c6
     clear c6
     have H':=Aside0.mk H
     clear H
     have p5:0≤(0:Int):=(by omega)
     have q5:0<a0.size:=(by have:(0:Int)<(a0.size:Int):=of_decide_eq_true (by first|(with_reducible assumption)|assumption);omega)
     have hx5:∀ h:0<a0.size,((a0[0]'h).toNat:Int)=bt a0 0:=bt_at a0 0
     clear p5
     have qi5:(0<(a0.size:Int))=True:=eq_true (of_decide_eq_true (by first|(with_reducible assumption)|assumption))
     replace q5:=eq_true q5
     go_wp2
     go_meet
     case rel => exact ⟨_,(true),(by first|rfl|(simp;done)|(simp [*];done)|(simp;exact (fun l_:List UInt8 => by cases l_ <;> rfl:∀ l_:List UInt8,l_.isEmpty=!(l_ != [])) _)),H',⟨by first|omega|exact Nat.le_refl _⟩,by repeat (first|exact Drawn0.refl _|apply Drawn0.step)⟩
    ·rw [if_neg c6] at H
     have c6b0:((bt a0 0) == 34)=false:=beq_eq_false_iff_ne.mpr c6
     have c6b1:((bt a0 0) != 34)=true:=bne_iff_ne.mpr c6
     by_cases c8:(bt a0 0)=32
     ·rw [if_pos c8] at H
      have c8b0:((bt a0 0) == 32)=true:=beq_iff_eq.mpr c8
      have c8b1:((bt a0 0) != 32)=false:=bne_eq_false_iff_eq.mpr c8
      clear c8
      have H':=Aside0.mk H
      clear H
      have p5:0≤(0:Int):=(by omega)
      have q5:0<a0.size:=(by have:(0:Int)<(a0.size:Int):=of_decide_eq_true (by first|(with_reducible assumption)|assumption);omega)
      have hx5:∀ h:0<a0.size,((a0[0]'h).toNat:Int)=bt a0 0:=bt_at a0 0
      clear p5
      have qi5:(0<(a0.size:Int))=True:=eq_true (of_decide_eq_true (by first|(with_reducible assumption)|assumption))
      replace q5:=eq_true q5
      have p7:0≤(0:Int):=(by omega)
      have q7:0<a0.size:=(by have:(0:Int)<(a0.size:Int):=of_decide_eq_true (by first|(with_reducible assumption)|assumption);omega)
      have hx7:∀ h:0<a0.size,((a0[0]'h).toNat:Int)=bt a0 0:=bt_at a0 0
      clear p7
      have qi7:(0<(a0.size:Int))=True:=eq_true (of_decide_eq_true (by first|(with_reducible assumption)|assumption))
      replace q7:=eq_true q7
      go_wp2
      go_meet
      case rel => exact ⟨_,(true),(by first|rfl|(simp;done)|(simp [*];done)|(simp;exact (fun l_:List UInt8 => by cases l_ <;> rfl:∀ l_:List UInt8,l_.isEmpty=!(l_ != [])) _)),H',⟨by first|omega|exact Nat.le_refl _⟩,by repeat (first|exact Drawn0.refl _|apply Drawn0.step)⟩
     ·rw [if_neg c8] at H
      have c8b0:((bt a0 0) == 32)=false:=beq_eq_false_iff_ne.mpr c8
      have c8b1:((bt a0 0) != 32)=true:=bne_iff_ne.mpr c8
      by_cases c10:(bt a0 0)=35
      ·rw [if_pos c10] at H
       have c10b0:((bt a0 0) == 35)=true:=beq_iff_eq.mpr c10
       have c10b1:((bt a0 0) != 35)=false:=bne_eq_false_iff_eq.mpr c10
       clear c10
       have H':=Aside0.mk H
       clear H
       have p5:0≤(0:Int):=(by omega)
       have q5:0<a0.size:=(by have:(0:Int)<(a0.size:Int):=of_decide_eq_true (by first|(with_reducible assumption)|assumption);omega)
       have hx5:∀ h:0<a0.size,((a0[0]'h).toNat:Int)=bt a0 0:=bt_at a0 0
       clear p5
       have qi5:(0<(a0.size:Int))=True:=eq_true (of_decide_eq_true (by first|(with_reducible assumption)|assumption))
       replace q5:=eq_true q5
       have p7:0≤(0:Int):=(by omega)
       have q7:0<a0.size:=(by have:(0:Int)<(a0.size:Int):=of_decide_eq_true (by first|(with_reducible assumption)|assumption);omega)
       have hx7:∀ h:0<a0.size,((a0[0]'h).toNat:Int)=bt a0 0:=bt_at a0 0
       clear p7
       have qi7:(0<(a0.size:Int))=True:=eq_true (of_decide_eq_true (by first|(with_reducible assumption)|assumption))
       replace q7:=eq_true q7
       have p9:0≤(0:Int):=(by omega)
       have q9:0<a0.size:=(by have:(0:Int)<(a0.size:Int):=of_decide_eq_true (by first|(with_reducible assumption)|assumption);omega)
       have hx9:∀ h:0<a0.size,((a0[0]'h).toNat:Int)=bt a0 0:=bt_at a0 0
       clear p9
       have qi9:(0<(a0.size:Int))=True:=eq_true (of_decide_eq_true (by first|(with_reducible assumption)|assumption))
       replace q9:=eq_true q9
       go_wp2
       go_meet
       case rel => exact ⟨_,(true),(by first|rfl|(simp;done)|(simp [*];done)|(simp;exact (fun l_:List UInt8 => by cases l_ <;> rfl:∀ l_:List UInt8,l_.isEmpty=!(l_ != [])) _)),H',⟨by first|omega|exact Nat.le_refl _⟩,by repeat (first|exact Drawn0.refl _|apply Drawn0.step)⟩
      ·rw [if_neg c10] at H
       have c10b0:((bt a0 0) == 35)=false:=beq_eq_false_iff_ne.mpr c10
       have c10b1:((bt a0 0) != 35)=true:=bne_iff_ne.mpr c10
       obtain ⟨ji11,hji11⟩:∃ j_:Int,(wrap64 ((a0.size:Int) - 1))=j_:=⟨_,rfl⟩
       replace H:(if 0≤(ji11) then (if (ji11)<(a0.size:Int) then (transhumanceref7_plain.j0 k a0 ((bt a0 (ji11)) == 32)) else (none)) else (none))=some r:=by first|(rw [hji11] at H;exact H)|(simp only [hji11] at H ⊢;exact H)
       have hji11w:(IntKind.i64.wrap ((a0.size:Int) - 1))=ji11:=(i64_w _).trans hji11
       by_cases c12:0≤(ji11)
       ·rw [if_pos c12] at H
        have c12b0:decide (0≤(ji11))=true:=decide_eq_true c12
        clear c12
        by_cases c13:(ji11)<(a0.size:Int)
        ·rw [if_pos c13] at H
         have c13b0:decide ((ji11)<(a0.size:Int))=true:=decide_eq_true c13
         clear c13
         have H':=Aside0.mk H
         clear H
         have p5:0≤(0:Int):=(by omega)
         have q5:0<a0.size:=(by have:(0:Int)<(a0.size:Int):=of_decide_eq_true (by first|(with_reducible assumption)|assumption);omega)
         have hx5:∀ h:0<a0.size,((a0[0]'h).toNat:Int)=bt a0 0:=bt_at a0 0
         clear p5
         have qi5:(0<(a0.size:Int))=True:=eq_true (of_decide_eq_true (by first|(with_reducible assumption)|assumption))
         replace q5:=eq_true q5
         have p7:0≤(0:Int):=(by omega)
         have q7:0<a0.size:=(by have:(0:Int)<(a0.size:Int):=of_decide_eq_true (by first|(with_reducible assumption)|assumption);omega)
         have hx7:∀ h:0<a0.size,((a0[0]'h).toNat:Int)=bt a0 0:=bt_at a0 0
         clear p7
         have qi7:(0<(a0.size:Int))=True:=eq_true (of_decide_eq_true (by first|(with_reducible assumption)|assumption))
         replace q7:=eq_true q7
         have p9:0≤(0:Int):=(by omega)
         have q9:0<a0.size:=(by have:(0:Int)<(a0.size:Int):=of_decide_eq_true (by first|(with_reducible assumption)|assumption);omega)
         have hx9:∀ h:0<a0.size,((a0[0]'h).toNat:Int)=bt a0 0:=bt_at a0 0
         clear p9
         have qi9:(0<(a0.size:Int))=True:=eq_true (of_decide_eq_true (by first|(with_reducible assumption)|assumption))
         replace q9:=eq_true q9
         have p14:0≤((ji11):Int):=of_decide_eq_true (by first|(with_reducible assumption)|assumption)
         have q14:(ji11)<(a0.size:Int):=of_decide_eq_true (by first|(with_reducible assumption)|assumption)
         have hx14:=bt_at a0 (ji11)
         replace p14:=eq_true p14
         replace q14:=eq_true q14
         go_wp2
         go_meet
         case rel => exact ⟨_,(((bt a0 (ji11)) == 32)),(by first|rfl|(simp;done)|(simp only [← hji11] <;> (first|rfl|(simp;done)|(simp [*];done)|(simp_all;done)))|(simp [*];done)|(simp;exact (fun l_:List UInt8 => by cases l_ <;> rfl:∀ l_:List UInt8,l_.isEmpty=!(l_ != [])) _)),H',⟨by first|omega|exact Nat.le_refl _⟩,by repeat (first|exact Drawn0.refl _|apply Drawn0.step)⟩
        ·rw [if_neg c13] at H
         exact absurd H (by simp)
       ·rw [if_neg c12] at H
        exact absurd H (by simp)
   ·rw [if_neg c4] at H
    exact absurd H (by simp)
 case rest =>
  clear HC2
  try clear c1
  try clear p1
  try clear q1
  try clear hx1
  try clear p2
  try clear c3
  try clear c3b0
  try clear c3b1
  try clear c4
  try clear c4b0
  try clear c4b1
  try clear p5
  try clear q5
  try clear hx5
  try clear qi5
  try clear c6
  try clear c6b0
  try clear c6b1
  try clear p6
  try clear p7
  try clear q7
  try clear hx7
  try clear qi7
  try clear c8
  try clear c8b0
  try clear c8b1
  try clear p9
  try clear q9
  try clear hx9
  try clear qi9
  try clear c10
  try clear c10b0
  try clear c10b1
  try clear c12
  try clear c12b0
  try clear c13
  try clear c13b0
  try clear p14
  try clear q14
  try clear hx14
  try clear p14
  try clear p5
  try clear p7
  try clear p9
  try clear q14
  try clear q5
  try clear q7
  try clear q9
  obtain ⟨kq,x28_1,rfl,HA,HJ1,⟨mc1,rfl⟩⟩:=hcut
  cases kq with
  | zero => exact absurd HA.out (by simp [transhumanceref7_plain.j0])
  | succ kj1 =>
   have H:=HA.out
   clear HA
   simp only [transhumanceref7_plain.j0] at H
   by_cases c15:x28_1=true
   ·subst c15
    have H1:(some false)=some r:=by rw [if_pos rfl] at H;exact H
    clear H
    have H:=H1
    clear H1
    obtain rfl:=Option.some.inj H
    go_wp2
    go_ret
    exact ⟨by first|rfl|(simp;done)|(simp [*];done)|(simp;exact (fun l_:List UInt8 => by cases l_ <;> rfl:∀ l_:List UInt8,l_.isEmpty=!(l_ != [])) _),by repeat (first|exact Drawn0.refl _|apply Drawn0.step)⟩
   ·replace c15:=Bool.eq_false_iff.mpr c15
    subst c15
    have H1:(transhumanceref7_plain.l0 kj1 a0 0)=some r:=by rw [if_neg (show ¬ (false=true) by decide)] at H;exact H
    clear H
    have H:=H1
    clear H1
    have H':=Aside0.mk H
    clear H
    go_wp2
    go_loopg [3] kj1 (fun kq v3 w' => ∃ (x3_2:Int),v3=.int .i64 x3_2∧Aside0 (transhumanceref7_plain.l0 kq a0 x3_2=some r)∧Aside0 (kq≤kj1)∧Drawn0 w w')
    case atStart => exact ⟨(0),(by first|rfl|(simp;done)|(simp [*];done)|(simp;exact (fun l_:List UInt8 => by cases l_ <;> rfl:∀ l_:List UInt8,l_.isEmpty=!(l_ != [])) _)),H',⟨Nat.le_refl _⟩,by repeat (first|exact Drawn0.refl _|apply Drawn0.step)⟩
    case round =>
     clear H'
     try clear c1
     try clear p1
     try clear q1
     try clear hx1
     try clear p2
     try clear c3
     try clear c3b0
     try clear c3b1
     try clear c4
     try clear c4b0
     try clear c4b1
     try clear p5
     try clear q5
     try clear hx5
     try clear qi5
     try clear c6
     try clear c6b0
     try clear c6b1
     try clear p6
     try clear p7
     try clear q7
     try clear hx7
     try clear qi7
     try clear c8
     try clear c8b0
     try clear c8b1
     try clear p9
     try clear q9
     try clear hx9
     try clear qi9
     try clear c10
     try clear c10b0
     try clear c10b1
     try clear c12
     try clear c12b0
     try clear c13
     try clear c13b0
     try clear p14
     try clear q14
     try clear hx14
     try clear c15
     try clear p1
     try clear p14
     try clear p2
     try clear p5
     try clear p6
     try clear p7
     try clear p9
     try clear q1
     try clear q14
     try clear q5
     try clear q7
     try clear q9
     obtain ⟨x3_2,rfl,HA,HK2,⟨m2,rfl⟩⟩:=hrel
     cases gk with
     | zero => exact absurd HA.out (by simp [transhumanceref7_plain.l0])
     | succ k2 =>
      have H:=HA.out
      clear HA
      simp only [transhumanceref7_plain.l0] at H
      by_cases c16:x3_2<(a0.size:Int)
      ·rw [if_pos c16] at H
       have c16b0:decide (x3_2<(a0.size:Int))=true:=decide_eq_true c16
       clear c16
       by_cases c17:0≤x3_2
       ·rw [if_pos c17] at H
        have c17b0:decide (0≤x3_2)=true:=decide_eq_true c17
        clear c17
        by_cases c19:(bt a0 x3_2)=10
        ·rw [if_pos c19] at H
         have c19b0:((bt a0 x3_2) == 10)=true:=beq_iff_eq.mpr c19
         have c19b1:((bt a0 x3_2) != 10)=false:=bne_eq_false_iff_eq.mpr c19
         clear c19
         obtain rfl:=Option.some.inj H
         have p18:0≤(x3_2:Int):=of_decide_eq_true (by first|(with_reducible assumption)|assumption)
         have q18:x3_2<(a0.size:Int):=of_decide_eq_true (by first|(with_reducible assumption)|assumption)
         have hx18:=bt_at a0 x3_2
         replace p18:=eq_true p18
         replace q18:=eq_true q18
         go_wp2
         go_ret
         exact ⟨by first|rfl|(simp;done)|(simp [*];done)|(simp;exact (fun l_:List UInt8 => by cases l_ <;> rfl:∀ l_:List UInt8,l_.isEmpty=!(l_ != [])) _),by repeat (first|exact Drawn0.refl _|apply Drawn0.step)⟩
        ·rw [if_neg c19] at H
         have c19b0:((bt a0 x3_2) == 10)=false:=beq_eq_false_iff_ne.mpr c19
         have c19b1:((bt a0 x3_2) != 10)=true:=bne_iff_ne.mpr c19
         have c20b0:=eq_true (of_decide_eq_true (by first|(with_reducible assumption)|assumption):0≤x3_2)
         by_cases c21:x3_2≤(wrap64 (x3_2+1))
         ·rw [if_pos c21] at H
          have c21b0:=eq_true c21
          have c21b1:decide (x3_2≤(wrap64 (x3_2+1)))=true:=decide_eq_true c21
          by_cases c22:(wrap64 (x3_2+1))≤(a0.size:Int)
          ·rw [if_pos c22] at H
           have c22b0:=eq_true c22
           have c22b1:decide ((wrap64 (x3_2+1))≤(a0.size:Int))=true:=decide_eq_true c22
           replace H:=Option.bind_eq_some_iff.mp H
           obtain ⟨t129,A230,H⟩:=H
           replace H:(if t129=true then (if (bt a0 x3_2)=35 then (if 0≤(wrap64 (x3_2 - 1)) then (if (wrap64 (x3_2 - 1))<(a0.size:Int) then (if (bt a0 (wrap64 (x3_2 - 1)))=32 then (some false) else (transhumanceref7_plain.l0 k2 a0 (wrap64 (x3_2+1)))) else (none)) else (none)) else (transhumanceref7_plain.l0 k2 a0 (wrap64 (x3_2+1)))) else (some false))=some r:=H
           have A23:=Aside0.mk A230
           clear A230
           by_cases c24:t129=true
           ·subst c24
            have H1:(if (bt a0 x3_2)=35 then (if 0≤(wrap64 (x3_2 - 1)) then (if (wrap64 (x3_2 - 1))<(a0.size:Int) then (if (bt a0 (wrap64 (x3_2 - 1)))=32 then (some false) else (transhumanceref7_plain.l0 k2 a0 (wrap64 (x3_2+1)))) else (none)) else (none)) else (transhumanceref7_plain.l0 k2 a0 (wrap64 (x3_2+1))))=some r:=by rw [if_pos rfl] at H;exact H
            clear H
            have H:=H1
            clear H1
            by_cases c26:(bt a0 x3_2)=35
            ·rw [if_pos c26] at H
             have c26b0:((bt a0 x3_2) == 35)=true:=beq_iff_eq.mpr c26
             have c26b1:((bt a0 x3_2) != 35)=false:=bne_eq_false_iff_eq.mpr c26
             clear c26
             obtain ⟨ji27,hji27⟩:∃ j_:Int,(wrap64 (x3_2 - 1))=j_:=⟨_,rfl⟩
             replace H:(if 0≤(ji27) then (if (ji27)<(a0.size:Int) then (if (bt a0 (ji27))=32 then (some false) else (transhumanceref7_plain.l0 k2 a0 (wrap64 (x3_2+1)))) else (none)) else (none))=some r:=by first|(rw [hji27] at H;exact H)|(simp only [hji27] at H ⊢;exact H)
             (try rw [hji27] at A23)
             have hji27w:(IntKind.i64.wrap (x3_2 - 1))=ji27:=(i64_w _).trans hji27
             by_cases c28:0≤(ji27)
             ·rw [if_pos c28] at H
              have c28b0:decide (0≤(ji27))=true:=decide_eq_true c28
              clear c28
              by_cases c29:(ji27)<(a0.size:Int)
              ·rw [if_pos c29] at H
               have c29b0:decide ((ji27)<(a0.size:Int))=true:=decide_eq_true c29
               clear c29
               by_cases c31:(bt a0 (ji27))=32
               ·rw [if_pos c31] at H
                have c31b0:((bt a0 (ji27)) == 32)=true:=beq_iff_eq.mpr c31
                have c31b1:((bt a0 (ji27)) != 32)=false:=bne_eq_false_iff_eq.mpr c31
                clear c31
                obtain rfl:=Option.some.inj H
                have p18:0≤(x3_2:Int):=of_decide_eq_true (by first|(with_reducible assumption)|assumption)
                have q18:x3_2<(a0.size:Int):=of_decide_eq_true (by first|(with_reducible assumption)|assumption)
                have hx18:=bt_at a0 x3_2
                replace p18:=eq_true p18
                replace q18:=eq_true q18
                go_wp2_with (first|(go_at_call 65;(with_reducible refine (transhumanceref1_Plain.calls k2 (a0.extract (x3_2:Int).toNat ((wrap64 (x3_2+1)):Int).toNat) true _ A23.out).mono ?_);rintro e w' ⟨rfl,⟨nd,rfl⟩⟩;have p25:0≤(x3_2:Int):=of_decide_eq_true (by first|(with_reducible assumption)|assumption);have q25:x3_2<(a0.size:Int):=of_decide_eq_true (by first|(with_reducible assumption)|assumption);have hx25:=bt_at a0 x3_2;replace p25:=eq_true p25;replace q25:=eq_true q25;have p30:0≤((ji27):Int):=of_decide_eq_true (by first|(with_reducible assumption)|assumption);have q30:(ji27)<(a0.size:Int):=of_decide_eq_true (by first|(with_reducible assumption)|assumption);have hx30:=bt_at a0 (ji27);replace p30:=eq_true p30;replace q30:=eq_true q30))
                go_ret
                exact ⟨by first|rfl|(simp;done)|(simp only [← hji27] <;> (first|rfl|(simp;done)|(simp [*];done)|(simp_all;done)))|(simp [*];done)|(simp;exact (fun l_:List UInt8 => by cases l_ <;> rfl:∀ l_:List UInt8,l_.isEmpty=!(l_ != [])) _),by repeat (first|exact Drawn0.refl _|apply Drawn0.step)⟩
               ·rw [if_neg c31] at H
                have c31b0:((bt a0 (ji27)) == 32)=false:=beq_eq_false_iff_ne.mpr c31
                have c31b1:((bt a0 (ji27)) != 32)=true:=bne_iff_ne.mpr c31
                have H':=Aside0.mk H
                clear H
                have p18:0≤(x3_2:Int):=of_decide_eq_true (by first|(with_reducible assumption)|assumption)
                have q18:x3_2<(a0.size:Int):=of_decide_eq_true (by first|(with_reducible assumption)|assumption)
                have hx18:=bt_at a0 x3_2
                replace p18:=eq_true p18
                replace q18:=eq_true q18
                go_wp2_with (first|(go_at_call 65;(with_reducible refine (transhumanceref1_Plain.calls k2 (a0.extract (x3_2:Int).toNat ((wrap64 (x3_2+1)):Int).toNat) true _ A23.out).mono ?_);rintro e w' ⟨rfl,⟨nd,rfl⟩⟩;have p25:0≤(x3_2:Int):=of_decide_eq_true (by first|(with_reducible assumption)|assumption);have q25:x3_2<(a0.size:Int):=of_decide_eq_true (by first|(with_reducible assumption)|assumption);have hx25:=bt_at a0 x3_2;replace p25:=eq_true p25;replace q25:=eq_true q25;have p30:0≤((ji27):Int):=of_decide_eq_true (by first|(with_reducible assumption)|assumption);have q30:(ji27)<(a0.size:Int):=of_decide_eq_true (by first|(with_reducible assumption)|assumption);have hx30:=bt_at a0 (ji27);replace p30:=eq_true p30;replace q30:=eq_true q30))
                go_roundg k2
                case measure => have:=HJ1.out;have:=HK2.out;omega
                case rel => exact ⟨(wrap64 (x3_2+1)),(by first|rfl|(simp;done)|(simp [*];done)|(simp;exact (fun l_:List UInt8 => by cases l_ <;> rfl:∀ l_:List UInt8,l_.isEmpty=!(l_ != [])) _)),H',⟨by have:=HJ1.out;have:=HK2.out;omega⟩,by repeat (first|exact Drawn0.refl _|apply Drawn0.step)⟩
              ·rw [if_neg c29] at H
               exact absurd H (by simp)
             ·rw [if_neg c28] at H
              exact absurd H (by simp)
            ·rw [if_neg c26] at H
             have c26b0:((bt a0 x3_2) == 35)=false:=beq_eq_false_iff_ne.mpr c26
             have c26b1:((bt a0 x3_2) != 35)=true:=bne_iff_ne.mpr c26
             have H':=Aside0.mk H
             clear H
             have p18:0≤(x3_2:Int):=of_decide_eq_true (by first|(with_reducible assumption)|assumption)
             have q18:x3_2<(a0.size:Int):=of_decide_eq_true (by first|(with_reducible assumption)|assumption)
             have hx18:=bt_at a0 x3_2
             replace p18:=eq_true p18
             replace q18:=eq_true q18
             go_wp2_with (first|(go_at_call 65;(with_reducible refine (transhumanceref1_Plain.calls k2 (a0.extract (x3_2:Int).toNat ((wrap64 (x3_2+1)):Int).toNat) true _ A23.out).mono ?_);rintro e w' ⟨rfl,⟨nd,rfl⟩⟩;have p25:0≤(x3_2:Int):=of_decide_eq_true (by first|(with_reducible assumption)|assumption);have q25:x3_2<(a0.size:Int):=of_decide_eq_true (by first|(with_reducible assumption)|assumption);have hx25:=bt_at a0 x3_2;replace p25:=eq_true p25;replace q25:=eq_true q25))
             go_roundg k2
             case measure => have:=HJ1.out;have:=HK2.out;omega
             case rel => exact ⟨(wrap64 (x3_2+1)),(by first|rfl|(simp;done)|(simp [*];done)|(simp;exact (fun l_:List UInt8 => by cases l_ <;> rfl:∀ l_:List UInt8,l_.isEmpty=!(l_ != [])) _)),H',⟨by have:=HJ1.out;have:=HK2.out;omega⟩,by repeat (first|exact Drawn0.refl _|apply Drawn0.step)⟩
           ·replace c24:=Bool.eq_false_iff.mpr c24
            subst c24
            have H1:(some false)=some r:=by rw [if_neg (show ¬ (false=true) by decide)] at H;exact H
            clear H
            have H:=H1
            clear H1
            obtain rfl:=Option.some.inj H
            have p18:0≤(x3_2:Int):=of_decide_eq_true (by first|(with_reducible assumption)|assumption)
            have q18:x3_2<(a0.size:Int):=of_decide_eq_true (by first|(with_reducible assumption)|assumption)
            have hx18:=bt_at a0 x3_2
            replace p18:=eq_true p18
            replace q18:=eq_true q18
            go_wp2_with (first|(go_at_call 65;(with_reducible refine (transhumanceref1_Plain.calls k2 (a0.extract (x3_2:Int).toNat ((wrap64 (x3_2+1)):Int).toNat) false _ A23.out).mono ?_);rintro e w' ⟨rfl,⟨nd,rfl⟩⟩))
            go_ret
            exact ⟨by first|rfl|(simp;done)|(simp [*];done)|(simp;exact (fun l_:List UInt8 => by cases l_ <;> rfl:∀ l_:List UInt8,l_.isEmpty=!(l_ != [])) _),by repeat (first|exact Drawn0.refl _|apply Drawn0.step)⟩
          ·rw [if_neg c22] at H
           exact absurd H (by simp)
         ·rw [if_neg c21] at H
          exact absurd H (by simp)
       ·rw [if_neg c17] at H
        exact absurd H (by simp)
      ·rw [if_neg c16] at H
       have c16b0:decide (x3_2<(a0.size:Int))=false:=decide_eq_false c16
       clear c16
       obtain rfl:=Option.some.inj H
       go_wp2
       go_ret
       exact ⟨by first|rfl|(simp;done)|(simp [*];done)|(simp;exact (fun l_:List UInt8 => by cases l_ <;> rfl:∀ l_:List UInt8,l_.isEmpty=!(l_ != [])) _),by repeat (first|exact Drawn0.refl _|apply Drawn0.step)⟩
end Go.Proofs.YtjdjljgbfpkbdaaGreatDoor.Q
end
