import Derived.Test.YtjiidlkkkednoaaGreatDoorZBaseg
section
namespace Go.Proofs.YtjiidlkkkednoaaGreatDoor.Q
open Go.RowKit Go.Proofs.YtjiidlkkkednoaaGreatDoorW.PrintWords Go.Proofs.YtjiidlkkkednoaaGreatDoorW.PrintLast Go.Proofs.YtjiidlkkkednoaaGreatDoorW.PrintMore
attribute [local go_sem] max2_int min2_int max_two min_two max_three min_three max_four min_four
set_option linter.unusedVariables false
set_option linter.unusedSimpArgs false
def mani_first.l0:Nat→List Int→Int→Int→Option (Int)
 | 0,_,_,_ => none
 | k+1,x5,x6,x7 => if x7<x6 then (if 0≤x7 then (if x7<(x5.length:Int) then (if (rd x5 x7)=0 then (mani_first.l0 k x5 x6 (wrap64 (x7+1))) else (some (rd x5 x7))) else (none)) else (none)) else (some 0)
def mani_first.f (k:Nat) (l0:List Int):Option (Int):=mani_first.l0 k l0 (l0.length:Int) 0
set_option maxHeartbeats 8000000 in
set_option maxRecDepth 100000 in
theorem mani_first.calls (k:Nat) (A0:Option Addr) (c0:Nat) (l0:List Int) (r:Int) (w:World) (hr0:Kd.C (Kd.int .i64) w A0 l0.length l0) (hc0:l0.length≤c0) (h:mani_first.f k l0=some r) :
  Calls Tryz.prog 76 #[.slice A0 l0.length c0] w fun e w' => e=.returned (.int .i64 r)∧Drawn0 w w':=by
 have HR0:=Aside0.mk hr0
 have HC0:=Aside0.mk hc0
 clear hr0 hc0
 have H:(mani_first.l0 k l0 (l0.length:Int) 0)=some r:=h
 clear h
 have H':=Aside0.mk H
 clear H
 go_enter Tryz.func76,Tryz.ntmps76
 go_wp2
 go_loopg [7] k (fun kq v7 w' => ∃ (x7_1:Int),v7=.int .i64 x7_1∧Aside0 (mani_first.l0 kq l0 (l0.length:Int) x7_1=some r)∧Aside0 (kq≤k)∧Drawn0 w w')
 case atStart => exact ⟨(0),(by first|rfl|(simp;done)|(simp [*];done)|(simp;exact (fun l_:List UInt8 => by cases l_ <;> rfl:∀ l_:List UInt8,l_.isEmpty=!(l_ != [])) _)),H',⟨Nat.le_refl _⟩,by repeat (first|exact Drawn0.refl _|apply Drawn0.step)⟩
 case round =>
  clear H'
  obtain ⟨x7_1,rfl,HA,HK1,⟨m1,rfl⟩⟩:=hrel
  cases gk with
  | zero => exact absurd HA.out (by simp [mani_first.l0])
  | succ k1 =>
   have H:=HA.out
   clear HA
   simp only [mani_first.l0] at H
   by_cases c2:x7_1<(l0.length:Int)
   ·rw [if_pos c2] at H
    have c2b0:decide (x7_1<(l0.length:Int))=true:=decide_eq_true c2
    clear c2
    by_cases c3:0≤x7_1
    ·rw [if_pos c3] at H
     have c3b0:decide (0≤x7_1)=true:=decide_eq_true c3
     clear c3
     by_cases c4:x7_1<(l0.length:Int)
     ·rw [if_pos c4] at H
      have c4b0:decide (x7_1<(l0.length:Int))=true:=decide_eq_true c4
      clear c4
      by_cases c5:(rd l0 x7_1)=0
      ·rw [if_pos c5] at H
       have c5b0:((rd l0 x7_1) == 0)=true:=beq_iff_eq.mpr c5
       have c5b1:((rd l0 x7_1) != 0)=false:=bne_eq_false_iff_eq.mpr c5
       clear c5
       have H':=Aside0.mk H
       clear H
       have p118:0≤(x7_1:Int):=of_decide_eq_true (by first|(with_reducible assumption)|assumption)
       have q118:x7_1<(l0.length:Int):=of_decide_eq_true (by first|(with_reducible assumption)|assumption)
       obtain ⟨ad118,e118,hx118_0⟩:=Kd.at_int HR0.out x7_1 p118 q118
       cases e118
       replace p118:=eq_true p118
       replace q118:=eq_true q118
       go_wp2
       go_roundg k1
       case measure => have:=HK1.out;omega
       case rel => exact ⟨(wrap64 (x7_1+1)),(by first|rfl|(simp;done)|(simp [*];done)|(simp;exact (fun l_:List UInt8 => by cases l_ <;> rfl:∀ l_:List UInt8,l_.isEmpty=!(l_ != [])) _)),H',⟨by have:=HK1.out;omega⟩,by repeat (first|exact Drawn0.refl _|apply Drawn0.step)⟩
      ·rw [if_neg c5] at H
       have c5b0:((rd l0 x7_1) == 0)=false:=beq_eq_false_iff_ne.mpr c5
       have c5b1:((rd l0 x7_1) != 0)=true:=bne_iff_ne.mpr c5
       obtain rfl:=Option.some.inj H
       have p118:0≤(x7_1:Int):=of_decide_eq_true (by first|(with_reducible assumption)|assumption)
       have q118:x7_1<(l0.length:Int):=of_decide_eq_true (by first|(with_reducible assumption)|assumption)
       obtain ⟨ad118,e118,hx118_0⟩:=Kd.at_int HR0.out x7_1 p118 q118
       cases e118
       replace p118:=eq_true p118
       replace q118:=eq_true q118
       go_wp2
       go_ret
       exact ⟨by first|rfl|(simp;done)|(simp [*];done)|(simp;exact (fun l_:List UInt8 => by cases l_ <;> rfl:∀ l_:List UInt8,l_.isEmpty=!(l_ != [])) _),by repeat (first|exact Drawn0.refl _|apply Drawn0.step)⟩
     ·rw [if_neg c4] at H
      exact absurd H (by simp)
    ·rw [if_neg c3] at H
     exact absurd H (by simp)
   ·rw [if_neg c2] at H
    have c2b0:decide (x7_1<(l0.length:Int))=false:=decide_eq_false c2
    clear c2
    obtain rfl:=Option.some.inj H
    go_wp2
    go_ret
    exact ⟨by first|rfl|(simp;done)|(simp [*];done)|(simp;exact (fun l_:List UInt8 => by cases l_ <;> rfl:∀ l_:List UInt8,l_.isEmpty=!(l_ != [])) _),by repeat (first|exact Drawn0.refl _|apply Drawn0.step)⟩
end Go.Proofs.YtjiidlkkkednoaaGreatDoor.Q
end
section
namespace Go.Proofs.YtjiidlkkkednoaaGreatDoor.Q
open Go.RowKit Go.Proofs.YtjiidlkkkednoaaGreatDoorW.PrintWords Go.Proofs.YtjiidlkkkednoaaGreatDoorW.PrintLast Go.Proofs.YtjiidlkkkednoaaGreatDoorW.PrintMore
attribute [local go_sem] max2_int min2_int max_two min_two max_three min_three max_four min_four
set_option linter.unusedVariables false
set_option linter.unusedSimpArgs false
mutual
def text_Number.j0:Nat→ByteArray→Bool→Option (Int × Bool)
 | 0,_,_ => none
 | k+1,x0,x23 => if x23=true then (some (0,false)) else (text_Number.l0 k x0 0 (x0.size:Int) 0)
def text_Number.l0:Nat→ByteArray→Int→Int→Int→Option (Int × Bool)
 | 0,_,_,_,_ => none
 | k+1,x0,x4,x25,x26 => if x26<x25 then (if 0≤x26 then (if x26<(x0.size:Int) then (if (bt x0 x26)<48 then (some (0,false)) else (if (bt x0 x26) > 57 then (some (0,false)) else (text_Number.l0 k x0 (wrap64 ((wrap64 (10 * x4))+(((bt x0 x26) - 48) % 256))) x25 (wrap64 (x26+1))))) else (none)) else (none)) else (some (x4,true))
end
def text_Number.f (k:Nat) (a0:ByteArray):Option (Int × Bool):=if (a0.size:Int)<1 then (text_Number.j0 k a0 true) else (if (a0.size:Int) > 9 then (text_Number.j0 k a0 true) else (if (a0.size:Int) > 1 then (if 0<(a0.size:Int) then (text_Number.j0 k a0 ((bt a0 0) == 48)) else (none)) else (text_Number.j0 k a0 false)))
set_option maxHeartbeats 8000000 in
set_option maxRecDepth 100000 in
theorem text_Number.calls (k:Nat) (a0:ByteArray) (r1:Int) (r2:Bool) (w:World) (h:text_Number.f k a0=some (r1,r2)) :
  Calls Tryz.prog 107 #[.string a0] w fun e w' => e=.returned (.tuple #[.int .i64 r1,.bool r2])∧Drawn0 w w':=by
 have H:(if (a0.size:Int)<1 then (text_Number.j0 k a0 true) else (if (a0.size:Int) > 9 then (text_Number.j0 k a0 true) else (if (a0.size:Int) > 1 then (if 0<(a0.size:Int) then (text_Number.j0 k a0 ((bt a0 0) == 48)) else (none)) else (text_Number.j0 k a0 false))))=some (r1,r2):=h
 clear h
 have HC2:=Aside0.mk H
 clear H
 go_enter Tryz.func107,Tryz.ntmps107
 go_upto_region 1 with (fail)
 go_cut [23] (fun v23 wc => ∃ (kq:Nat) (x23_1:Bool),v23=.bool x23_1∧Aside0 (text_Number.j0 kq a0 x23_1=some (r1,r2))∧Aside0 (kq≤k)∧Drawn0 w wc)
 case first =>
  have H:=HC2.out
  clear HC2
  by_cases c3:(a0.size:Int)<1
  ·rw [if_pos c3] at H
   have c3b0:decide ((a0.size:Int)<1)=true:=decide_eq_true c3
   have c3b1:decide (a0.size<1)=true:=decide_eq_true (by omega)
   clear c3
   (first|rw [c3b0]|(simp only [i64_w,i32_w];rw [c3b0])|skip)
   have H':=Aside0.mk H
   clear H
   go_wp2
   go_meet
   case rel => exact ⟨_,(true),(by first|rfl|(simp;done)|(simp [*];done)|(simp;exact (fun l_:List UInt8 => by cases l_ <;> rfl:∀ l_:List UInt8,l_.isEmpty=!(l_ != [])) _)),H',⟨by first|omega|exact Nat.le_refl _⟩,by repeat (first|exact Drawn0.refl _|apply Drawn0.step)⟩
  ·rw [if_neg c3] at H
   have c3b0:decide ((a0.size:Int)<1)=false:=decide_eq_false c3
   have c3b1:decide (a0.size<1)=false:=decide_eq_false (by omega)
   clear c3
   (first|rw [c3b0]|(simp only [i64_w,i32_w];rw [c3b0])|skip)
   by_cases c4:(a0.size:Int) > 9
   ·rw [if_pos c4] at H
    have c4b0:decide (9<(a0.size:Int))=true:=decide_eq_true c4
    have c4b1:decide (9<a0.size)=true:=decide_eq_true (by omega)
    clear c4
    have H':=Aside0.mk H
    clear H
    go_wp2
    go_meet
    case rel => exact ⟨_,(true),(by first|rfl|(simp;done)|(simp [*];done)|(simp;exact (fun l_:List UInt8 => by cases l_ <;> rfl:∀ l_:List UInt8,l_.isEmpty=!(l_ != [])) _)),H',⟨by first|omega|exact Nat.le_refl _⟩,by repeat (first|exact Drawn0.refl _|apply Drawn0.step)⟩
   ·rw [if_neg c4] at H
    have c4b0:decide (9<(a0.size:Int))=false:=decide_eq_false c4
    have c4b1:decide (9<a0.size)=false:=decide_eq_false (by omega)
    clear c4
    by_cases c5:(a0.size:Int) > 1
    ·rw [if_pos c5] at H
     have c5b0:decide (1<(a0.size:Int))=true:=decide_eq_true c5
     have c5b1:decide (1<a0.size)=true:=decide_eq_true (by omega)
     clear c5
     by_cases c6:0<(a0.size:Int)
     ·rw [if_pos c6] at H
      have c6b0:decide (0<(a0.size:Int))=true:=decide_eq_true c6
      have c6b1:decide (0<a0.size)=true:=decide_eq_true (by omega)
      clear c6
      have H':=Aside0.mk H
      clear H
      have p7:0≤(0:Int):=(by omega)
      have q7:0<a0.size:=(by have:(0:Int)<(a0.size:Int):=of_decide_eq_true (by first|(with_reducible assumption)|assumption);omega)
      have hx7:∀ h:0<a0.size,((a0[0]'h).toNat:Int)=bt a0 0:=bt_at a0 0
      clear p7
      have qi7:(0<(a0.size:Int))=True:=eq_true (of_decide_eq_true (by first|(with_reducible assumption)|assumption))
      replace q7:=eq_true q7
      go_wp2
      go_meet
      case rel => exact ⟨_,(((bt a0 0) == 48)),(by first|rfl|(simp;done)|(simp [*];done)|(simp;exact (fun l_:List UInt8 => by cases l_ <;> rfl:∀ l_:List UInt8,l_.isEmpty=!(l_ != [])) _)),H',⟨by first|omega|exact Nat.le_refl _⟩,by repeat (first|exact Drawn0.refl _|apply Drawn0.step)⟩
     ·rw [if_neg c6] at H
      exact absurd H (by simp)
    ·rw [if_neg c5] at H
     have c5b0:decide (1<(a0.size:Int))=false:=decide_eq_false c5
     have c5b1:decide (1<a0.size)=false:=decide_eq_false (by omega)
     clear c5
     have H':=Aside0.mk H
     clear H
     go_wp2
     go_meet
     case rel => exact ⟨_,(false),(by first|rfl|(simp;done)|(simp [*];done)|(simp;exact (fun l_:List UInt8 => by cases l_ <;> rfl:∀ l_:List UInt8,l_.isEmpty=!(l_ != [])) _)),H',⟨by first|omega|exact Nat.le_refl _⟩,by repeat (first|exact Drawn0.refl _|apply Drawn0.step)⟩
 case rest =>
  clear HC2
  try clear c1
  try clear p2
  try clear c3
  try clear c3b0
  try clear c3b1
  try clear c4
  try clear c4b0
  try clear c4b1
  try clear c5
  try clear c5b0
  try clear c5b1
  try clear c6
  try clear c6b0
  try clear c6b1
  try clear p7
  try clear q7
  try clear hx7
  try clear qi7
  try clear p7
  try clear q7
  obtain ⟨kq,x23_1,rfl,HA,HJ1,⟨mc1,rfl⟩⟩:=hcut
  cases kq with
  | zero => exact absurd HA.out (by simp [text_Number.j0])
  | succ kj1 =>
   have H:=HA.out
   clear HA
   simp only [text_Number.j0] at H
   by_cases c8:x23_1=true
   ·subst c8
    have H1:(some (0,false))=some (r1,r2):=by rw [if_pos rfl] at H;exact H
    clear H
    have H:=H1
    clear H1
    simp only [Option.some.injEq,Prod.mk.injEq] at H
    obtain ⟨rfl,rfl⟩:=H
    go_wp2
    go_ret2
    exact ⟨by first|rfl|(simp;done)|(simp [*];done)|(simp;exact (fun l_:List UInt8 => by cases l_ <;> rfl:∀ l_:List UInt8,l_.isEmpty=!(l_ != [])) _),by repeat (first|exact Drawn0.refl _|apply Drawn0.step)⟩
   ·replace c8:=Bool.eq_false_iff.mpr c8
    subst c8
    have H1:(text_Number.l0 kj1 a0 0 (a0.size:Int) 0)=some (r1,r2):=by rw [if_neg (show ¬ (false=true) by decide)] at H;exact H
    clear H
    have H:=H1
    clear H1
    have H':=Aside0.mk H
    clear H
    go_wp2
    go_loopg [4,26] kj1 (fun kq v4 v26 w' => ∃ (x4_2:Int) (x26_2:Int),v4=.int .i64 x4_2∧v26=.int .i64 x26_2∧Aside0 (text_Number.l0 kq a0 x4_2 (a0.size:Int) x26_2=some (r1,r2))∧Aside0 (kq≤kj1)∧Drawn0 w w')
    case atStart => exact ⟨(0),(0),(by first|rfl|(simp;done)|(simp [*];done)|(simp;exact (fun l_:List UInt8 => by cases l_ <;> rfl:∀ l_:List UInt8,l_.isEmpty=!(l_ != [])) _)),(by first|rfl|(simp;done)|(simp [*];done)|(simp;exact (fun l_:List UInt8 => by cases l_ <;> rfl:∀ l_:List UInt8,l_.isEmpty=!(l_ != [])) _)),H',⟨Nat.le_refl _⟩,by repeat (first|exact Drawn0.refl _|apply Drawn0.step)⟩
    case round =>
     clear H'
     try clear c1
     try clear p2
     try clear c3
     try clear c3b0
     try clear c3b1
     try clear c4
     try clear c4b0
     try clear c4b1
     try clear c5
     try clear c5b0
     try clear c5b1
     try clear c6
     try clear c6b0
     try clear c6b1
     try clear p7
     try clear q7
     try clear hx7
     try clear qi7
     try clear c8
     try clear p2
     try clear p7
     try clear q7
     obtain ⟨x4_2,x26_2,rfl,rfl,HA,HK2,⟨m2,rfl⟩⟩:=hrel
     cases gk with
     | zero => exact absurd HA.out (by simp [text_Number.l0])
     | succ k2 =>
      have H:=HA.out
      clear HA
      simp only [text_Number.l0] at H
      by_cases c9:x26_2<(a0.size:Int)
      ·rw [if_pos c9] at H
       have c9b0:decide (x26_2<(a0.size:Int))=true:=decide_eq_true c9
       clear c9
       by_cases c10:0≤x26_2
       ·rw [if_pos c10] at H
        have c10b0:decide (0≤x26_2)=true:=decide_eq_true c10
        clear c10
        by_cases c11:x26_2<(a0.size:Int)
        ·rw [if_pos c11] at H
         have c11b0:decide (x26_2<(a0.size:Int))=true:=decide_eq_true c11
         clear c11
         by_cases c13:(bt a0 x26_2)<48
         ·rw [if_pos c13] at H
          have c13b0:decide ((bt a0 x26_2)<48)=true:=decide_eq_true c13
          clear c13
          simp only [Option.some.injEq,Prod.mk.injEq] at H
          obtain ⟨rfl,rfl⟩:=H
          have p12:0≤(x26_2:Int):=of_decide_eq_true (by first|(with_reducible assumption)|assumption)
          have q12:x26_2<(a0.size:Int):=of_decide_eq_true (by first|(with_reducible assumption)|assumption)
          have hx12:=bt_at a0 x26_2
          replace p12:=eq_true p12
          replace q12:=eq_true q12
          go_wp2
          go_ret2
          exact ⟨by first|rfl|(simp;done)|(simp [*];done)|(simp;exact (fun l_:List UInt8 => by cases l_ <;> rfl:∀ l_:List UInt8,l_.isEmpty=!(l_ != [])) _),by repeat (first|exact Drawn0.refl _|apply Drawn0.step)⟩
         ·rw [if_neg c13] at H
          have c13b0:decide ((bt a0 x26_2)<48)=false:=decide_eq_false c13
          clear c13
          by_cases c15:(bt a0 x26_2) > 57
          ·rw [if_pos c15] at H
           have c15b0:decide (57<(bt a0 x26_2))=true:=decide_eq_true c15
           clear c15
           simp only [Option.some.injEq,Prod.mk.injEq] at H
           obtain ⟨rfl,rfl⟩:=H
           have p12:0≤(x26_2:Int):=of_decide_eq_true (by first|(with_reducible assumption)|assumption)
           have q12:x26_2<(a0.size:Int):=of_decide_eq_true (by first|(with_reducible assumption)|assumption)
           have hx12:=bt_at a0 x26_2
           replace p12:=eq_true p12
           replace q12:=eq_true q12
           have p14:0≤(x26_2:Int):=of_decide_eq_true (by first|(with_reducible assumption)|assumption)
           have q14:x26_2<(a0.size:Int):=of_decide_eq_true (by first|(with_reducible assumption)|assumption)
           have hx14:=bt_at a0 x26_2
           replace p14:=eq_true p14
           replace q14:=eq_true q14
           go_wp2
           go_ret2
           exact ⟨by first|rfl|(simp;done)|(simp [*];done)|(simp;exact (fun l_:List UInt8 => by cases l_ <;> rfl:∀ l_:List UInt8,l_.isEmpty=!(l_ != [])) _),by repeat (first|exact Drawn0.refl _|apply Drawn0.step)⟩
          ·rw [if_neg c15] at H
           have c15b0:decide (57<(bt a0 x26_2))=false:=decide_eq_false c15
           clear c15
           have H':=Aside0.mk H
           clear H
           have p12:0≤(x26_2:Int):=of_decide_eq_true (by first|(with_reducible assumption)|assumption)
           have q12:x26_2<(a0.size:Int):=of_decide_eq_true (by first|(with_reducible assumption)|assumption)
           have hx12:=bt_at a0 x26_2
           replace p12:=eq_true p12
           replace q12:=eq_true q12
           have p14:0≤(x26_2:Int):=of_decide_eq_true (by first|(with_reducible assumption)|assumption)
           have q14:x26_2<(a0.size:Int):=of_decide_eq_true (by first|(with_reducible assumption)|assumption)
           have hx14:=bt_at a0 x26_2
           replace p14:=eq_true p14
           replace q14:=eq_true q14
           have p16:0≤(x26_2:Int):=of_decide_eq_true (by first|(with_reducible assumption)|assumption)
           have q16:x26_2<(a0.size:Int):=of_decide_eq_true (by first|(with_reducible assumption)|assumption)
           have hx16:=bt_at a0 x26_2
           replace p16:=eq_true p16
           replace q16:=eq_true q16
           go_wp2
           go_roundg k2
           case measure => have:=HJ1.out;have:=HK2.out;omega
           case rel => exact ⟨(wrap64 ((wrap64 (10 * x4_2))+(((bt a0 x26_2) - 48) % 256))),(wrap64 (x26_2+1)),(by first|rfl|(simp;done)|(simp [*];done)|(simp;exact (fun l_:List UInt8 => by cases l_ <;> rfl:∀ l_:List UInt8,l_.isEmpty=!(l_ != [])) _)),(by first|rfl|(simp;done)|(simp [*];done)|(simp;exact (fun l_:List UInt8 => by cases l_ <;> rfl:∀ l_:List UInt8,l_.isEmpty=!(l_ != [])) _)),H',⟨by have:=HJ1.out;have:=HK2.out;omega⟩,by repeat (first|exact Drawn0.refl _|apply Drawn0.step)⟩
        ·rw [if_neg c11] at H
         exact absurd H (by simp)
       ·rw [if_neg c10] at H
        exact absurd H (by simp)
      ·rw [if_neg c9] at H
       have c9b0:decide (x26_2<(a0.size:Int))=false:=decide_eq_false c9
       clear c9
       simp only [Option.some.injEq,Prod.mk.injEq] at H
       obtain ⟨rfl,rfl⟩:=H
       go_wp2
       go_ret2
       exact ⟨by first|rfl|(simp;done)|(simp [*];done)|(simp;exact (fun l_:List UInt8 => by cases l_ <;> rfl:∀ l_:List UInt8,l_.isEmpty=!(l_ != [])) _),by repeat (first|exact Drawn0.refl _|apply Drawn0.step)⟩
def stringslite_HasPrefix.f (a0:ByteArray) (a1:ByteArray):Option (Bool):=if (a0.size:Int) ≥ (a1.size:Int) then (if 0≤(a1.size:Int) then (if (a1.size:Int)≤(a0.size:Int) then (some ((a0.extract 0 ((a1.size:Int):Int).toNat).toList == a1.toList)) else (none)) else (none)) else (some false)
set_option maxHeartbeats 8000000 in
set_option maxRecDepth 100000 in
theorem stringslite_HasPrefix.calls (a0:ByteArray) (a1:ByteArray) (r:Bool) (w:World) (h:stringslite_HasPrefix.f a0 a1=some r) :
  Calls Tryz.prog 149 #[.string a0,.string a1] w fun e w' => e=.returned (.bool r)∧Drawn0 w w':=by
 have H:(if (a0.size:Int) ≥ (a1.size:Int) then (if 0≤(a1.size:Int) then (if (a1.size:Int)≤(a0.size:Int) then (some ((a0.extract 0 ((a1.size:Int):Int).toNat).toList == a1.toList)) else (none)) else (none)) else (some false))=some r:=h
 clear h
 by_cases c3:(a0.size:Int) ≥ (a1.size:Int)
 ·rw [if_pos c3] at H
  have c3b0:decide ((a1.size:Int)≤(a0.size:Int))=true:=decide_eq_true c3
  have c3b1:decide (a1.size≤a0.size)=true:=decide_eq_true (Int.ofNat_le.mp c3)
  clear c3
  by_cases c4:0≤(a1.size:Int)
  ·rw [if_pos c4] at H
   have c4b0:=eq_true c4
   have c4b1:decide (0≤(a1.size:Int))=true:=decide_eq_true c4
   clear c4
   by_cases c5:(a1.size:Int)≤(a0.size:Int)
   ·rw [if_pos c5] at H
    have c5b0:=eq_true c5
    have c5b1:decide ((a1.size:Int)≤(a0.size:Int))=true:=decide_eq_true c5
    clear c5
    obtain rfl:=Option.some.inj H
    go_enter Tryz.func149,Tryz.ntmps149
    go_wp2
    go_ret
    exact ⟨by first|rfl|(simp;done)|(simp [*];done)|(simp;exact (fun l_:List UInt8 => by cases l_ <;> rfl:∀ l_:List UInt8,l_.isEmpty=!(l_ != [])) _),by repeat (first|exact Drawn0.refl _|apply Drawn0.step)⟩
   ·rw [if_neg c5] at H
    exact absurd H (by simp)
  ·rw [if_neg c4] at H
   exact absurd H (by simp)
 ·rw [if_neg c3] at H
  have c3b0:decide ((a1.size:Int)≤(a0.size:Int))=false:=decide_eq_false c3
  have c3b1:decide (a1.size≤a0.size)=false:=decide_eq_false (fun h => c3 (Int.ofNat_le.mpr h))
  clear c3
  obtain rfl:=Option.some.inj H
  go_enter Tryz.func149,Tryz.ntmps149
  go_wp2
  go_ret
  exact ⟨by first|rfl|(simp;done)|(simp [*];done)|(simp;exact (fun l_:List UInt8 => by cases l_ <;> rfl:∀ l_:List UInt8,l_.isEmpty=!(l_ != [])) _),by repeat (first|exact Drawn0.refl _|apply Drawn0.step)⟩
def strings_HasPrefix.f (a0:ByteArray) (a1:ByteArray):Option (Bool):=(stringslite_HasPrefix.f a0 a1).bind fun t119 => (some t119)
set_option maxHeartbeats 8000000 in
set_option maxRecDepth 100000 in
theorem strings_HasPrefix.calls (a0:ByteArray) (a1:ByteArray) (r:Bool) (w:World) (h:strings_HasPrefix.f a0 a1=some r) :
  Calls Tryz.prog 132 #[.string a0,.string a1] w fun e w' => e=.returned (.bool r)∧Drawn0 w w':=by
 have H:((stringslite_HasPrefix.f a0 a1).bind fun t119 => (some t119))=some r:=h
 clear h
 replace H:=Option.bind_eq_some_iff.mp H
 obtain ⟨t119,A30,H⟩:=H
 replace H:(some t119)=some r:=H
 have A3:=Aside0.mk A30
 clear A30
 obtain rfl:=Option.some.inj H
 go_enter Tryz.func132,Tryz.ntmps132
 go_wp2_with (first|((with_reducible refine gate_callee (f:=149) rfl ?_);refine goesL_ (some 7) rfl rfl Tryz.func149 (by kernel_rfl) rfl #[.string a0,.string a1] rfl (by (try simp only [List.map_toArray,List.map_cons,List.map_nil]);first|done|rfl|(simp only [List.length_drop,List.length_take];rfl)) ?_;(with_reducible refine (stringslite_HasPrefix.calls a0 a1 t119 _ A3.out).mono ?_);rintro e w' ⟨rfl,⟨nd,rfl⟩⟩;refine ⟨_,rfl,?_⟩))
 go_ret
 exact ⟨by first|rfl|(simp;done)|(simp [*];done)|(simp;exact (fun l_:List UInt8 => by cases l_ <;> rfl:∀ l_:List UInt8,l_.isEmpty=!(l_ != [])) _),by repeat (first|exact Drawn0.refl _|apply Drawn0.step)⟩
end Go.Proofs.YtjiidlkkkednoaaGreatDoor.Q
end
