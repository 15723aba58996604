import Derived.Test.YtjdjljgbfpkbdaaGreatDoorZQ0
namespace Go.Proofs.YtjdjljgbfpkbdaaGreatDoor.Q
open Go.RowKit Go.Proofs.YtjdjljgbfpkbdaaGreatDoorW.PrintWords Go.Proofs.YtjdjljgbfpkbdaaGreatDoorW.PrintLast Go.Proofs.YtjdjljgbfpkbdaaGreatDoorW.PrintMore
attribute [local go_sem] max2_int min2_int max_two min_two max_three min_three max_four min_four
set_option linter.unusedVariables false
set_option linter.unusedSimpArgs false
mutual
def transhumanceref1_Unquote.j0:Nat→ByteArray→Bool→Option (ByteArray × Int × Bool)
 | 0,_,_ => none
 | k+1,x0,x13 => if x13=true then (some ((⟨#[]⟩:ByteArray),0,false)) else (transhumanceref1_Unquote.l0 k x0 (⟨#[]⟩:ByteArray) 1)
def transhumanceref1_Unquote.l0:Nat→ByteArray→ByteArray→Int→Option (ByteArray × Int × Bool)
 | 0,_,_,_ => none
 | k+1,x0,x5,x6 => if x6<(x0.size:Int) then (if 0≤x6 then (if (bt x0 x6)=34 then (some (x5,wrap64 (x6+1),true)) else (if (bt x0 x6)<32 then (transhumanceref1_Unquote.j2 k x0 x5 x6 true) else (transhumanceref1_Unquote.j2 k x0 x5 x6 (decide ((bt x0 x6) > 126))))) else (none)) else (some ((⟨#[]⟩:ByteArray),0,false))
def transhumanceref1_Unquote.j2:Nat→ByteArray→ByteArray→Int→Bool→Option (ByteArray × Int × Bool)
 | 0,_,_,_,_ => none
 | k+1,x0,x5,x6,x35 => if x35=true then (some ((⟨#[]⟩:ByteArray),0,false)) else (if 0≤x6 then (if x6<(x0.size:Int) then (if (bt x0 x6)=92 then (if (wrap64 (x6+1)) ≥ (x0.size:Int) then (some ((⟨#[]⟩:ByteArray),0,false)) else (if 0≤(wrap64 (x6+1)) then (if (wrap64 (x6+1))<(x0.size:Int) then (if (bt x0 (wrap64 (x6+1)))=34 then (transhumanceref1_Unquote.j3 k x0 x5 (wrap64 (x6+1)) (bt x0 (wrap64 (x6+1))) ((bt x0 (wrap64 (x6+1))) == 34)) else (if (bt x0 (wrap64 (x6+1)))=92 then (transhumanceref1_Unquote.j3 k x0 x5 (wrap64 (x6+1)) (bt x0 (wrap64 (x6+1))) ((bt x0 (wrap64 (x6+1))) == 92)) else (transhumanceref1_Unquote.j3 k x0 x5 (wrap64 (x6+1)) (bt x0 (wrap64 (x6+1))) ((bt x0 (wrap64 (x6+1))) == 47)))) else (none)) else (none))) else (if x6≤(wrap64 (x6+1)) then (if (wrap64 (x6+1))≤(x0.size:Int) then (if x5.size+(x0.extract (x6:Int).toNat ((wrap64 (x6+1)):Int).toNat).size≤9223372036854775807 then (transhumanceref1_Unquote.l0 k x0 (x5++(x0.extract (x6:Int).toNat ((wrap64 (x6+1)):Int).toNat)) (wrap64 (x6+1))) else (none)) else (none)) else (none))) else (none)) else (none))
def transhumanceref1_Unquote.j3:Nat→ByteArray→ByteArray→Int→Int→Bool→Option (ByteArray × Int × Bool)
 | 0,_,_,_,_,_ => none
 | k+1,x0,x5,x6,x59,x60 => if x60=true then (if 0≤x6 then (if x6≤(wrap64 (x6+1)) then (if (wrap64 (x6+1))≤(x0.size:Int) then (if x5.size+(x0.extract (x6:Int).toNat ((wrap64 (x6+1)):Int).toNat).size≤9223372036854775807 then (transhumanceref1_Unquote.l0 k x0 (x5++(x0.extract (x6:Int).toNat ((wrap64 (x6+1)):Int).toNat)) (wrap64 (x6+1))) else (none)) else (none)) else (none)) else (none)) else (if x59=110 then (if x5.size+1≤9223372036854775807 then (transhumanceref1_Unquote.l0 k x0 (x5++(⟨#[10]⟩:ByteArray)) (wrap64 (x6+1))) else (none)) else (if x59=116 then (if x5.size+1≤9223372036854775807 then (transhumanceref1_Unquote.l0 k x0 (x5++(⟨#[9]⟩:ByteArray)) (wrap64 (x6+1))) else (none)) else (some ((⟨#[]⟩:ByteArray),0,false))))
end
def transhumanceref1_Unquote.f (k:Nat) (a0:ByteArray):Option (ByteArray × Int × Bool):=if a0.toList=([]:List UInt8) then (transhumanceref1_Unquote.j0 k a0 true) else (if 0<(a0.size:Int) then (transhumanceref1_Unquote.j0 k a0 ((bt a0 0) != 34)) else (none))
set_option maxHeartbeats 8000000 in
set_option maxRecDepth 100000 in
theorem transhumanceref1_Unquote.calls (k:Nat) (a0:ByteArray) (r1:ByteArray) (r2:Int) (r3:Bool) (w:World) (h:transhumanceref1_Unquote.f k a0=some (r1,r2,r3)) :
  Calls Tryz.prog 96 #[.string a0] w fun e w' => e=.returned (.tuple #[.string r1,.int .i64 r2,.bool r3])∧Drawn0 w w':=by
 have H:(if a0.toList=([]:List UInt8) then (transhumanceref1_Unquote.j0 k a0 true) else (if 0<(a0.size:Int) then (transhumanceref1_Unquote.j0 k a0 ((bt a0 0) != 34)) else (none)))=some (r1,r2,r3):=h
 clear h
 have HC2:=Aside0.mk H
 clear H
 go_enter Tryz.func96,Tryz.ntmps96
 go_upto_region 1 with (fail)
 go_cut [13] (fun v13 wc => ∃ (kq:Nat) (x13_1:Bool),v13=.bool x13_1∧Aside0 (transhumanceref1_Unquote.j0 kq a0 x13_1=some (r1,r2,r3))∧Aside0 (kq≤k)∧Drawn0 w wc)
 case first =>
  have H:=HC2.out
  clear HC2
  by_cases c3:a0.toList=([]:List UInt8)
  ·rw [if_pos c3] at H
   have c3b0:(a0.toList == ([]:List UInt8))=true:=beq_iff_eq.mpr c3
   have c3b1:(a0.toList != ([]:List UInt8))=false:=bne_eq_false_iff_eq.mpr c3
   clear c3
   (first|rw [c3b0]|(simp only [i64_w,i32_w];rw [c3b0])|skip)
   have H':=Aside0.mk H
   clear H
   go_wp2
   go_meet
   case rel => exact ⟨_,(true),(by first|rfl|(simp;done)|(simp [*];done)|(simp;exact (fun l_:List UInt8 => by cases l_ <;> rfl:∀ l_:List UInt8,l_.isEmpty=!(l_ != [])) _)),H',⟨by first|omega|exact Nat.le_refl _⟩,by repeat (first|exact Drawn0.refl _|apply Drawn0.step)⟩
  ·rw [if_neg c3] at H
   have c3b0:(a0.toList == ([]:List UInt8))=false:=beq_eq_false_iff_ne.mpr c3
   have c3b1:(a0.toList != ([]:List UInt8))=true:=bne_iff_ne.mpr c3
   (first|rw [c3b0]|(simp only [i64_w,i32_w];rw [c3b0])|skip)
   by_cases c4:0<(a0.size:Int)
   ·rw [if_pos c4] at H
    have c4b0:decide (0<(a0.size:Int))=true:=decide_eq_true c4
    have c4b1:decide (0<a0.size)=true:=decide_eq_true (by omega)
    clear c4
    have H':=Aside0.mk H
    clear H
    have p5:0≤(0:Int):=(by omega)
    have q5:0<a0.size:=(by have:(0:Int)<(a0.size:Int):=of_decide_eq_true (by first|(with_reducible assumption)|assumption);omega)
    have hx5:∀ h:0<a0.size,((a0[0]'h).toNat:Int)=bt a0 0:=bt_at a0 0
    clear p5
    have qi5:(0<(a0.size:Int))=True:=eq_true (of_decide_eq_true (by first|(with_reducible assumption)|assumption))
    replace q5:=eq_true q5
    go_wp2
    go_meet
    case rel => exact ⟨_,(((bt a0 0) != 34)),(by first|rfl|(simp;done)|(simp [*];done)|(simp;exact (fun l_:List UInt8 => by cases l_ <;> rfl:∀ l_:List UInt8,l_.isEmpty=!(l_ != [])) _)),H',⟨by first|omega|exact Nat.le_refl _⟩,by repeat (first|exact Drawn0.refl _|apply Drawn0.step)⟩
   ·rw [if_neg c4] at H
    exact absurd H (by simp)
 case rest =>
  clear HC2
  try clear p2
  try clear c3
  try clear c3b0
  try clear c3b1
  try clear c4
  try clear c4b0
  try clear c4b1
  try clear p5
  try clear q5
  try clear hx5
  try clear qi5
  try clear p5
  try clear q5
  obtain ⟨kq,x13_1,rfl,HA,HJ1,⟨mc1,rfl⟩⟩:=hcut
  cases kq with
  | zero => exact absurd HA.out (by simp [transhumanceref1_Unquote.j0])
  | succ kj1 =>
   have H:=HA.out
   clear HA
   simp only [transhumanceref1_Unquote.j0] at H
   by_cases c6:x13_1=true
   ·subst c6
    have H1:(some ((⟨#[]⟩:ByteArray),0,false))=some (r1,r2,r3):=by rw [if_pos rfl] at H;exact H
    clear H
    have H:=H1
    clear H1
    simp only [Option.some.injEq,Prod.mk.injEq] at H
    obtain ⟨rfl,rfl,rfl⟩:=H
    go_wp2
    go_ret3
    exact ⟨by first|rfl|(simp;done)|(simp [*];done)|(simp;exact (fun l_:List UInt8 => by cases l_ <;> rfl:∀ l_:List UInt8,l_.isEmpty=!(l_ != [])) _),by repeat (first|exact Drawn0.refl _|apply Drawn0.step)⟩
   ·replace c6:=Bool.eq_false_iff.mpr c6
    subst c6
    have H1:(transhumanceref1_Unquote.l0 kj1 a0 (⟨#[]⟩:ByteArray) 1)=some (r1,r2,r3):=by rw [if_neg (show ¬ (false=true) by decide)] at H;exact H
    clear H
    have H:=H1
    clear H1
    have H':=Aside0.mk H
    clear H
    go_wp2
    go_loopg [5,6] kj1 (fun kq v5 v6 w' => ∃ (x5_2:ByteArray) (x6_2:Int),v5=.string x5_2∧v6=.int .i64 x6_2∧Aside0 (transhumanceref1_Unquote.l0 kq a0 x5_2 x6_2=some (r1,r2,r3))∧Aside0 (kq≤kj1)∧Drawn0 w w')
    case atStart => exact ⟨((⟨#[]⟩:ByteArray)),(1),(by first|rfl|(simp;done)|(simp [*];done)|(simp;exact (fun l_:List UInt8 => by cases l_ <;> rfl:∀ l_:List UInt8,l_.isEmpty=!(l_ != [])) _)),(by first|rfl|(simp;done)|(simp [*];done)|(simp;exact (fun l_:List UInt8 => by cases l_ <;> rfl:∀ l_:List UInt8,l_.isEmpty=!(l_ != [])) _)),H',⟨Nat.le_refl _⟩,by repeat (first|exact Drawn0.refl _|apply Drawn0.step)⟩
    case round =>
     clear H'
     try clear c1
     try clear p2
     try clear c3
     try clear c3b0
     try clear c3b1
     try clear c4
     try clear c4b0
     try clear c4b1
     try clear p5
     try clear q5
     try clear hx5
     try clear qi5
     try clear c6
     try clear p2
     try clear p5
     try clear q5
     obtain ⟨x5_2,x6_2,rfl,rfl,HA,HK2,⟨m2,rfl⟩⟩:=hrel
     cases gk with
     | zero => exact absurd HA.out (by simp [transhumanceref1_Unquote.l0])
     | succ k2 =>
      have H:=HA.out
      clear HA
      simp only [transhumanceref1_Unquote.l0] at H
      by_cases c7:x6_2<(a0.size:Int)
      ·rw [if_pos c7] at H
       have c7b0:decide (x6_2<(a0.size:Int))=true:=decide_eq_true c7
       clear c7
       by_cases c8:0≤x6_2
       ·rw [if_pos c8] at H
        have c8b0:decide (0≤x6_2)=true:=decide_eq_true c8
        clear c8
        by_cases c10:(bt a0 x6_2)=34
        ·rw [if_pos c10] at H
         have c10b0:((bt a0 x6_2) == 34)=true:=beq_iff_eq.mpr c10
         have c10b1:((bt a0 x6_2) != 34)=false:=bne_eq_false_iff_eq.mpr c10
         clear c10
         simp only [Option.some.injEq,Prod.mk.injEq] at H
         obtain ⟨rfl,rfl,rfl⟩:=H
         have p9:0≤(x6_2:Int):=of_decide_eq_true (by first|(with_reducible assumption)|assumption)
         have q9:x6_2<(a0.size:Int):=of_decide_eq_true (by first|(with_reducible assumption)|assumption)
         have hx9:=bt_at a0 x6_2
         replace p9:=eq_true p9
         replace q9:=eq_true q9
         go_wp2
         go_ret3
         exact ⟨by first|rfl|(simp;done)|(simp [*];done)|(simp;exact (fun l_:List UInt8 => by cases l_ <;> rfl:∀ l_:List UInt8,l_.isEmpty=!(l_ != [])) _),by repeat (first|exact Drawn0.refl _|apply Drawn0.step)⟩
        ·rw [if_neg c10] at H
         have c10b0:((bt a0 x6_2) == 34)=false:=beq_eq_false_iff_ne.mpr c10
         have c10b1:((bt a0 x6_2) != 34)=true:=bne_iff_ne.mpr c10
         have HC11:=Aside0.mk H
         clear H
         have p9:0≤(x6_2:Int):=of_decide_eq_true (by first|(with_reducible assumption)|assumption)
         have q9:x6_2<(a0.size:Int):=of_decide_eq_true (by first|(with_reducible assumption)|assumption)
         have hx9:=bt_at a0 x6_2
         replace p9:=eq_true p9
         replace q9:=eq_true q9
         go_upto_region 10 with (fail)
         go_cut [35] (fun v35 wc => ∃ (kq:Nat) (x35_10:Bool),v35=.bool x35_10∧Aside0 (transhumanceref1_Unquote.j2 kq a0 x5_2 x6_2 x35_10=some (r1,r2,r3))∧Aside0 (kq≤k2)∧Drawn0 w wc)
         case first =>
          have H:=HC11.out
          clear HC11
          by_cases c13:(bt a0 x6_2)<32
          ·rw [if_pos c13] at H
           have c13b0:decide ((bt a0 x6_2)<32)=true:=decide_eq_true c13
           clear c13
           (first|rw [c13b0]|(simp only [i64_w,i32_w];rw [c13b0])|skip)
           have H':=Aside0.mk H
           clear H
           have p12:0≤(x6_2:Int):=of_decide_eq_true (by first|(with_reducible assumption)|assumption)
           have q12:x6_2<(a0.size:Int):=of_decide_eq_true (by first|(with_reducible assumption)|assumption)
           have hx12:=bt_at a0 x6_2
           replace p12:=eq_true p12
           replace q12:=eq_true q12
           go_wp2
           go_meet
           case rel => exact ⟨_,(true),(by first|rfl|(simp;done)|(simp [*];done)|(simp;exact (fun l_:List UInt8 => by cases l_ <;> rfl:∀ l_:List UInt8,l_.isEmpty=!(l_ != [])) _)),H',⟨by have:=HJ1.out;have:=HK2.out;first|omega|exact Nat.le_refl _⟩,by repeat (first|exact Drawn0.refl _|apply Drawn0.step)⟩
          ·rw [if_neg c13] at H
           have c13b0:decide ((bt a0 x6_2)<32)=false:=decide_eq_false c13
           clear c13
           (first|rw [c13b0]|(simp only [i64_w,i32_w];rw [c13b0])|skip)
           have H':=Aside0.mk H
           clear H
           have p12:0≤(x6_2:Int):=of_decide_eq_true (by first|(with_reducible assumption)|assumption)
           have q12:x6_2<(a0.size:Int):=of_decide_eq_true (by first|(with_reducible assumption)|assumption)
           have hx12:=bt_at a0 x6_2
           replace p12:=eq_true p12
           replace q12:=eq_true q12
           have p14:0≤(x6_2:Int):=of_decide_eq_true (by first|(with_reducible assumption)|assumption)
           have q14:x6_2<(a0.size:Int):=of_decide_eq_true (by first|(with_reducible assumption)|assumption)
           have hx14:=bt_at a0 x6_2
           replace p14:=eq_true p14
           replace q14:=eq_true q14
           go_wp2
           go_meet
           case rel => exact ⟨_,(decide ((bt a0 x6_2) > 126)),(by first|rfl|(simp;done)|(simp [*];done)|(simp;exact (fun l_:List UInt8 => by cases l_ <;> rfl:∀ l_:List UInt8,l_.isEmpty=!(l_ != [])) _)),H',⟨by have:=HJ1.out;have:=HK2.out;first|omega|exact Nat.le_refl _⟩,by repeat (first|exact Drawn0.refl _|apply Drawn0.step)⟩
         case rest =>
          clear HC11
          try clear c1
          try clear p1
          try clear q1
          try clear hx1
          try clear p2
          try clear c3
          try clear c3b0
          try clear c3b1
          try clear c4
          try clear c4b0
          try clear c4b1
          try clear p5
          try clear q5
          try clear hx5
          try clear qi5
          try clear c6
          try clear c7
          try clear c7b0
          try clear c8
          try clear c8b0
          try clear c9
          try clear p9
          try clear q9
          try clear hx9
          try clear c10
          try clear c10b0
          try clear c10b1
          try clear p12
          try clear q12
          try clear hx12
          try clear c13
          try clear c13b0
          try clear p14
          try clear q14
          try clear hx14
          try clear p12
          try clear p14
          try clear p2
          try clear p5
          try clear p9
          try clear q12
          try clear q14
          try clear q5
          try clear q9
          obtain ⟨kq,x35_10,rfl,HA,HJ10,⟨mc10,rfl⟩⟩:=hcut
          cases kq with
          | zero => exact absurd HA.out (by simp [transhumanceref1_Unquote.j2])
          | succ kj10 =>
           have H:=HA.out
           clear HA
           simp only [transhumanceref1_Unquote.j2] at H
           by_cases c15:x35_10=true
           ·subst c15
            have H1:(some ((⟨#[]⟩:ByteArray),0,false))=some (r1,r2,r3):=by rw [if_pos rfl] at H;exact H
            clear H
            have H:=H1
            clear H1
            simp only [Option.some.injEq,Prod.mk.injEq] at H
            obtain ⟨rfl,rfl,rfl⟩:=H
            go_wp2
            go_ret3
            exact ⟨by first|rfl|(simp;done)|(simp [*];done)|(simp;exact (fun l_:List UInt8 => by cases l_ <;> rfl:∀ l_:List UInt8,l_.isEmpty=!(l_ != [])) _),by repeat (first|exact Drawn0.refl _|apply Drawn0.step)⟩
           ·replace c15:=Bool.eq_false_iff.mpr c15
            subst c15
            have H1:(if 0≤x6_2 then (if x6_2<(a0.size:Int) then (if (bt a0 x6_2)=92 then (if (wrap64 (x6_2+1)) ≥ (a0.size:Int) then (some ((⟨#[]⟩:ByteArray),0,false)) else (if 0≤(wrap64 (x6_2+1)) then (if (wrap64 (x6_2+1))<(a0.size:Int) then (if (bt a0 (wrap64 (x6_2+1)))=34 then (transhumanceref1_Unquote.j3 kj10 a0 x5_2 (wrap64 (x6_2+1)) (bt a0 (wrap64 (x6_2+1))) ((bt a0 (wrap64 (x6_2+1))) == 34)) else (if (bt a0 (wrap64 (x6_2+1)))=92 then (transhumanceref1_Unquote.j3 kj10 a0 x5_2 (wrap64 (x6_2+1)) (bt a0 (wrap64 (x6_2+1))) ((bt a0 (wrap64 (x6_2+1))) == 92)) else (transhumanceref1_Unquote.j3 kj10 a0 x5_2 (wrap64 (x6_2+1)) (bt a0 (wrap64 (x6_2+1))) ((bt a0 (wrap64 (x6_2+1))) == 47)))) else (none)) else (none))) else (if x6_2≤(wrap64 (x6_2+1)) then (if (wrap64 (x6_2+1))≤(a0.size:Int) then (if x5_2.size+(a0.extract (x6_2:Int).toNat ((wrap64 (x6_2+1)):Int).toNat).size≤9223372036854775807 then (transhumanceref1_Unquote.l0 kj10 a0 (x5_2++(a0.extract (x6_2:Int).toNat ((wrap64 (x6_2+1)):Int).toNat)) (wrap64 (x6_2+1))) else (none)) else (none)) else (none))) else (none)) else (none))=some (r1,r2,r3):=by rw [if_neg (show ¬ (false=true) by decide)] at H;exact H
            clear H
            have H:=H1
            clear H1
            by_cases c16:0≤x6_2
            ·rw [if_pos c16] at H
             have c16b0:decide (0≤x6_2)=true:=decide_eq_true c16
             clear c16
             by_cases c17:x6_2<(a0.size:Int)
             ·rw [if_pos c17] at H
              have c17b0:decide (x6_2<(a0.size:Int))=true:=decide_eq_true c17
              clear c17
              by_cases c19:(bt a0 x6_2)=92
              ·rw [if_pos c19] at H
               have c19b0:((bt a0 x6_2) == 92)=true:=beq_iff_eq.mpr c19
               have c19b1:((bt a0 x6_2) != 92)=false:=bne_eq_false_iff_eq.mpr c19
               clear c19
               by_cases c20:(wrap64 (x6_2+1)) ≥ (a0.size:Int)
               ·rw [if_pos c20] at H
                have c20b0:decide ((a0.size:Int)≤(wrap64 (x6_2+1)))=true:=decide_eq_true c20
                clear c20
                simp only [Option.some.injEq,Prod.mk.injEq] at H
                obtain ⟨rfl,rfl,rfl⟩:=H
                have p18:0≤(x6_2:Int):=of_decide_eq_true (by first|(with_reducible assumption)|assumption)
                have q18:x6_2<(a0.size:Int):=of_decide_eq_true (by first|(with_reducible assumption)|assumption)
                have hx18:=bt_at a0 x6_2
                replace p18:=eq_true p18
                replace q18:=eq_true q18
                go_wp2
                go_ret3
                exact ⟨by first|rfl|(simp;done)|(simp [*];done)|(simp;exact (fun l_:List UInt8 => by cases l_ <;> rfl:∀ l_:List UInt8,l_.isEmpty=!(l_ != [])) _),by repeat (first|exact Drawn0.refl _|apply Drawn0.step)⟩
               ·rw [if_neg c20] at H
                have c20b0:decide ((a0.size:Int)≤(wrap64 (x6_2+1)))=false:=decide_eq_false c20
                clear c20
                obtain ⟨ji21,hji21⟩:∃ j_:Int,(wrap64 (x6_2+1))=j_:=⟨_,rfl⟩
                replace H:(if 0≤(ji21) then (if (ji21)<(a0.size:Int) then (if (bt a0 (ji21))=34 then (transhumanceref1_Unquote.j3 kj10 a0 x5_2 ji21 (bt a0 (ji21)) ((bt a0 (ji21)) == 34)) else (if (bt a0 (ji21))=92 then (transhumanceref1_Unquote.j3 kj10 a0 x5_2 ji21 (bt a0 (ji21)) ((bt a0 (ji21)) == 92)) else (transhumanceref1_Unquote.j3 kj10 a0 x5_2 ji21 (bt a0 (ji21)) ((bt a0 (ji21)) == 47)))) else (none)) else (none))=some (r1,r2,r3):=by first|(rw [hji21] at H;exact H)|(simp only [hji21] at H ⊢;exact H)
                (try rw [hji21] at c20b0)
                have hji21w:(IntKind.i64.wrap (x6_2+1))=ji21:=(i64_w _).trans hji21
                by_cases c22:0≤(ji21)
                ·rw [if_pos c22] at H
                 have c22b0:decide (0≤(ji21))=true:=decide_eq_true c22
                 clear c22
                 by_cases c23:(ji21)<(a0.size:Int)
                 ·rw [if_pos c23] at H
                  have c23b0:decide ((ji21)<(a0.size:Int))=true:=decide_eq_true c23
                  clear c23
                  have HC25:=Aside0.mk H
                  clear H
                  have p18:0≤(x6_2:Int):=of_decide_eq_true (by first|(with_reducible assumption)|assumption)
                  have q18:x6_2<(a0.size:Int):=of_decide_eq_true (by first|(with_reducible assumption)|assumption)
                  have hx18:=bt_at a0 x6_2
                  replace p18:=eq_true p18
                  replace q18:=eq_true q18
                  have p24:0≤((ji21):Int):=of_decide_eq_true (by first|(with_reducible assumption)|assumption)
                  have q24:(ji21)<(a0.size:Int):=of_decide_eq_true (by first|(with_reducible assumption)|assumption)
                  have hx24:=bt_at a0 (ji21)
                  replace p24:=eq_true p24
                  replace q24:=eq_true q24
                  go_upto_if 60 with (fail)
                  go_cut [60] (fun v60 wc => ∃ (kq:Nat) (x60_24:Bool),v60=.bool x60_24∧Aside0 (transhumanceref1_Unquote.j3 kq a0 x5_2 ji21 (bt a0 (ji21)) x60_24=some (r1,r2,r3))∧Aside0 (kq≤kj10)∧Drawn0 w wc)
                  case first =>
                   have H:=HC25.out
                   clear HC25
                   by_cases c26:(bt a0 (ji21))=34
                   ·rw [if_pos c26] at H
                    have c26b0:((bt a0 (ji21)) == 34)=true:=beq_iff_eq.mpr c26
                    have c26b1:((bt a0 (ji21)) != 34)=false:=bne_eq_false_iff_eq.mpr c26
                    clear c26
                    (first|rw [c26b0]|(simp only [i64_w,i32_w];rw [c26b0])|skip)
                    have H':=Aside0.mk H
                    clear H
                    go_wp2
                    go_meet
                    case rel => exact ⟨_,(((bt a0 (ji21)) == 34)),(by first|rfl|(simp;done)|(simp only [← hji21] <;> (first|rfl|(simp;done)|(simp [*];done)|(simp_all;done)))|(simp [*];done)|(simp;exact (fun l_:List UInt8 => by cases l_ <;> rfl:∀ l_:List UInt8,l_.isEmpty=!(l_ != [])) _)),H',⟨by have:=HJ1.out;have:=HK2.out;have:=HJ10.out;first|omega|exact Nat.le_refl _⟩,by repeat (first|exact Drawn0.refl _|apply Drawn0.step)⟩
                   ·rw [if_neg c26] at H
                    have c26b0:((bt a0 (ji21)) == 34)=false:=beq_eq_false_iff_ne.mpr c26
                    have c26b1:((bt a0 (ji21)) != 34)=true:=bne_iff_ne.mpr c26
                    (first|rw [c26b0]|(simp only [i64_w,i32_w];rw [c26b0])|skip)
                    by_cases c27:(bt a0 (ji21))=92
                    ·rw [if_pos c27] at H
                     have c27b0:((bt a0 (ji21)) == 92)=true:=beq_iff_eq.mpr c27
                     have c27b1:((bt a0 (ji21)) != 92)=false:=bne_eq_false_iff_eq.mpr c27
                     clear c27
                     have H':=Aside0.mk H
                     clear H
                     go_wp2
                     go_meet
                     case rel => exact ⟨_,(((bt a0 (ji21)) == 92)),(by first|rfl|(simp;done)|(simp only [← hji21] <;> (first|rfl|(simp;done)|(simp [*];done)|(simp_all;done)))|(simp [*];done)|(simp;exact (fun l_:List UInt8 => by cases l_ <;> rfl:∀ l_:List UInt8,l_.isEmpty=!(l_ != [])) _)),H',⟨by have:=HJ1.out;have:=HK2.out;have:=HJ10.out;first|omega|exact Nat.le_refl _⟩,by repeat (first|exact Drawn0.refl _|apply Drawn0.step)⟩
                    ·rw [if_neg c27] at H
                     have c27b0:((bt a0 (ji21)) == 92)=false:=beq_eq_false_iff_ne.mpr c27
                     have c27b1:((bt a0 (ji21)) != 92)=true:=bne_iff_ne.mpr c27
                     have H':=Aside0.mk H
                     clear H
                     go_wp2
                     go_meet
                     case rel => exact ⟨_,(((bt a0 (ji21)) == 47)),(by first|rfl|(simp;done)|(simp only [← hji21] <;> (first|rfl|(simp;done)|(simp [*];done)|(simp_all;done)))|(simp [*];done)|(simp;exact (fun l_:List UInt8 => by cases l_ <;> rfl:∀ l_:List UInt8,l_.isEmpty=!(l_ != [])) _)),H',⟨by have:=HJ1.out;have:=HK2.out;have:=HJ10.out;first|omega|exact Nat.le_refl _⟩,by repeat (first|exact Drawn0.refl _|apply Drawn0.step)⟩
                  case rest =>
                   clear HC25
                   try clear c1
                   try clear p1
                   try clear q1
                   try clear hx1
                   try clear c2
                   try clear p2
                   try clear q2
                   try clear hx2
                   try clear c3
                   try clear c3b0
                   try clear c3b1
                   try clear c4
                   try clear c4b0
                   try clear c4b1
                   try clear p5
                   try clear q5
                   try clear hx5
                   try clear qi5
                   try clear c6
                   try clear p6
                   try clear c7
                   try clear c7b0
                   try clear c8
                   try clear c8b0
                   try clear c9
                   try clear p9
                   try clear q9
                   try clear hx9
                   try clear c10
                   try clear c10b0
                   try clear c10b1
                   try clear p12
                   try clear q12
                   try clear hx12
                   try clear c13
                   try clear c13b0
                   try clear p14
                   try clear q14
                   try clear hx14
                   try clear c15
                   try clear c16
                   try clear c16b0
                   try clear c17
                   try clear c17b0
                   try clear p18
                   try clear q18
                   try clear hx18
                   try clear c19
                   try clear c19b0
                   try clear c19b1
                   try clear c20
                   try clear c20b0
                   try clear c22
                   try clear c22b0
                   try clear c23
                   try clear c23b0
                   try clear p24
                   try clear q24
                   try clear hx24
                   try clear c26
                   try clear c26b0
                   try clear c26b1
                   try clear c27
                   try clear c27b0
                   try clear c27b1
                   try clear p1
                   try clear p12
                   try clear p14
                   try clear p18
                   try clear p2
                   try clear p24
                   try clear p5
                   try clear p9
                   try clear q1
                   try clear q12
                   try clear q14
                   try clear q18
                   try clear q24
                   try clear q5
                   try clear q9
                   obtain ⟨kq,x60_24,rfl,HA,HJ24,⟨mc24,rfl⟩⟩:=hcut
                   cases kq with
                   | zero => exact absurd HA.out (by simp [transhumanceref1_Unquote.j3])
                   | succ kj24 =>
                    have H:=HA.out
                    clear HA
                    simp only [transhumanceref1_Unquote.j3] at H
                    by_cases c28:x60_24=true
                    ·subst c28
                     have H1:(if 0≤ji21 then (if ji21≤(wrap64 (ji21+1)) then (if (wrap64 (ji21+1))≤(a0.size:Int) then (if x5_2.size+(a0.extract (ji21:Int).toNat ((wrap64 (ji21+1)):Int).toNat).size≤9223372036854775807 then (transhumanceref1_Unquote.l0 kj24 a0 (x5_2++(a0.extract (ji21:Int).toNat ((wrap64 (ji21+1)):Int).toNat)) (wrap64 (ji21+1))) else (none)) else (none)) else (none)) else (none))=some (r1,r2,r3):=by rw [if_pos rfl] at H;exact H
                     clear H
                     have H:=H1
                     clear H1
                     by_cases c29:0≤ji21
                     ·rw [if_pos c29] at H
                      have c29b0:=eq_true c29
                      have c29b1:decide (0≤ji21)=true:=decide_eq_true c29
                      clear c29
                      by_cases c30:ji21≤(wrap64 (ji21+1))
                      ·rw [if_pos c30] at H
                       have c30b0:=eq_true c30
                       have c30b1:decide (ji21≤(wrap64 (ji21+1)))=true:=decide_eq_true c30
                       by_cases c31:(wrap64 (ji21+1))≤(a0.size:Int)
                       ·rw [if_pos c31] at H
                        have c31b0:=eq_true c31
                        have c31b1:decide ((wrap64 (ji21+1))≤(a0.size:Int))=true:=decide_eq_true c31
                        by_cases c32:x5_2.size+(a0.extract (ji21:Int).toNat ((wrap64 (ji21+1)):Int).toNat).size≤9223372036854775807
                        ·rw [if_pos c32] at H
                         have c32b0:=eq_true c32
                         have c32b1:decide (x5_2.size+(a0.extract (ji21:Int).toNat ((wrap64 (ji21+1)):Int).toNat).size≤9223372036854775807)=true:=decide_eq_true c32
                         try have c32b2:(9223372036854775807<x5_2.size+(a0.extract (ji21:Int).toNat ((wrap64 (ji21+1)):Int).toNat).size)=False:=eq_false (Nat.not_lt.2 c32)
                         have H':=Aside0.mk H
                         clear H
                         go_wp2
                         go_roundg kj24
                         case measure => have:=HJ1.out;have:=HK2.out;have:=HJ10.out;have:=HJ24.out;omega
                         case rel => exact ⟨(x5_2++(a0.extract (ji21:Int).toNat ((wrap64 (ji21+1)):Int).toNat)),(wrap64 (ji21+1)),(by first|rfl|(simp;done)|(simp only [← hji21] <;> (first|rfl|(simp;done)|(simp [*];done)|(simp_all;done)))|(simp [*];done)|(simp;exact (fun l_:List UInt8 => by cases l_ <;> rfl:∀ l_:List UInt8,l_.isEmpty=!(l_ != [])) _)),(by first|rfl|(simp;done)|(simp only [← hji21] <;> (first|rfl|(simp;done)|(simp [*];done)|(simp_all;done)))|(simp [*];done)|(simp;exact (fun l_:List UInt8 => by cases l_ <;> rfl:∀ l_:List UInt8,l_.isEmpty=!(l_ != [])) _)),H',⟨by have:=HJ1.out;have:=HK2.out;have:=HJ10.out;have:=HJ24.out;omega⟩,by repeat (first|exact Drawn0.refl _|apply Drawn0.step)⟩
                        ·rw [if_neg c32] at H
                         exact absurd H (by simp)
                       ·rw [if_neg c31] at H
                        exact absurd H (by simp)
                      ·rw [if_neg c30] at H
                       exact absurd H (by simp)
                     ·rw [if_neg c29] at H
                      exact absurd H (by simp)
                    ·replace c28:=Bool.eq_false_iff.mpr c28
                     subst c28
                     have H1:(if (bt a0 (ji21))=110 then (if x5_2.size+1≤9223372036854775807 then (transhumanceref1_Unquote.l0 kj24 a0 (x5_2++(⟨#[10]⟩:ByteArray)) (wrap64 (ji21+1))) else (none)) else (if (bt a0 (ji21))=116 then (if x5_2.size+1≤9223372036854775807 then (transhumanceref1_Unquote.l0 kj24 a0 (x5_2++(⟨#[9]⟩:ByteArray)) (wrap64 (ji21+1))) else (none)) else (some ((⟨#[]⟩:ByteArray),0,false))))=some (r1,r2,r3):=by rw [if_neg (show ¬ (false=true) by decide)] at H;exact H
                     clear H
                     have H:=H1
                     clear H1
                     by_cases c33:(bt a0 (ji21))=110
                     ·rw [if_pos c33] at H
                      have c33b0:((bt a0 (ji21)) == 110)=true:=beq_iff_eq.mpr c33
                      have c33b1:((bt a0 (ji21)) != 110)=false:=bne_eq_false_iff_eq.mpr c33
                      clear c33
                      by_cases c34:x5_2.size+1≤9223372036854775807
                      ·rw [if_pos c34] at H
                       have c34b0:=eq_true c34
                       have c34b1:decide (x5_2.size+1≤9223372036854775807)=true:=decide_eq_true c34
                       try have c34b2:(9223372036854775807<x5_2.size+1)=False:=eq_false (Nat.not_lt.2 c34)
                       have H':=Aside0.mk H
                       clear H
                       go_wp2
                       go_roundg kj24
                       case measure => have:=HJ1.out;have:=HK2.out;have:=HJ10.out;have:=HJ24.out;omega
                       case rel => exact ⟨(x5_2++(⟨#[10]⟩:ByteArray)),(wrap64 (ji21+1)),(by first|rfl|(simp;done)|(simp [*];done)|(simp;exact (fun l_:List UInt8 => by cases l_ <;> rfl:∀ l_:List UInt8,l_.isEmpty=!(l_ != [])) _)),(by first|rfl|(simp;done)|(simp only [← hji21] <;> (first|rfl|(simp;done)|(simp [*];done)|(simp_all;done)))|(simp [*];done)|(simp;exact (fun l_:List UInt8 => by cases l_ <;> rfl:∀ l_:List UInt8,l_.isEmpty=!(l_ != [])) _)),H',⟨by have:=HJ1.out;have:=HK2.out;have:=HJ10.out;have:=HJ24.out;omega⟩,by repeat (first|exact Drawn0.refl _|apply Drawn0.step)⟩
                      ·rw [if_neg c34] at H
                       exact absurd H (by simp)
                     ·rw [if_neg c33] at H
                      have c33b0:((bt a0 (ji21)) == 110)=false:=beq_eq_false_iff_ne.mpr c33
                      have c33b1:((bt a0 (ji21)) != 110)=true:=bne_iff_ne.mpr c33
                      by_cases c35:(bt a0 (ji21))=116
                      ·rw [if_pos c35] at H
                       have c35b0:((bt a0 (ji21)) == 116)=true:=beq_iff_eq.mpr c35
                       have c35b1:((bt a0 (ji21)) != 116)=false:=bne_eq_false_iff_eq.mpr c35
                       clear c35
                       by_cases c36:x5_2.size+1≤9223372036854775807
                       ·rw [if_pos c36] at H
                        have c36b0:=eq_true c36
                        have c36b1:decide (x5_2.size+1≤9223372036854775807)=true:=decide_eq_true c36
                        try have c36b2:(9223372036854775807<x5_2.size+1)=False:=eq_false (Nat.not_lt.2 c36)
                        have H':=Aside0.mk H
                        clear H
                        go_wp2
                        go_roundg kj24
                        case measure => have:=HJ1.out;have:=HK2.out;have:=HJ10.out;have:=HJ24.out;omega
                        case rel => exact ⟨(x5_2++(⟨#[9]⟩:ByteArray)),(wrap64 (ji21+1)),(by first|rfl|(simp;done)|(simp [*];done)|(simp;exact (fun l_:List UInt8 => by cases l_ <;> rfl:∀ l_:List UInt8,l_.isEmpty=!(l_ != [])) _)),(by first|rfl|(simp;done)|(simp only [← hji21] <;> (first|rfl|(simp;done)|(simp [*];done)|(simp_all;done)))|(simp [*];done)|(simp;exact (fun l_:List UInt8 => by cases l_ <;> rfl:∀ l_:List UInt8,l_.isEmpty=!(l_ != [])) _)),H',⟨by have:=HJ1.out;have:=HK2.out;have:=HJ10.out;have:=HJ24.out;omega⟩,by repeat (first|exact Drawn0.refl _|apply Drawn0.step)⟩
                       ·rw [if_neg c36] at H
                        exact absurd H (by simp)
                      ·rw [if_neg c35] at H
                       have c35b0:((bt a0 (ji21)) == 116)=false:=beq_eq_false_iff_ne.mpr c35
                       have c35b1:((bt a0 (ji21)) != 116)=true:=bne_iff_ne.mpr c35
                       simp only [Option.some.injEq,Prod.mk.injEq] at H
                       obtain ⟨rfl,rfl,rfl⟩:=H
                       go_wp2
                       go_ret3
                       exact ⟨by first|rfl|(simp;done)|(simp only [← hji21] <;> (first|rfl|(simp;done)|(simp [*];done)|(simp_all;done)))|(simp [*];done)|(simp;exact (fun l_:List UInt8 => by cases l_ <;> rfl:∀ l_:List UInt8,l_.isEmpty=!(l_ != [])) _),by repeat (first|exact Drawn0.refl _|apply Drawn0.step)⟩
                 ·rw [if_neg c23] at H
                  exact absurd H (by simp)
                ·rw [if_neg c22] at H
                 exact absurd H (by simp)
              ·rw [if_neg c19] at H
               have c19b0:((bt a0 x6_2) == 92)=false:=beq_eq_false_iff_ne.mpr c19
               have c19b1:((bt a0 x6_2) != 92)=true:=bne_iff_ne.mpr c19
               have c37b0:=eq_true (of_decide_eq_true (by first|(with_reducible assumption)|assumption):0≤x6_2)
               by_cases c38:x6_2≤(wrap64 (x6_2+1))
               ·rw [if_pos c38] at H
                have c38b0:=eq_true c38
                have c38b1:decide (x6_2≤(wrap64 (x6_2+1)))=true:=decide_eq_true c38
                by_cases c39:(wrap64 (x6_2+1))≤(a0.size:Int)
                ·rw [if_pos c39] at H
                 have c39b0:=eq_true c39
                 have c39b1:decide ((wrap64 (x6_2+1))≤(a0.size:Int))=true:=decide_eq_true c39
                 by_cases c40:x5_2.size+(a0.extract (x6_2:Int).toNat ((wrap64 (x6_2+1)):Int).toNat).size≤9223372036854775807
                 ·rw [if_pos c40] at H
                  have c40b0:=eq_true c40
                  have c40b1:decide (x5_2.size+(a0.extract (x6_2:Int).toNat ((wrap64 (x6_2+1)):Int).toNat).size≤9223372036854775807)=true:=decide_eq_true c40
                  try have c40b2:(9223372036854775807<x5_2.size+(a0.extract (x6_2:Int).toNat ((wrap64 (x6_2+1)):Int).toNat).size)=False:=eq_false (Nat.not_lt.2 c40)
                  have H':=Aside0.mk H
                  clear H
                  have p18:0≤(x6_2:Int):=of_decide_eq_true (by first|(with_reducible assumption)|assumption)
                  have q18:x6_2<(a0.size:Int):=of_decide_eq_true (by first|(with_reducible assumption)|assumption)
                  have hx18:=bt_at a0 x6_2
                  replace p18:=eq_true p18
                  replace q18:=eq_true q18
                  go_wp2
                  go_roundg kj10
                  case measure => have:=HJ1.out;have:=HK2.out;have:=HJ10.out;omega
                  case rel => exact ⟨(x5_2++(a0.extract (x6_2:Int).toNat ((wrap64 (x6_2+1)):Int).toNat)),(wrap64 (x6_2+1)),(by first|rfl|(simp;done)|(simp [*];done)|(simp;exact (fun l_:List UInt8 => by cases l_ <;> rfl:∀ l_:List UInt8,l_.isEmpty=!(l_ != [])) _)),(by first|rfl|(simp;done)|(simp [*];done)|(simp;exact (fun l_:List UInt8 => by cases l_ <;> rfl:∀ l_:List UInt8,l_.isEmpty=!(l_ != [])) _)),H',⟨by have:=HJ1.out;have:=HK2.out;have:=HJ10.out;omega⟩,by repeat (first|exact Drawn0.refl _|apply Drawn0.step)⟩
                 ·rw [if_neg c40] at H
                  exact absurd H (by simp)
                ·rw [if_neg c39] at H
                 exact absurd H (by simp)
               ·rw [if_neg c38] at H
                exact absurd H (by simp)
             ·rw [if_neg c17] at H
              exact absurd H (by simp)
            ·rw [if_neg c16] at H
             exact absurd H (by simp)
       ·rw [if_neg c8] at H
        exact absurd H (by simp)
      ·rw [if_neg c7] at H
       have c7b0:decide (x6_2<(a0.size:Int))=false:=decide_eq_false c7
       clear c7
       simp only [Option.some.injEq,Prod.mk.injEq] at H
       obtain ⟨rfl,rfl,rfl⟩:=H
       go_wp2
       go_ret3
       exact ⟨by first|rfl|(simp;done)|(simp [*];done)|(simp;exact (fun l_:List UInt8 => by cases l_ <;> rfl:∀ l_:List UInt8,l_.isEmpty=!(l_ != [])) _),by repeat (first|exact Drawn0.refl _|apply Drawn0.step)⟩
end Go.Proofs.YtjdjljgbfpkbdaaGreatDoor.Q
