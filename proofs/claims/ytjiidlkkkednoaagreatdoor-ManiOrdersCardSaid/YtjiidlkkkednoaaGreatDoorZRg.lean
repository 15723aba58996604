import Derived.Test.YtjiidlkkkednoaaGreatDoorZR0g
import Derived.Test.YtjiidlkkkednoaaGreatDoorZR1g
import Derived.Test.YtjiidlkkkednoaaGreatDoorZR3g
import Derived.Test.YtjiidlkkkednoaaGreatDoorZR4
section
namespace Go.Proofs.YtjiidlkkkednoaaGreatDoor.R
open Go.RowKit Go.Proofs.YtjiidlkkkednoaaGreatDoorW.PrintWords Go.Proofs.YtjiidlkkkednoaaGreatDoorW.PrintLast Go.Proofs.YtjiidlkkkednoaaGreatDoorW.PrintMore
attribute [local go_sem] max2_int min2_int max_two min_two max_three min_three max_four min_four
set_option linter.unusedVariables false
set_option linter.unusedSimpArgs false
def path_signs.l0:Nat→ByteArray→Int→Int→Option (Bool)
 | 0,_,_,_ => none
 | k+1,x0,x6,x7 => if x7<x6 then (if 0≤x7 then (if x7<(x0.size:Int) then (if (bt x0 x7) ≥ 97 then (if (bt x0 x7)≤122 then (path_signs.l0 k x0 x6 (wrap64 (x7+1))) else (if (bt x0 x7) ≥ 48 then (if (bt x0 x7)≤57 then (path_signs.l0 k x0 x6 (wrap64 (x7+1))) else (if (bt x0 x7)=46 then (path_signs.l0 k x0 x6 (wrap64 (x7+1))) else (if (bt x0 x7)=45 then (path_signs.l0 k x0 x6 (wrap64 (x7+1))) else (if ((bt x0 x7)=95) then (path_signs.l0 k x0 x6 (wrap64 (x7+1))) else (some false))))) else (if (bt x0 x7)=46 then (path_signs.l0 k x0 x6 (wrap64 (x7+1))) else (if (bt x0 x7)=45 then (path_signs.l0 k x0 x6 (wrap64 (x7+1))) else (if ((bt x0 x7)=95) then (path_signs.l0 k x0 x6 (wrap64 (x7+1))) else (some false)))))) else (if (bt x0 x7) ≥ 48 then (if (bt x0 x7)≤57 then (path_signs.l0 k x0 x6 (wrap64 (x7+1))) else (if (bt x0 x7)=46 then (path_signs.l0 k x0 x6 (wrap64 (x7+1))) else (if (bt x0 x7)=45 then (path_signs.l0 k x0 x6 (wrap64 (x7+1))) else (if ((bt x0 x7)=95) then (path_signs.l0 k x0 x6 (wrap64 (x7+1))) else (some false))))) else (if (bt x0 x7)=46 then (path_signs.l0 k x0 x6 (wrap64 (x7+1))) else (if (bt x0 x7)=45 then (path_signs.l0 k x0 x6 (wrap64 (x7+1))) else (if ((bt x0 x7)=95) then (path_signs.l0 k x0 x6 (wrap64 (x7+1))) else (some false)))))) else (none)) else (none)) else (some true)
def path_signs.f (k:Nat) (a0:ByteArray):Option (Bool):=path_signs.l0 k a0 (a0.size:Int) 0
set_option maxHeartbeats 8000000 in
set_option maxRecDepth 100000 in
theorem path_signs.calls (k:Nat) (a0:ByteArray) (r:Bool) (w:World) (h:path_signs.f k a0=some r) :
  Calls Tryz.prog 71 #[.string a0] w fun e w' => e=.returned (.bool r)∧Drawn0 w w':=by
 have H:(path_signs.l0 k a0 (a0.size:Int) 0)=some r:=h
 clear h
 have H':=Aside0.mk H
 clear H
 go_enter Tryz.func71,Tryz.ntmps71
 go_wp2
 go_loopg [7] k (fun kq v7 w' => ∃ (x7_1:Int),v7=.int .i64 x7_1∧Aside0 (path_signs.l0 kq a0 (a0.size:Int) x7_1=some r)∧Aside0 (kq≤k)∧Drawn0 w w')
 case atStart => exact ⟨(0),(by first|rfl|(simp;done)|(simp [*];done)|(simp;exact (fun l_:List UInt8 => by cases l_ <;> rfl:∀ l_:List UInt8,l_.isEmpty=!(l_ != [])) _)),H',⟨Nat.le_refl _⟩,by repeat (first|exact Drawn0.refl _|apply Drawn0.step)⟩
 case round =>
  clear H'
  obtain ⟨x7_1,rfl,HA,HK1,⟨m1,rfl⟩⟩:=hrel
  cases gk with
  | zero => exact absurd HA.out (by simp [path_signs.l0])
  | succ k1 =>
   have H:=HA.out
   clear HA
   simp only [path_signs.l0] at H
   by_cases c2:x7_1<(a0.size:Int)
   ·rw [if_pos c2] at H
    have c2b0:decide (x7_1<(a0.size:Int))=true:=decide_eq_true c2
    clear c2
    by_cases c3:0≤x7_1
    ·rw [if_pos c3] at H
     have c3b0:decide (0≤x7_1)=true:=decide_eq_true c3
     clear c3
     by_cases c4:x7_1<(a0.size:Int)
     ·rw [if_pos c4] at H
      have c4b0:decide (x7_1<(a0.size:Int))=true:=decide_eq_true c4
      clear c4
      by_cases c6:(bt a0 x7_1) ≥ 97
      ·rw [if_pos c6] at H
       have c6b0:decide (97≤(bt a0 x7_1))=true:=decide_eq_true c6
       clear c6
       by_cases c7:(bt a0 x7_1)≤122
       ·rw [if_pos c7] at H
        have c7b0:decide ((bt a0 x7_1)≤122)=true:=decide_eq_true c7
        clear c7
        have H':=Aside0.mk H
        clear H
        have p5:0≤(x7_1:Int):=of_decide_eq_true (by first|(with_reducible assumption)|assumption)
        have q5:x7_1<(a0.size:Int):=of_decide_eq_true (by first|(with_reducible assumption)|assumption)
        have hx5:=bt_at a0 x7_1
        replace p5:=eq_true p5
        replace q5:=eq_true q5
        go_wp2
        go_roundg k1
        case measure => have:=HK1.out;omega
        case rel => exact ⟨(wrap64 (x7_1+1)),(by first|rfl|(simp;done)|(simp [*];done)|(simp;exact (fun l_:List UInt8 => by cases l_ <;> rfl:∀ l_:List UInt8,l_.isEmpty=!(l_ != [])) _)),H',⟨by have:=HK1.out;omega⟩,by repeat (first|exact Drawn0.refl _|apply Drawn0.step)⟩
       ·rw [if_neg c7] at H
        have c7b0:decide ((bt a0 x7_1)≤122)=false:=decide_eq_false c7
        clear c7
        by_cases c8:(bt a0 x7_1) ≥ 48
        ·rw [if_pos c8] at H
         have c8b0:decide (48≤(bt a0 x7_1))=true:=decide_eq_true c8
         clear c8
         by_cases c9:(bt a0 x7_1)≤57
         ·rw [if_pos c9] at H
          have c9b0:decide ((bt a0 x7_1)≤57)=true:=decide_eq_true c9
          clear c9
          have H':=Aside0.mk H
          clear H
          have p5:0≤(x7_1:Int):=of_decide_eq_true (by first|(with_reducible assumption)|assumption)
          have q5:x7_1<(a0.size:Int):=of_decide_eq_true (by first|(with_reducible assumption)|assumption)
          have hx5:=bt_at a0 x7_1
          replace p5:=eq_true p5
          replace q5:=eq_true q5
          go_wp2
          go_roundg k1
          case measure => have:=HK1.out;omega
          case rel => exact ⟨(wrap64 (x7_1+1)),(by first|rfl|(simp;done)|(simp [*];done)|(simp;exact (fun l_:List UInt8 => by cases l_ <;> rfl:∀ l_:List UInt8,l_.isEmpty=!(l_ != [])) _)),H',⟨by have:=HK1.out;omega⟩,by repeat (first|exact Drawn0.refl _|apply Drawn0.step)⟩
         ·rw [if_neg c9] at H
          have c9b0:decide ((bt a0 x7_1)≤57)=false:=decide_eq_false c9
          clear c9
          by_cases c10:(bt a0 x7_1)=46
          ·rw [if_pos c10] at H
           have c10b0:((bt a0 x7_1) == 46)=true:=beq_iff_eq.mpr c10
           have c10b1:((bt a0 x7_1) != 46)=false:=bne_eq_false_iff_eq.mpr c10
           clear c10
           have H':=Aside0.mk H
           clear H
           have p5:0≤(x7_1:Int):=of_decide_eq_true (by first|(with_reducible assumption)|assumption)
           have q5:x7_1<(a0.size:Int):=of_decide_eq_true (by first|(with_reducible assumption)|assumption)
           have hx5:=bt_at a0 x7_1
           replace p5:=eq_true p5
           replace q5:=eq_true q5
           go_wp2
           go_roundg k1
           case measure => have:=HK1.out;omega
           case rel => exact ⟨(wrap64 (x7_1+1)),(by first|rfl|(simp;done)|(simp [*];done)|(simp;exact (fun l_:List UInt8 => by cases l_ <;> rfl:∀ l_:List UInt8,l_.isEmpty=!(l_ != [])) _)),H',⟨by have:=HK1.out;omega⟩,by repeat (first|exact Drawn0.refl _|apply Drawn0.step)⟩
          ·rw [if_neg c10] at H
           have c10b0:((bt a0 x7_1) == 46)=false:=beq_eq_false_iff_ne.mpr c10
           have c10b1:((bt a0 x7_1) != 46)=true:=bne_iff_ne.mpr c10
           by_cases c11:(bt a0 x7_1)=45
           ·rw [if_pos c11] at H
            have c11b0:((bt a0 x7_1) == 45)=true:=beq_iff_eq.mpr c11
            have c11b1:((bt a0 x7_1) != 45)=false:=bne_eq_false_iff_eq.mpr c11
            clear c11
            have H':=Aside0.mk H
            clear H
            have p5:0≤(x7_1:Int):=of_decide_eq_true (by first|(with_reducible assumption)|assumption)
            have q5:x7_1<(a0.size:Int):=of_decide_eq_true (by first|(with_reducible assumption)|assumption)
            have hx5:=bt_at a0 x7_1
            replace p5:=eq_true p5
            replace q5:=eq_true q5
            go_wp2
            go_roundg k1
            case measure => have:=HK1.out;omega
            case rel => exact ⟨(wrap64 (x7_1+1)),(by first|rfl|(simp;done)|(simp [*];done)|(simp;exact (fun l_:List UInt8 => by cases l_ <;> rfl:∀ l_:List UInt8,l_.isEmpty=!(l_ != [])) _)),H',⟨by have:=HK1.out;omega⟩,by repeat (first|exact Drawn0.refl _|apply Drawn0.step)⟩
           ·rw [if_neg c11] at H
            have c11b0:((bt a0 x7_1) == 45)=false:=beq_eq_false_iff_ne.mpr c11
            have c11b1:((bt a0 x7_1) != 45)=true:=bne_iff_ne.mpr c11
            by_cases c12:((bt a0 x7_1)=95)
            ·rw [if_pos c12] at H
             have c12b0:((bt a0 x7_1) == 95)=true:=beq_iff_eq.mpr c12
             have c12b1:((bt a0 x7_1) != 95)=false:=bne_eq_false_iff_eq.mpr c12
             clear c12
             have H':=Aside0.mk H
             clear H
             have p5:0≤(x7_1:Int):=of_decide_eq_true (by first|(with_reducible assumption)|assumption)
             have q5:x7_1<(a0.size:Int):=of_decide_eq_true (by first|(with_reducible assumption)|assumption)
             have hx5:=bt_at a0 x7_1
             replace p5:=eq_true p5
             replace q5:=eq_true q5
             go_wp2
             go_roundg k1
             case measure => have:=HK1.out;omega
             case rel => exact ⟨(wrap64 (x7_1+1)),(by first|rfl|(simp;done)|(simp [*];done)|(simp;exact (fun l_:List UInt8 => by cases l_ <;> rfl:∀ l_:List UInt8,l_.isEmpty=!(l_ != [])) _)),H',⟨by have:=HK1.out;omega⟩,by repeat (first|exact Drawn0.refl _|apply Drawn0.step)⟩
            ·rw [if_neg c12] at H
             have c12b0:((bt a0 x7_1) == 95)=false:=beq_eq_false_iff_ne.mpr c12
             have c12b1:((bt a0 x7_1) != 95)=true:=bne_iff_ne.mpr c12
             obtain rfl:=Option.some.inj H
             have p5:0≤(x7_1:Int):=of_decide_eq_true (by first|(with_reducible assumption)|assumption)
             have q5:x7_1<(a0.size:Int):=of_decide_eq_true (by first|(with_reducible assumption)|assumption)
             have hx5:=bt_at a0 x7_1
             replace p5:=eq_true p5
             replace q5:=eq_true q5
             go_wp2
             go_ret
             exact ⟨by first|rfl|(simp;done)|(simp [*];done)|(simp;exact (fun l_:List UInt8 => by cases l_ <;> rfl:∀ l_:List UInt8,l_.isEmpty=!(l_ != [])) _),by repeat (first|exact Drawn0.refl _|apply Drawn0.step)⟩
        ·rw [if_neg c8] at H
         have c8b0:decide (48≤(bt a0 x7_1))=false:=decide_eq_false c8
         clear c8
         by_cases c13:(bt a0 x7_1)=46
         ·rw [if_pos c13] at H
          have c13b0:((bt a0 x7_1) == 46)=true:=beq_iff_eq.mpr c13
          have c13b1:((bt a0 x7_1) != 46)=false:=bne_eq_false_iff_eq.mpr c13
          clear c13
          have H':=Aside0.mk H
          clear H
          have p5:0≤(x7_1:Int):=of_decide_eq_true (by first|(with_reducible assumption)|assumption)
          have q5:x7_1<(a0.size:Int):=of_decide_eq_true (by first|(with_reducible assumption)|assumption)
          have hx5:=bt_at a0 x7_1
          replace p5:=eq_true p5
          replace q5:=eq_true q5
          go_wp2
          go_roundg k1
          case measure => have:=HK1.out;omega
          case rel => exact ⟨(wrap64 (x7_1+1)),(by first|rfl|(simp;done)|(simp [*];done)|(simp;exact (fun l_:List UInt8 => by cases l_ <;> rfl:∀ l_:List UInt8,l_.isEmpty=!(l_ != [])) _)),H',⟨by have:=HK1.out;omega⟩,by repeat (first|exact Drawn0.refl _|apply Drawn0.step)⟩
         ·rw [if_neg c13] at H
          have c13b0:((bt a0 x7_1) == 46)=false:=beq_eq_false_iff_ne.mpr c13
          have c13b1:((bt a0 x7_1) != 46)=true:=bne_iff_ne.mpr c13
          by_cases c14:(bt a0 x7_1)=45
          ·rw [if_pos c14] at H
           have c14b0:((bt a0 x7_1) == 45)=true:=beq_iff_eq.mpr c14
           have c14b1:((bt a0 x7_1) != 45)=false:=bne_eq_false_iff_eq.mpr c14
           clear c14
           have H':=Aside0.mk H
           clear H
           have p5:0≤(x7_1:Int):=of_decide_eq_true (by first|(with_reducible assumption)|assumption)
           have q5:x7_1<(a0.size:Int):=of_decide_eq_true (by first|(with_reducible assumption)|assumption)
           have hx5:=bt_at a0 x7_1
           replace p5:=eq_true p5
           replace q5:=eq_true q5
           go_wp2
           go_roundg k1
           case measure => have:=HK1.out;omega
           case rel => exact ⟨(wrap64 (x7_1+1)),(by first|rfl|(simp;done)|(simp [*];done)|(simp;exact (fun l_:List UInt8 => by cases l_ <;> rfl:∀ l_:List UInt8,l_.isEmpty=!(l_ != [])) _)),H',⟨by have:=HK1.out;omega⟩,by repeat (first|exact Drawn0.refl _|apply Drawn0.step)⟩
          ·rw [if_neg c14] at H
           have c14b0:((bt a0 x7_1) == 45)=false:=beq_eq_false_iff_ne.mpr c14
           have c14b1:((bt a0 x7_1) != 45)=true:=bne_iff_ne.mpr c14
           by_cases c15:((bt a0 x7_1)=95)
           ·rw [if_pos c15] at H
            have c15b0:((bt a0 x7_1) == 95)=true:=beq_iff_eq.mpr c15
            have c15b1:((bt a0 x7_1) != 95)=false:=bne_eq_false_iff_eq.mpr c15
            clear c15
            have H':=Aside0.mk H
            clear H
            have p5:0≤(x7_1:Int):=of_decide_eq_true (by first|(with_reducible assumption)|assumption)
            have q5:x7_1<(a0.size:Int):=of_decide_eq_true (by first|(with_reducible assumption)|assumption)
            have hx5:=bt_at a0 x7_1
            replace p5:=eq_true p5
            replace q5:=eq_true q5
            go_wp2
            go_roundg k1
            case measure => have:=HK1.out;omega
            case rel => exact ⟨(wrap64 (x7_1+1)),(by first|rfl|(simp;done)|(simp [*];done)|(simp;exact (fun l_:List UInt8 => by cases l_ <;> rfl:∀ l_:List UInt8,l_.isEmpty=!(l_ != [])) _)),H',⟨by have:=HK1.out;omega⟩,by repeat (first|exact Drawn0.refl _|apply Drawn0.step)⟩
           ·rw [if_neg c15] at H
            have c15b0:((bt a0 x7_1) == 95)=false:=beq_eq_false_iff_ne.mpr c15
            have c15b1:((bt a0 x7_1) != 95)=true:=bne_iff_ne.mpr c15
            obtain rfl:=Option.some.inj H
            have p5:0≤(x7_1:Int):=of_decide_eq_true (by first|(with_reducible assumption)|assumption)
            have q5:x7_1<(a0.size:Int):=of_decide_eq_true (by first|(with_reducible assumption)|assumption)
            have hx5:=bt_at a0 x7_1
            replace p5:=eq_true p5
            replace q5:=eq_true q5
            go_wp2
            go_ret
            exact ⟨by first|rfl|(simp;done)|(simp [*];done)|(simp;exact (fun l_:List UInt8 => by cases l_ <;> rfl:∀ l_:List UInt8,l_.isEmpty=!(l_ != [])) _),by repeat (first|exact Drawn0.refl _|apply Drawn0.step)⟩
      ·rw [if_neg c6] at H
       have c6b0:decide (97≤(bt a0 x7_1))=false:=decide_eq_false c6
       clear c6
       by_cases c16:(bt a0 x7_1) ≥ 48
       ·rw [if_pos c16] at H
        have c16b0:decide (48≤(bt a0 x7_1))=true:=decide_eq_true c16
        clear c16
        by_cases c17:(bt a0 x7_1)≤57
        ·rw [if_pos c17] at H
         have c17b0:decide ((bt a0 x7_1)≤57)=true:=decide_eq_true c17
         clear c17
         have H':=Aside0.mk H
         clear H
         have p5:0≤(x7_1:Int):=of_decide_eq_true (by first|(with_reducible assumption)|assumption)
         have q5:x7_1<(a0.size:Int):=of_decide_eq_true (by first|(with_reducible assumption)|assumption)
         have hx5:=bt_at a0 x7_1
         replace p5:=eq_true p5
         replace q5:=eq_true q5
         go_wp2
         go_roundg k1
         case measure => have:=HK1.out;omega
         case rel => exact ⟨(wrap64 (x7_1+1)),(by first|rfl|(simp;done)|(simp [*];done)|(simp;exact (fun l_:List UInt8 => by cases l_ <;> rfl:∀ l_:List UInt8,l_.isEmpty=!(l_ != [])) _)),H',⟨by have:=HK1.out;omega⟩,by repeat (first|exact Drawn0.refl _|apply Drawn0.step)⟩
        ·rw [if_neg c17] at H
         have c17b0:decide ((bt a0 x7_1)≤57)=false:=decide_eq_false c17
         clear c17
         by_cases c18:(bt a0 x7_1)=46
         ·rw [if_pos c18] at H
          have c18b0:((bt a0 x7_1) == 46)=true:=beq_iff_eq.mpr c18
          have c18b1:((bt a0 x7_1) != 46)=false:=bne_eq_false_iff_eq.mpr c18
          clear c18
          have H':=Aside0.mk H
          clear H
          have p5:0≤(x7_1:Int):=of_decide_eq_true (by first|(with_reducible assumption)|assumption)
          have q5:x7_1<(a0.size:Int):=of_decide_eq_true (by first|(with_reducible assumption)|assumption)
          have hx5:=bt_at a0 x7_1
          replace p5:=eq_true p5
          replace q5:=eq_true q5
          go_wp2
          go_roundg k1
          case measure => have:=HK1.out;omega
          case rel => exact ⟨(wrap64 (x7_1+1)),(by first|rfl|(simp;done)|(simp [*];done)|(simp;exact (fun l_:List UInt8 => by cases l_ <;> rfl:∀ l_:List UInt8,l_.isEmpty=!(l_ != [])) _)),H',⟨by have:=HK1.out;omega⟩,by repeat (first|exact Drawn0.refl _|apply Drawn0.step)⟩
         ·rw [if_neg c18] at H
          have c18b0:((bt a0 x7_1) == 46)=false:=beq_eq_false_iff_ne.mpr c18
          have c18b1:((bt a0 x7_1) != 46)=true:=bne_iff_ne.mpr c18
          by_cases c19:(bt a0 x7_1)=45
          ·rw [if_pos c19] at H
           have c19b0:((bt a0 x7_1) == 45)=true:=beq_iff_eq.mpr c19
           have c19b1:((bt a0 x7_1) != 45)=false:=bne_eq_false_iff_eq.mpr c19
           clear c19
           have H':=Aside0.mk H
           clear H
           have p5:0≤(x7_1:Int):=of_decide_eq_true (by first|(with_reducible assumption)|assumption)
           have q5:x7_1<(a0.size:Int):=of_decide_eq_true (by first|(with_reducible assumption)|assumption)
           have hx5:=bt_at a0 x7_1
           replace p5:=eq_true p5
           replace q5:=eq_true q5
           go_wp2
           go_roundg k1
           case measure => have:=HK1.out;omega
           case rel => exact ⟨(wrap64 (x7_1+1)),(by first|rfl|(simp;done)|(simp [*];done)|(simp;exact (fun l_:List UInt8 => by cases l_ <;> rfl:∀ l_:List UInt8,l_.isEmpty=!(l_ != [])) _)),H',⟨by have:=HK1.out;omega⟩,by repeat (first|exact Drawn0.refl _|apply Drawn0.step)⟩
          ·rw [if_neg c19] at H
           have c19b0:((bt a0 x7_1) == 45)=false:=beq_eq_false_iff_ne.mpr c19
           have c19b1:((bt a0 x7_1) != 45)=true:=bne_iff_ne.mpr c19
           by_cases c20:((bt a0 x7_1)=95)
           ·rw [if_pos c20] at H
            have c20b0:((bt a0 x7_1) == 95)=true:=beq_iff_eq.mpr c20
            have c20b1:((bt a0 x7_1) != 95)=false:=bne_eq_false_iff_eq.mpr c20
            clear c20
            have H':=Aside0.mk H
            clear H
            have p5:0≤(x7_1:Int):=of_decide_eq_true (by first|(with_reducible assumption)|assumption)
            have q5:x7_1<(a0.size:Int):=of_decide_eq_true (by first|(with_reducible assumption)|assumption)
            have hx5:=bt_at a0 x7_1
            replace p5:=eq_true p5
            replace q5:=eq_true q5
            go_wp2
            go_roundg k1
            case measure => have:=HK1.out;omega
            case rel => exact ⟨(wrap64 (x7_1+1)),(by first|rfl|(simp;done)|(simp [*];done)|(simp;exact (fun l_:List UInt8 => by cases l_ <;> rfl:∀ l_:List UInt8,l_.isEmpty=!(l_ != [])) _)),H',⟨by have:=HK1.out;omega⟩,by repeat (first|exact Drawn0.refl _|apply Drawn0.step)⟩
           ·rw [if_neg c20] at H
            have c20b0:((bt a0 x7_1) == 95)=false:=beq_eq_false_iff_ne.mpr c20
            have c20b1:((bt a0 x7_1) != 95)=true:=bne_iff_ne.mpr c20
            obtain rfl:=Option.some.inj H
            have p5:0≤(x7_1:Int):=of_decide_eq_true (by first|(with_reducible assumption)|assumption)
            have q5:x7_1<(a0.size:Int):=of_decide_eq_true (by first|(with_reducible assumption)|assumption)
            have hx5:=bt_at a0 x7_1
            replace p5:=eq_true p5
            replace q5:=eq_true q5
            go_wp2
            go_ret
            exact ⟨by first|rfl|(simp;done)|(simp [*];done)|(simp;exact (fun l_:List UInt8 => by cases l_ <;> rfl:∀ l_:List UInt8,l_.isEmpty=!(l_ != [])) _),by repeat (first|exact Drawn0.refl _|apply Drawn0.step)⟩
       ·rw [if_neg c16] at H
        have c16b0:decide (48≤(bt a0 x7_1))=false:=decide_eq_false c16
        clear c16
        by_cases c21:(bt a0 x7_1)=46
        ·rw [if_pos c21] at H
         have c21b0:((bt a0 x7_1) == 46)=true:=beq_iff_eq.mpr c21
         have c21b1:((bt a0 x7_1) != 46)=false:=bne_eq_false_iff_eq.mpr c21
         clear c21
         have H':=Aside0.mk H
         clear H
         have p5:0≤(x7_1:Int):=of_decide_eq_true (by first|(with_reducible assumption)|assumption)
         have q5:x7_1<(a0.size:Int):=of_decide_eq_true (by first|(with_reducible assumption)|assumption)
         have hx5:=bt_at a0 x7_1
         replace p5:=eq_true p5
         replace q5:=eq_true q5
         go_wp2
         go_roundg k1
         case measure => have:=HK1.out;omega
         case rel => exact ⟨(wrap64 (x7_1+1)),(by first|rfl|(simp;done)|(simp [*];done)|(simp;exact (fun l_:List UInt8 => by cases l_ <;> rfl:∀ l_:List UInt8,l_.isEmpty=!(l_ != [])) _)),H',⟨by have:=HK1.out;omega⟩,by repeat (first|exact Drawn0.refl _|apply Drawn0.step)⟩
        ·rw [if_neg c21] at H
         have c21b0:((bt a0 x7_1) == 46)=false:=beq_eq_false_iff_ne.mpr c21
         have c21b1:((bt a0 x7_1) != 46)=true:=bne_iff_ne.mpr c21
         by_cases c22:(bt a0 x7_1)=45
         ·rw [if_pos c22] at H
          have c22b0:((bt a0 x7_1) == 45)=true:=beq_iff_eq.mpr c22
          have c22b1:((bt a0 x7_1) != 45)=false:=bne_eq_false_iff_eq.mpr c22
          clear c22
          have H':=Aside0.mk H
          clear H
          have p5:0≤(x7_1:Int):=of_decide_eq_true (by first|(with_reducible assumption)|assumption)
          have q5:x7_1<(a0.size:Int):=of_decide_eq_true (by first|(with_reducible assumption)|assumption)
          have hx5:=bt_at a0 x7_1
          replace p5:=eq_true p5
          replace q5:=eq_true q5
          go_wp2
          go_roundg k1
          case measure => have:=HK1.out;omega
          case rel => exact ⟨(wrap64 (x7_1+1)),(by first|rfl|(simp;done)|(simp [*];done)|(simp;exact (fun l_:List UInt8 => by cases l_ <;> rfl:∀ l_:List UInt8,l_.isEmpty=!(l_ != [])) _)),H',⟨by have:=HK1.out;omega⟩,by repeat (first|exact Drawn0.refl _|apply Drawn0.step)⟩
         ·rw [if_neg c22] at H
          have c22b0:((bt a0 x7_1) == 45)=false:=beq_eq_false_iff_ne.mpr c22
          have c22b1:((bt a0 x7_1) != 45)=true:=bne_iff_ne.mpr c22
          by_cases c23:((bt a0 x7_1)=95)
          ·rw [if_pos c23] at H
           have c23b0:((bt a0 x7_1) == 95)=true:=beq_iff_eq.mpr c23
           have c23b1:((bt a0 x7_1) != 95)=false:=bne_eq_false_iff_eq.mpr c23
           clear c23
           have H':=Aside0.mk H
           clear H
           have p5:0≤(x7_1:Int):=of_decide_eq_true (by first|(with_reducible assumption)|assumption)
           have q5:x7_1<(a0.size:Int):=of_decide_eq_true (by first|(with_reducible assumption)|assumption)
           have hx5:=bt_at a0 x7_1
           replace p5:=eq_true p5
           replace q5:=eq_true q5
           go_wp2
           go_roundg k1
           case measure => have:=HK1.out;omega
           case rel => exact ⟨(wrap64 (x7_1+1)),(by first|rfl|(simp;done)|(simp [*];done)|(simp;exact (fun l_:List UInt8 => by cases l_ <;> rfl:∀ l_:List UInt8,l_.isEmpty=!(l_ != [])) _)),H',⟨by have:=HK1.out;omega⟩,by repeat (first|exact Drawn0.refl _|apply Drawn0.step)⟩
          ·rw [if_neg c23] at H
           have c23b0:((bt a0 x7_1) == 95)=false:=beq_eq_false_iff_ne.mpr c23
           have c23b1:((bt a0 x7_1) != 95)=true:=bne_iff_ne.mpr c23
           obtain rfl:=Option.some.inj H
           have p5:0≤(x7_1:Int):=of_decide_eq_true (by first|(with_reducible assumption)|assumption)
           have q5:x7_1<(a0.size:Int):=of_decide_eq_true (by first|(with_reducible assumption)|assumption)
           have hx5:=bt_at a0 x7_1
           replace p5:=eq_true p5
           replace q5:=eq_true q5
           go_wp2
           go_ret
           exact ⟨by first|rfl|(simp;done)|(simp [*];done)|(simp;exact (fun l_:List UInt8 => by cases l_ <;> rfl:∀ l_:List UInt8,l_.isEmpty=!(l_ != [])) _),by repeat (first|exact Drawn0.refl _|apply Drawn0.step)⟩
     ·rw [if_neg c4] at H
      exact absurd H (by simp)
    ·rw [if_neg c3] at H
     exact absurd H (by simp)
   ·rw [if_neg c2] at H
    have c2b0:decide (x7_1<(a0.size:Int))=false:=decide_eq_false c2
    clear c2
    obtain rfl:=Option.some.inj H
    go_wp2
    go_ret
    exact ⟨by first|rfl|(simp;done)|(simp [*];done)|(simp;exact (fun l_:List UInt8 => by cases l_ <;> rfl:∀ l_:List UInt8,l_.isEmpty=!(l_ != [])) _),by repeat (first|exact Drawn0.refl _|apply Drawn0.step)⟩
end Go.Proofs.YtjiidlkkkednoaaGreatDoor.R
end
section
namespace Go.Proofs.YtjiidlkkkednoaaGreatDoor.R
open Go.RowKit Go.Proofs.YtjiidlkkkednoaaGreatDoorW.PrintWords Go.Proofs.YtjiidlkkkednoaaGreatDoorW.PrintLast Go.Proofs.YtjiidlkkkednoaaGreatDoorW.PrintMore
attribute [local go_sem] max2_int min2_int max_two min_two max_three min_three max_four min_four
set_option linter.unusedVariables false
set_option linter.unusedSimpArgs false
end Go.Proofs.YtjiidlkkkednoaaGreatDoor.R
end
