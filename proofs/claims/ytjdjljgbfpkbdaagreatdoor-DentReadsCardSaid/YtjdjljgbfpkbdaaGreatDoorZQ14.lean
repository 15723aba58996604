import Derived.Test.YtjdjljgbfpkbdaaGreatDoorZQ0
import Derived.Test.YtjdjljgbfpkbdaaGreatDoorZQ13g
namespace Go.Proofs.YtjdjljgbfpkbdaaGreatDoor.Q
open Go.RowKit Go.Proofs.YtjdjljgbfpkbdaaGreatDoorW.PrintWords Go.Proofs.YtjdjljgbfpkbdaaGreatDoorW.PrintLast Go.Proofs.YtjdjljgbfpkbdaaGreatDoorW.PrintMore
attribute [local go_sem] max2_int min2_int max_two min_two max_three min_three max_four min_four
set_option linter.unusedVariables false
set_option linter.unusedSimpArgs false
mutual
def transhumanceref4_Right.l0:Nat→ByteArray→Int→Option (Bool)
 | 0,_,_ => none
 | k+1,x0,x3 => if x3<(x0.size:Int) then (if 0≤x3 then (if (bt x0 x3)<97 then (if (bt x0 x3)<48 then (if (bt x0 x3)=46 then (transhumanceref4_Right.l0 k x0 (wrap64 (x3+1))) else (if (bt x0 x3)=45 then (transhumanceref4_Right.l0 k x0 (wrap64 (x3+1))) else (if (bt x0 x3)=95 then (transhumanceref4_Right.l0 k x0 (wrap64 (x3+1))) else (if (bt x0 x3)=47 then (transhumanceref4_Right.l0 k x0 (wrap64 (x3+1))) else (some false))))) else (if (bt x0 x3) > 57 then (if (bt x0 x3)=46 then (transhumanceref4_Right.l0 k x0 (wrap64 (x3+1))) else (if (bt x0 x3)=45 then (transhumanceref4_Right.l0 k x0 (wrap64 (x3+1))) else (if (bt x0 x3)=95 then (transhumanceref4_Right.l0 k x0 (wrap64 (x3+1))) else (if (bt x0 x3)=47 then (transhumanceref4_Right.l0 k x0 (wrap64 (x3+1))) else (some false))))) else (transhumanceref4_Right.l0 k x0 (wrap64 (x3+1))))) else (if (bt x0 x3) > 122 then (if (bt x0 x3)<48 then (if (bt x0 x3)=46 then (transhumanceref4_Right.l0 k x0 (wrap64 (x3+1))) else (if (bt x0 x3)=45 then (transhumanceref4_Right.l0 k x0 (wrap64 (x3+1))) else (if (bt x0 x3)=95 then (transhumanceref4_Right.l0 k x0 (wrap64 (x3+1))) else (if (bt x0 x3)=47 then (transhumanceref4_Right.l0 k x0 (wrap64 (x3+1))) else (some false))))) else (if (bt x0 x3) > 57 then (if (bt x0 x3)=46 then (transhumanceref4_Right.l0 k x0 (wrap64 (x3+1))) else (if (bt x0 x3)=45 then (transhumanceref4_Right.l0 k x0 (wrap64 (x3+1))) else (if (bt x0 x3)=95 then (transhumanceref4_Right.l0 k x0 (wrap64 (x3+1))) else (if (bt x0 x3)=47 then (transhumanceref4_Right.l0 k x0 (wrap64 (x3+1))) else (some false))))) else (transhumanceref4_Right.l0 k x0 (wrap64 (x3+1))))) else (transhumanceref4_Right.l0 k x0 (wrap64 (x3+1))))) else (none)) else ((transhumanceref4_words.f k x0).bind fun t148 => (transhumanceref4_Right.l1 k x0 t148 0))
def transhumanceref4_Right.l1:Nat→ByteArray→List ByteArray→Int→Option (Bool)
 | 0,_,_,_ => none
 | k+1,x0,x5,x6 => if x6<(x5.length:Int) then (if 0≤x6 then (if (rdOf ByteArray.empty x5 x6).toList=([]:List UInt8) then (some false) else (if (rdOf ByteArray.empty x5 x6).toList=([46]:List UInt8) then (some false) else (if (rdOf ByteArray.empty x5 x6).toList=([46,46]:List UInt8) then (some false) else (transhumanceref4_Right.l1 k x0 x5 (wrap64 (x6+1)))))) else (none)) else (some (decide ((x0.size:Int)≤40)))
end
def transhumanceref4_Right.f (k:Nat) (a0:ByteArray):Option (Bool):=transhumanceref4_Right.l0 k a0 0
set_option maxHeartbeats 8000000 in
set_option maxRecDepth 100000 in
theorem transhumanceref4_Right.calls (k:Nat) (a0:ByteArray) (r:Bool) (w:World) (h:transhumanceref4_Right.f k a0=some r) :
  Calls Tryz.prog 68 #[.string a0] w fun e w' => e=.returned (.bool r)∧Below w.heap.size w w':=by
 have HB:=Aside0.mk (Below.refl w.heap.size w)
 have H:(transhumanceref4_Right.l0 k a0 0)=some r:=h
 clear h
 have H':=Aside0.mk H
 clear H
 go_enter Tryz.func68,Tryz.ntmps68
 go_wp2
 go_loopg [3] k (fun kq v3 w' => ∃ (x3_1:Int),v3=.int .i64 x3_1∧Aside0 (transhumanceref4_Right.l0 kq a0 x3_1=some r)∧Aside0 (kq≤k)∧Aside0 (Below w.heap.size w w'))
 case atStart => exact ⟨(0),(by first|rfl|(simp;done)|(simp [*];done)|(simp;exact (fun l_:List UInt8 => by cases l_ <;> rfl:∀ l_:List UInt8,l_.isEmpty=!(l_ != [])) _)),H',⟨Nat.le_refl _⟩,⟨by repeat (first|(with_reducible first|exact HB.out|apply below_alloc|apply pw_below_drewN|apply below_drew1)|exact HB.out)⟩⟩
 case round =>
  clear H'
  obtain ⟨x3_1,rfl,HA,HK1,HB⟩:=hrel
  cases gk with
  | zero => exact absurd HA.out (by simp [transhumanceref4_Right.l0])
  | succ k1 =>
   have H:=HA.out
   clear HA
   simp only [transhumanceref4_Right.l0] at H
   by_cases c2:x3_1<(a0.size:Int)
   ·rw [if_pos c2] at H
    have c2b0:decide (x3_1<(a0.size:Int))=true:=decide_eq_true c2
    clear c2
    by_cases c3:0≤x3_1
    ·rw [if_pos c3] at H
     have c3b0:decide (0≤x3_1)=true:=decide_eq_true c3
     clear c3
     by_cases c5:(bt a0 x3_1)<97
     ·rw [if_pos c5] at H
      have c5b0:decide ((bt a0 x3_1)<97)=true:=decide_eq_true c5
      clear c5
      by_cases c6:(bt a0 x3_1)<48
      ·rw [if_pos c6] at H
       have c6b0:decide ((bt a0 x3_1)<48)=true:=decide_eq_true c6
       clear c6
       by_cases c7:(bt a0 x3_1)=46
       ·rw [if_pos c7] at H
        have c7b0:((bt a0 x3_1) == 46)=true:=beq_iff_eq.mpr c7
        have c7b1:((bt a0 x3_1) != 46)=false:=bne_eq_false_iff_eq.mpr c7
        clear c7
        have H':=Aside0.mk H
        clear H
        have p4:0≤(x3_1:Int):=of_decide_eq_true (by first|(with_reducible assumption)|assumption)
        have q4:x3_1<(a0.size:Int):=of_decide_eq_true (by first|(with_reducible assumption)|assumption)
        have hx4:=bt_at a0 x3_1
        replace p4:=eq_true p4
        replace q4:=eq_true q4
        go_wp2
        go_roundg k1
        case measure => have:=HK1.out;omega
        case rel => exact ⟨(wrap64 (x3_1+1)),(by first|rfl|(simp;done)|(simp [*];done)|(simp;exact (fun l_:List UInt8 => by cases l_ <;> rfl:∀ l_:List UInt8,l_.isEmpty=!(l_ != [])) _)),H',⟨by have:=HK1.out;omega⟩,⟨by repeat (first|(with_reducible first|exact HB.out|apply below_alloc|apply pw_below_drewN|apply below_drew1)|exact HB.out)⟩⟩
       ·rw [if_neg c7] at H
        have c7b0:((bt a0 x3_1) == 46)=false:=beq_eq_false_iff_ne.mpr c7
        have c7b1:((bt a0 x3_1) != 46)=true:=bne_iff_ne.mpr c7
        by_cases c8:(bt a0 x3_1)=45
        ·rw [if_pos c8] at H
         have c8b0:((bt a0 x3_1) == 45)=true:=beq_iff_eq.mpr c8
         have c8b1:((bt a0 x3_1) != 45)=false:=bne_eq_false_iff_eq.mpr c8
         clear c8
         have H':=Aside0.mk H
         clear H
         have p4:0≤(x3_1:Int):=of_decide_eq_true (by first|(with_reducible assumption)|assumption)
         have q4:x3_1<(a0.size:Int):=of_decide_eq_true (by first|(with_reducible assumption)|assumption)
         have hx4:=bt_at a0 x3_1
         replace p4:=eq_true p4
         replace q4:=eq_true q4
         go_wp2
         go_roundg k1
         case measure => have:=HK1.out;omega
         case rel => exact ⟨(wrap64 (x3_1+1)),(by first|rfl|(simp;done)|(simp [*];done)|(simp;exact (fun l_:List UInt8 => by cases l_ <;> rfl:∀ l_:List UInt8,l_.isEmpty=!(l_ != [])) _)),H',⟨by have:=HK1.out;omega⟩,⟨by repeat (first|(with_reducible first|exact HB.out|apply below_alloc|apply pw_below_drewN|apply below_drew1)|exact HB.out)⟩⟩
        ·rw [if_neg c8] at H
         have c8b0:((bt a0 x3_1) == 45)=false:=beq_eq_false_iff_ne.mpr c8
         have c8b1:((bt a0 x3_1) != 45)=true:=bne_iff_ne.mpr c8
         by_cases c9:(bt a0 x3_1)=95
         ·rw [if_pos c9] at H
          have c9b0:((bt a0 x3_1) == 95)=true:=beq_iff_eq.mpr c9
          have c9b1:((bt a0 x3_1) != 95)=false:=bne_eq_false_iff_eq.mpr c9
          clear c9
          have H':=Aside0.mk H
          clear H
          have p4:0≤(x3_1:Int):=of_decide_eq_true (by first|(with_reducible assumption)|assumption)
          have q4:x3_1<(a0.size:Int):=of_decide_eq_true (by first|(with_reducible assumption)|assumption)
          have hx4:=bt_at a0 x3_1
          replace p4:=eq_true p4
          replace q4:=eq_true q4
          go_wp2
          go_roundg k1
          case measure => have:=HK1.out;omega
          case rel => exact ⟨(wrap64 (x3_1+1)),(by first|rfl|(simp;done)|(simp [*];done)|(simp;exact (fun l_:List UInt8 => by cases l_ <;> rfl:∀ l_:List UInt8,l_.isEmpty=!(l_ != [])) _)),H',⟨by have:=HK1.out;omega⟩,⟨by repeat (first|(with_reducible first|exact HB.out|apply below_alloc|apply pw_below_drewN|apply below_drew1)|exact HB.out)⟩⟩
         ·rw [if_neg c9] at H
          have c9b0:((bt a0 x3_1) == 95)=false:=beq_eq_false_iff_ne.mpr c9
          have c9b1:((bt a0 x3_1) != 95)=true:=bne_iff_ne.mpr c9
          by_cases c10:(bt a0 x3_1)=47
          ·rw [if_pos c10] at H
           have c10b0:((bt a0 x3_1) == 47)=true:=beq_iff_eq.mpr c10
           have c10b1:((bt a0 x3_1) != 47)=false:=bne_eq_false_iff_eq.mpr c10
           clear c10
           have H':=Aside0.mk H
           clear H
           have p4:0≤(x3_1:Int):=of_decide_eq_true (by first|(with_reducible assumption)|assumption)
           have q4:x3_1<(a0.size:Int):=of_decide_eq_true (by first|(with_reducible assumption)|assumption)
           have hx4:=bt_at a0 x3_1
           replace p4:=eq_true p4
           replace q4:=eq_true q4
           go_wp2
           go_roundg k1
           case measure => have:=HK1.out;omega
           case rel => exact ⟨(wrap64 (x3_1+1)),(by first|rfl|(simp;done)|(simp [*];done)|(simp;exact (fun l_:List UInt8 => by cases l_ <;> rfl:∀ l_:List UInt8,l_.isEmpty=!(l_ != [])) _)),H',⟨by have:=HK1.out;omega⟩,⟨by repeat (first|(with_reducible first|exact HB.out|apply below_alloc|apply pw_below_drewN|apply below_drew1)|exact HB.out)⟩⟩
          ·rw [if_neg c10] at H
           have c10b0:((bt a0 x3_1) == 47)=false:=beq_eq_false_iff_ne.mpr c10
           have c10b1:((bt a0 x3_1) != 47)=true:=bne_iff_ne.mpr c10
           obtain rfl:=Option.some.inj H
           have p4:0≤(x3_1:Int):=of_decide_eq_true (by first|(with_reducible assumption)|assumption)
           have q4:x3_1<(a0.size:Int):=of_decide_eq_true (by first|(with_reducible assumption)|assumption)
           have hx4:=bt_at a0 x3_1
           replace p4:=eq_true p4
           replace q4:=eq_true q4
           go_wp2
           go_ret
           exact ⟨by first|rfl|(simp [errW_none,errW_some] <;> rfl)|(simp [*,errW_none,errW_some] <;> rfl),by repeat (first|(with_reducible first|exact HB.out|apply below_alloc|apply pw_below_drewN|apply below_drew1)|exact HB.out)⟩
      ·rw [if_neg c6] at H
       have c6b0:decide ((bt a0 x3_1)<48)=false:=decide_eq_false c6
       clear c6
       by_cases c11:(bt a0 x3_1) > 57
       ·rw [if_pos c11] at H
        have c11b0:decide (57<(bt a0 x3_1))=true:=decide_eq_true c11
        clear c11
        by_cases c12:(bt a0 x3_1)=46
        ·rw [if_pos c12] at H
         have c12b0:((bt a0 x3_1) == 46)=true:=beq_iff_eq.mpr c12
         have c12b1:((bt a0 x3_1) != 46)=false:=bne_eq_false_iff_eq.mpr c12
         clear c12
         have H':=Aside0.mk H
         clear H
         have p4:0≤(x3_1:Int):=of_decide_eq_true (by first|(with_reducible assumption)|assumption)
         have q4:x3_1<(a0.size:Int):=of_decide_eq_true (by first|(with_reducible assumption)|assumption)
         have hx4:=bt_at a0 x3_1
         replace p4:=eq_true p4
         replace q4:=eq_true q4
         go_wp2
         go_roundg k1
         case measure => have:=HK1.out;omega
         case rel => exact ⟨(wrap64 (x3_1+1)),(by first|rfl|(simp;done)|(simp [*];done)|(simp;exact (fun l_:List UInt8 => by cases l_ <;> rfl:∀ l_:List UInt8,l_.isEmpty=!(l_ != [])) _)),H',⟨by have:=HK1.out;omega⟩,⟨by repeat (first|(with_reducible first|exact HB.out|apply below_alloc|apply pw_below_drewN|apply below_drew1)|exact HB.out)⟩⟩
        ·rw [if_neg c12] at H
         have c12b0:((bt a0 x3_1) == 46)=false:=beq_eq_false_iff_ne.mpr c12
         have c12b1:((bt a0 x3_1) != 46)=true:=bne_iff_ne.mpr c12
         by_cases c13:(bt a0 x3_1)=45
         ·rw [if_pos c13] at H
          have c13b0:((bt a0 x3_1) == 45)=true:=beq_iff_eq.mpr c13
          have c13b1:((bt a0 x3_1) != 45)=false:=bne_eq_false_iff_eq.mpr c13
          clear c13
          have H':=Aside0.mk H
          clear H
          have p4:0≤(x3_1:Int):=of_decide_eq_true (by first|(with_reducible assumption)|assumption)
          have q4:x3_1<(a0.size:Int):=of_decide_eq_true (by first|(with_reducible assumption)|assumption)
          have hx4:=bt_at a0 x3_1
          replace p4:=eq_true p4
          replace q4:=eq_true q4
          go_wp2
          go_roundg k1
          case measure => have:=HK1.out;omega
          case rel => exact ⟨(wrap64 (x3_1+1)),(by first|rfl|(simp;done)|(simp [*];done)|(simp;exact (fun l_:List UInt8 => by cases l_ <;> rfl:∀ l_:List UInt8,l_.isEmpty=!(l_ != [])) _)),H',⟨by have:=HK1.out;omega⟩,⟨by repeat (first|(with_reducible first|exact HB.out|apply below_alloc|apply pw_below_drewN|apply below_drew1)|exact HB.out)⟩⟩
         ·rw [if_neg c13] at H
          have c13b0:((bt a0 x3_1) == 45)=false:=beq_eq_false_iff_ne.mpr c13
          have c13b1:((bt a0 x3_1) != 45)=true:=bne_iff_ne.mpr c13
          by_cases c14:(bt a0 x3_1)=95
          ·rw [if_pos c14] at H
           have c14b0:((bt a0 x3_1) == 95)=true:=beq_iff_eq.mpr c14
           have c14b1:((bt a0 x3_1) != 95)=false:=bne_eq_false_iff_eq.mpr c14
           clear c14
           have H':=Aside0.mk H
           clear H
           have p4:0≤(x3_1:Int):=of_decide_eq_true (by first|(with_reducible assumption)|assumption)
           have q4:x3_1<(a0.size:Int):=of_decide_eq_true (by first|(with_reducible assumption)|assumption)
           have hx4:=bt_at a0 x3_1
           replace p4:=eq_true p4
           replace q4:=eq_true q4
           go_wp2
           go_roundg k1
           case measure => have:=HK1.out;omega
           case rel => exact ⟨(wrap64 (x3_1+1)),(by first|rfl|(simp;done)|(simp [*];done)|(simp;exact (fun l_:List UInt8 => by cases l_ <;> rfl:∀ l_:List UInt8,l_.isEmpty=!(l_ != [])) _)),H',⟨by have:=HK1.out;omega⟩,⟨by repeat (first|(with_reducible first|exact HB.out|apply below_alloc|apply pw_below_drewN|apply below_drew1)|exact HB.out)⟩⟩
          ·rw [if_neg c14] at H
           have c14b0:((bt a0 x3_1) == 95)=false:=beq_eq_false_iff_ne.mpr c14
           have c14b1:((bt a0 x3_1) != 95)=true:=bne_iff_ne.mpr c14
           by_cases c15:(bt a0 x3_1)=47
           ·rw [if_pos c15] at H
            have c15b0:((bt a0 x3_1) == 47)=true:=beq_iff_eq.mpr c15
            have c15b1:((bt a0 x3_1) != 47)=false:=bne_eq_false_iff_eq.mpr c15
            clear c15
            have H':=Aside0.mk H
            clear H
            have p4:0≤(x3_1:Int):=of_decide_eq_true (by first|(with_reducible assumption)|assumption)
            have q4:x3_1<(a0.size:Int):=of_decide_eq_true (by first|(with_reducible assumption)|assumption)
            have hx4:=bt_at a0 x3_1
            replace p4:=eq_true p4
            replace q4:=eq_true q4
            go_wp2
            go_roundg k1
            case measure => have:=HK1.out;omega
            case rel => exact ⟨(wrap64 (x3_1+1)),(by first|rfl|(simp;done)|(simp [*];done)|(simp;exact (fun l_:List UInt8 => by cases l_ <;> rfl:∀ l_:List UInt8,l_.isEmpty=!(l_ != [])) _)),H',⟨by have:=HK1.out;omega⟩,⟨by repeat (first|(with_reducible first|exact HB.out|apply below_alloc|apply pw_below_drewN|apply below_drew1)|exact HB.out)⟩⟩
           ·rw [if_neg c15] at H
            have c15b0:((bt a0 x3_1) == 47)=false:=beq_eq_false_iff_ne.mpr c15
            have c15b1:((bt a0 x3_1) != 47)=true:=bne_iff_ne.mpr c15
            obtain rfl:=Option.some.inj H
            have p4:0≤(x3_1:Int):=of_decide_eq_true (by first|(with_reducible assumption)|assumption)
            have q4:x3_1<(a0.size:Int):=of_decide_eq_true (by first|(with_reducible assumption)|assumption)
            have hx4:=bt_at a0 x3_1
            replace p4:=eq_true p4
            replace q4:=eq_true q4
            go_wp2
            go_ret
            exact ⟨by first|rfl|(simp [errW_none,errW_some] <;> rfl)|(simp [*,errW_none,errW_some] <;> rfl),by repeat (first|(with_reducible first|exact HB.out|apply below_alloc|apply pw_below_drewN|apply below_drew1)|exact HB.out)⟩
       ·rw [if_neg c11] at H
        have c11b0:decide (57<(bt a0 x3_1))=false:=decide_eq_false c11
        clear c11
        have H':=Aside0.mk H
        clear H
        have p4:0≤(x3_1:Int):=of_decide_eq_true (by first|(with_reducible assumption)|assumption)
        have q4:x3_1<(a0.size:Int):=of_decide_eq_true (by first|(with_reducible assumption)|assumption)
        have hx4:=bt_at a0 x3_1
        replace p4:=eq_true p4
        replace q4:=eq_true q4
        go_wp2
        go_roundg k1
        case measure => have:=HK1.out;omega
        case rel => exact ⟨(wrap64 (x3_1+1)),(by first|rfl|(simp;done)|(simp [*];done)|(simp;exact (fun l_:List UInt8 => by cases l_ <;> rfl:∀ l_:List UInt8,l_.isEmpty=!(l_ != [])) _)),H',⟨by have:=HK1.out;omega⟩,⟨by repeat (first|(with_reducible first|exact HB.out|apply below_alloc|apply pw_below_drewN|apply below_drew1)|exact HB.out)⟩⟩
     ·rw [if_neg c5] at H
      have c5b0:decide ((bt a0 x3_1)<97)=false:=decide_eq_false c5
      clear c5
      by_cases c16:(bt a0 x3_1) > 122
      ·rw [if_pos c16] at H
       have c16b0:decide (122<(bt a0 x3_1))=true:=decide_eq_true c16
       clear c16
       by_cases c17:(bt a0 x3_1)<48
       ·rw [if_pos c17] at H
        have c17b0:decide ((bt a0 x3_1)<48)=true:=decide_eq_true c17
        clear c17
        by_cases c18:(bt a0 x3_1)=46
        ·rw [if_pos c18] at H
         have c18b0:((bt a0 x3_1) == 46)=true:=beq_iff_eq.mpr c18
         have c18b1:((bt a0 x3_1) != 46)=false:=bne_eq_false_iff_eq.mpr c18
         clear c18
         have H':=Aside0.mk H
         clear H
         have p4:0≤(x3_1:Int):=of_decide_eq_true (by first|(with_reducible assumption)|assumption)
         have q4:x3_1<(a0.size:Int):=of_decide_eq_true (by first|(with_reducible assumption)|assumption)
         have hx4:=bt_at a0 x3_1
         replace p4:=eq_true p4
         replace q4:=eq_true q4
         go_wp2
         go_roundg k1
         case measure => have:=HK1.out;omega
         case rel => exact ⟨(wrap64 (x3_1+1)),(by first|rfl|(simp;done)|(simp [*];done)|(simp;exact (fun l_:List UInt8 => by cases l_ <;> rfl:∀ l_:List UInt8,l_.isEmpty=!(l_ != [])) _)),H',⟨by have:=HK1.out;omega⟩,⟨by repeat (first|(with_reducible first|exact HB.out|apply below_alloc|apply pw_below_drewN|apply below_drew1)|exact HB.out)⟩⟩
        ·rw [if_neg c18] at H
         have c18b0:((bt a0 x3_1) == 46)=false:=beq_eq_false_iff_ne.mpr c18
         have c18b1:((bt a0 x3_1) != 46)=true:=bne_iff_ne.mpr c18
         by_cases c19:(bt a0 x3_1)=45
         ·rw [if_pos c19] at H
          have c19b0:((bt a0 x3_1) == 45)=true:=beq_iff_eq.mpr c19
          have c19b1:((bt a0 x3_1) != 45)=false:=bne_eq_false_iff_eq.mpr c19
          clear c19
          have H':=Aside0.mk H
          clear H
          have p4:0≤(x3_1:Int):=of_decide_eq_true (by first|(with_reducible assumption)|assumption)
          have q4:x3_1<(a0.size:Int):=of_decide_eq_true (by first|(with_reducible assumption)|assumption)
          have hx4:=bt_at a0 x3_1
          replace p4:=eq_true p4
          replace q4:=eq_true q4
          go_wp2
          go_roundg k1
          case measure => have:=HK1.out;omega
          case rel => exact ⟨(wrap64 (x3_1+1)),(by first|rfl|(simp;done)|(simp [*];done)|(simp;exact (fun l_:List UInt8 => by cases l_ <;> rfl:∀ l_:List UInt8,l_.isEmpty=!(l_ != [])) _)),H',⟨by have:=HK1.out;omega⟩,⟨by repeat (first|(with_reducible first|exact HB.out|apply below_alloc|apply pw_below_drewN|apply below_drew1)|exact HB.out)⟩⟩
         ·rw [if_neg c19] at H
          have c19b0:((bt a0 x3_1) == 45)=false:=beq_eq_false_iff_ne.mpr c19
          have c19b1:((bt a0 x3_1) != 45)=true:=bne_iff_ne.mpr c19
          by_cases c20:(bt a0 x3_1)=95
          ·rw [if_pos c20] at H
           have c20b0:((bt a0 x3_1) == 95)=true:=beq_iff_eq.mpr c20
           have c20b1:((bt a0 x3_1) != 95)=false:=bne_eq_false_iff_eq.mpr c20
           clear c20
           have H':=Aside0.mk H
           clear H
           have p4:0≤(x3_1:Int):=of_decide_eq_true (by first|(with_reducible assumption)|assumption)
           have q4:x3_1<(a0.size:Int):=of_decide_eq_true (by first|(with_reducible assumption)|assumption)
           have hx4:=bt_at a0 x3_1
           replace p4:=eq_true p4
           replace q4:=eq_true q4
           go_wp2
           go_roundg k1
           case measure => have:=HK1.out;omega
           case rel => exact ⟨(wrap64 (x3_1+1)),(by first|rfl|(simp;done)|(simp [*];done)|(simp;exact (fun l_:List UInt8 => by cases l_ <;> rfl:∀ l_:List UInt8,l_.isEmpty=!(l_ != [])) _)),H',⟨by have:=HK1.out;omega⟩,⟨by repeat (first|(with_reducible first|exact HB.out|apply below_alloc|apply pw_below_drewN|apply below_drew1)|exact HB.out)⟩⟩
          ·rw [if_neg c20] at H
           have c20b0:((bt a0 x3_1) == 95)=false:=beq_eq_false_iff_ne.mpr c20
           have c20b1:((bt a0 x3_1) != 95)=true:=bne_iff_ne.mpr c20
           by_cases c21:(bt a0 x3_1)=47
           ·rw [if_pos c21] at H
            have c21b0:((bt a0 x3_1) == 47)=true:=beq_iff_eq.mpr c21
            have c21b1:((bt a0 x3_1) != 47)=false:=bne_eq_false_iff_eq.mpr c21
            clear c21
            have H':=Aside0.mk H
            clear H
            have p4:0≤(x3_1:Int):=of_decide_eq_true (by first|(with_reducible assumption)|assumption)
            have q4:x3_1<(a0.size:Int):=of_decide_eq_true (by first|(with_reducible assumption)|assumption)
            have hx4:=bt_at a0 x3_1
            replace p4:=eq_true p4
            replace q4:=eq_true q4
            go_wp2
            go_roundg k1
            case measure => have:=HK1.out;omega
            case rel => exact ⟨(wrap64 (x3_1+1)),(by first|rfl|(simp;done)|(simp [*];done)|(simp;exact (fun l_:List UInt8 => by cases l_ <;> rfl:∀ l_:List UInt8,l_.isEmpty=!(l_ != [])) _)),H',⟨by have:=HK1.out;omega⟩,⟨by repeat (first|(with_reducible first|exact HB.out|apply below_alloc|apply pw_below_drewN|apply below_drew1)|exact HB.out)⟩⟩
           ·rw [if_neg c21] at H
            have c21b0:((bt a0 x3_1) == 47)=false:=beq_eq_false_iff_ne.mpr c21
            have c21b1:((bt a0 x3_1) != 47)=true:=bne_iff_ne.mpr c21
            obtain rfl:=Option.some.inj H
            have p4:0≤(x3_1:Int):=of_decide_eq_true (by first|(with_reducible assumption)|assumption)
            have q4:x3_1<(a0.size:Int):=of_decide_eq_true (by first|(with_reducible assumption)|assumption)
            have hx4:=bt_at a0 x3_1
            replace p4:=eq_true p4
            replace q4:=eq_true q4
            go_wp2
            go_ret
            exact ⟨by first|rfl|(simp [errW_none,errW_some] <;> rfl)|(simp [*,errW_none,errW_some] <;> rfl),by repeat (first|(with_reducible first|exact HB.out|apply below_alloc|apply pw_below_drewN|apply below_drew1)|exact HB.out)⟩
       ·rw [if_neg c17] at H
        have c17b0:decide ((bt a0 x3_1)<48)=false:=decide_eq_false c17
        clear c17
        by_cases c22:(bt a0 x3_1) > 57
        ·rw [if_pos c22] at H
         have c22b0:decide (57<(bt a0 x3_1))=true:=decide_eq_true c22
         clear c22
         by_cases c23:(bt a0 x3_1)=46
         ·rw [if_pos c23] at H
          have c23b0:((bt a0 x3_1) == 46)=true:=beq_iff_eq.mpr c23
          have c23b1:((bt a0 x3_1) != 46)=false:=bne_eq_false_iff_eq.mpr c23
          clear c23
          have H':=Aside0.mk H
          clear H
          have p4:0≤(x3_1:Int):=of_decide_eq_true (by first|(with_reducible assumption)|assumption)
          have q4:x3_1<(a0.size:Int):=of_decide_eq_true (by first|(with_reducible assumption)|assumption)
          have hx4:=bt_at a0 x3_1
          replace p4:=eq_true p4
          replace q4:=eq_true q4
          go_wp2
          go_roundg k1
          case measure => have:=HK1.out;omega
          case rel => exact ⟨(wrap64 (x3_1+1)),(by first|rfl|(simp;done)|(simp [*];done)|(simp;exact (fun l_:List UInt8 => by cases l_ <;> rfl:∀ l_:List UInt8,l_.isEmpty=!(l_ != [])) _)),H',⟨by have:=HK1.out;omega⟩,⟨by repeat (first|(with_reducible first|exact HB.out|apply below_alloc|apply pw_below_drewN|apply below_drew1)|exact HB.out)⟩⟩
         ·rw [if_neg c23] at H
          have c23b0:((bt a0 x3_1) == 46)=false:=beq_eq_false_iff_ne.mpr c23
          have c23b1:((bt a0 x3_1) != 46)=true:=bne_iff_ne.mpr c23
          by_cases c24:(bt a0 x3_1)=45
          ·rw [if_pos c24] at H
           have c24b0:((bt a0 x3_1) == 45)=true:=beq_iff_eq.mpr c24
           have c24b1:((bt a0 x3_1) != 45)=false:=bne_eq_false_iff_eq.mpr c24
           clear c24
           have H':=Aside0.mk H
           clear H
           have p4:0≤(x3_1:Int):=of_decide_eq_true (by first|(with_reducible assumption)|assumption)
           have q4:x3_1<(a0.size:Int):=of_decide_eq_true (by first|(with_reducible assumption)|assumption)
           have hx4:=bt_at a0 x3_1
           replace p4:=eq_true p4
           replace q4:=eq_true q4
           go_wp2
           go_roundg k1
           case measure => have:=HK1.out;omega
           case rel => exact ⟨(wrap64 (x3_1+1)),(by first|rfl|(simp;done)|(simp [*];done)|(simp;exact (fun l_:List UInt8 => by cases l_ <;> rfl:∀ l_:List UInt8,l_.isEmpty=!(l_ != [])) _)),H',⟨by have:=HK1.out;omega⟩,⟨by repeat (first|(with_reducible first|exact HB.out|apply below_alloc|apply pw_below_drewN|apply below_drew1)|exact HB.out)⟩⟩
          ·rw [if_neg c24] at H
           have c24b0:((bt a0 x3_1) == 45)=false:=beq_eq_false_iff_ne.mpr c24
           have c24b1:((bt a0 x3_1) != 45)=true:=bne_iff_ne.mpr c24
           by_cases c25:(bt a0 x3_1)=95
           ·rw [if_pos c25] at H
            have c25b0:((bt a0 x3_1) == 95)=true:=beq_iff_eq.mpr c25
            have c25b1:((bt a0 x3_1) != 95)=false:=bne_eq_false_iff_eq.mpr c25
            clear c25
            have H':=Aside0.mk H
            clear H
            have p4:0≤(x3_1:Int):=of_decide_eq_true (by first|(with_reducible assumption)|assumption)
            have q4:x3_1<(a0.size:Int):=of_decide_eq_true (by first|(with_reducible assumption)|assumption)
            have hx4:=bt_at a0 x3_1
            replace p4:=eq_true p4
            replace q4:=eq_true q4
            go_wp2
            go_roundg k1
            case measure => have:=HK1.out;omega
            case rel => exact ⟨(wrap64 (x3_1+1)),(by first|rfl|(simp;done)|(simp [*];done)|(simp;exact (fun l_:List UInt8 => by cases l_ <;> rfl:∀ l_:List UInt8,l_.isEmpty=!(l_ != [])) _)),H',⟨by have:=HK1.out;omega⟩,⟨by repeat (first|(with_reducible first|exact HB.out|apply below_alloc|apply pw_below_drewN|apply below_drew1)|exact HB.out)⟩⟩
           ·rw [if_neg c25] at H
            have c25b0:((bt a0 x3_1) == 95)=false:=beq_eq_false_iff_ne.mpr c25
            have c25b1:((bt a0 x3_1) != 95)=true:=bne_iff_ne.mpr c25
            by_cases c26:(bt a0 x3_1)=47
            ·rw [if_pos c26] at H
             have c26b0:((bt a0 x3_1) == 47)=true:=beq_iff_eq.mpr c26
             have c26b1:((bt a0 x3_1) != 47)=false:=bne_eq_false_iff_eq.mpr c26
             clear c26
             have H':=Aside0.mk H
             clear H
             have p4:0≤(x3_1:Int):=of_decide_eq_true (by first|(with_reducible assumption)|assumption)
             have q4:x3_1<(a0.size:Int):=of_decide_eq_true (by first|(with_reducible assumption)|assumption)
             have hx4:=bt_at a0 x3_1
             replace p4:=eq_true p4
             replace q4:=eq_true q4
             go_wp2
             go_roundg k1
             case measure => have:=HK1.out;omega
             case rel => exact ⟨(wrap64 (x3_1+1)),(by first|rfl|(simp;done)|(simp [*];done)|(simp;exact (fun l_:List UInt8 => by cases l_ <;> rfl:∀ l_:List UInt8,l_.isEmpty=!(l_ != [])) _)),H',⟨by have:=HK1.out;omega⟩,⟨by repeat (first|(with_reducible first|exact HB.out|apply below_alloc|apply pw_below_drewN|apply below_drew1)|exact HB.out)⟩⟩
            ·rw [if_neg c26] at H
             have c26b0:((bt a0 x3_1) == 47)=false:=beq_eq_false_iff_ne.mpr c26
             have c26b1:((bt a0 x3_1) != 47)=true:=bne_iff_ne.mpr c26
             obtain rfl:=Option.some.inj H
             have p4:0≤(x3_1:Int):=of_decide_eq_true (by first|(with_reducible assumption)|assumption)
             have q4:x3_1<(a0.size:Int):=of_decide_eq_true (by first|(with_reducible assumption)|assumption)
             have hx4:=bt_at a0 x3_1
             replace p4:=eq_true p4
             replace q4:=eq_true q4
             go_wp2
             go_ret
             exact ⟨by first|rfl|(simp [errW_none,errW_some] <;> rfl)|(simp [*,errW_none,errW_some] <;> rfl),by repeat (first|(with_reducible first|exact HB.out|apply below_alloc|apply pw_below_drewN|apply below_drew1)|exact HB.out)⟩
        ·rw [if_neg c22] at H
         have c22b0:decide (57<(bt a0 x3_1))=false:=decide_eq_false c22
         clear c22
         have H':=Aside0.mk H
         clear H
         have p4:0≤(x3_1:Int):=of_decide_eq_true (by first|(with_reducible assumption)|assumption)
         have q4:x3_1<(a0.size:Int):=of_decide_eq_true (by first|(with_reducible assumption)|assumption)
         have hx4:=bt_at a0 x3_1
         replace p4:=eq_true p4
         replace q4:=eq_true q4
         go_wp2
         go_roundg k1
         case measure => have:=HK1.out;omega
         case rel => exact ⟨(wrap64 (x3_1+1)),(by first|rfl|(simp;done)|(simp [*];done)|(simp;exact (fun l_:List UInt8 => by cases l_ <;> rfl:∀ l_:List UInt8,l_.isEmpty=!(l_ != [])) _)),H',⟨by have:=HK1.out;omega⟩,⟨by repeat (first|(with_reducible first|exact HB.out|apply below_alloc|apply pw_below_drewN|apply below_drew1)|exact HB.out)⟩⟩
      ·rw [if_neg c16] at H
       have c16b0:decide (122<(bt a0 x3_1))=false:=decide_eq_false c16
       clear c16
       have H':=Aside0.mk H
       clear H
       have p4:0≤(x3_1:Int):=of_decide_eq_true (by first|(with_reducible assumption)|assumption)
       have q4:x3_1<(a0.size:Int):=of_decide_eq_true (by first|(with_reducible assumption)|assumption)
       have hx4:=bt_at a0 x3_1
       replace p4:=eq_true p4
       replace q4:=eq_true q4
       go_wp2
       go_roundg k1
       case measure => have:=HK1.out;omega
       case rel => exact ⟨(wrap64 (x3_1+1)),(by first|rfl|(simp;done)|(simp [*];done)|(simp;exact (fun l_:List UInt8 => by cases l_ <;> rfl:∀ l_:List UInt8,l_.isEmpty=!(l_ != [])) _)),H',⟨by have:=HK1.out;omega⟩,⟨by repeat (first|(with_reducible first|exact HB.out|apply below_alloc|apply pw_below_drewN|apply below_drew1)|exact HB.out)⟩⟩
    ·rw [if_neg c3] at H
     exact absurd H (by simp)
   ·rw [if_neg c2] at H
    have c2b0:decide (x3_1<(a0.size:Int))=false:=decide_eq_false c2
    clear c2
    replace H:=Option.bind_eq_some_iff.mp H
    obtain ⟨t148,A270,H⟩:=H
    replace H:(transhumanceref4_Right.l1 k1 a0 t148 0)=some r:=H
    have A27:=Aside0.mk A270
    clear A270
    have H':=Aside0.mk H
    clear H
    go_wp2_with (first|((with_reducible refine gate_callee (f:=97) rfl ?_);refine goesL_ (some 47) rfl rfl Tryz.func97 (by kernel_rfl) rfl #[.string a0] rfl (by (try simp only [List.map_toArray,List.map_cons,List.map_nil]);first|done|rfl|(simp only [List.length_drop,List.length_take];rfl)) ?_;(with_reducible refine (transhumanceref4_words.calls k1 a0 t148 _ A27.out).mono ?_);rintro e w28 ⟨v149,rfl,ho0,hb⟩;refine ⟨_,rfl,?_⟩;have n0_:=Aside0.mk (Kd.R_lower ho0 (below_size (by repeat (first|(with_reducible first|exact HB.out|apply below_alloc|apply pw_below_drewN|apply below_drew1)|exact HB.out))));have n1_:=Aside0.mk (below_step (by repeat (first|(with_reducible first|exact HB.out|apply below_alloc|apply pw_below_drewN|apply below_drew1)|exact HB.out)) hb);clear HB;have HO150:=n0_;have HB:=n1_;clear n0_ n1_;(try clear hb);(try clear hb2);(try clear hk);(try clear hi);(try clear ho0)))
    go_loopg [6] k1 (fun kq v6 w' => ∃ (x6_2:Int),v6=.int .i64 x6_2∧Aside0 (transhumanceref4_Right.l1 kq a0 t148 x6_2=some r)∧Aside0 (kq≤k1)∧Aside0 (Kd.R Kd.string 9 w' w.heap.size (fun _ => True) v149 t148)∧Aside0 (Below w.heap.size w w'))
    case atStart => exact ⟨(0),(by first|rfl|(simp;done)|(simp [*];done)|(simp;exact (fun l_:List UInt8 => by cases l_ <;> rfl:∀ l_:List UInt8,l_.isEmpty=!(l_ != [])) _)),H',⟨Nat.le_refl _⟩,⟨by (with_reducible repeat (first|apply Kd.R_alloc|apply Kd.R_drewN|apply Kd.R_drew));exact HO150.out⟩,⟨by repeat (first|(with_reducible first|exact HB.out|apply below_alloc|apply pw_below_drewN|apply below_drew1)|exact HB.out)⟩⟩
    case round =>
     clear H'
     try clear c1
     try clear c2
     try clear c2b0
     try clear p2
     try clear c3
     try clear c3b0
     try clear p4
     try clear q4
     try clear hx4
     try clear c5
     try clear c5b0
     try clear c6
     try clear c6b0
     try clear p6
     try clear c7
     try clear c7b0
     try clear c7b1
     try clear c8
     try clear c8b0
     try clear c8b1
     try clear c9
     try clear c9b0
     try clear c9b1
     try clear c10
     try clear c10b0
     try clear c10b1
     try clear c11
     try clear c11b0
     try clear c12
     try clear c12b0
     try clear c12b1
     try clear c13
     try clear c13b0
     try clear c13b1
     try clear c14
     try clear c14b0
     try clear c14b1
     try clear c15
     try clear c15b0
     try clear c15b1
     try clear c16
     try clear c16b0
     try clear c17
     try clear c17b0
     try clear c18
     try clear c18b0
     try clear c18b1
     try clear c19
     try clear c19b0
     try clear c19b1
     try clear c20
     try clear c20b0
     try clear c20b1
     try clear c21
     try clear c21b0
     try clear c21b1
     try clear c22
     try clear c22b0
     try clear c23
     try clear c23b0
     try clear c23b1
     try clear c24
     try clear c24b0
     try clear c24b1
     try clear c25
     try clear c25b0
     try clear c25b1
     try clear c26
     try clear c26b0
     try clear c26b1
     try clear p4
     try clear q4
     obtain ⟨x6_2,rfl,HA,HK2,HO_5,HB⟩:=hrel
     cases gk with
     | zero => exact absurd HA.out (by simp [transhumanceref4_Right.l1])
     | succ k2 =>
      have H:=HA.out
      clear HA
      simp only [transhumanceref4_Right.l1] at H
      by_cases c29:x6_2<(t148.length:Int)
      ·rw [if_pos c29] at H
       have c29b0:decide (x6_2<(t148.length:Int))=true:=decide_eq_true c29
       clear c29
       by_cases c30:0≤x6_2
       ·rw [if_pos c30] at H
        have c30b0:decide (0≤x6_2)=true:=decide_eq_true c30
        clear c30
        by_cases c31:(rdOf ByteArray.empty t148 x6_2).toList=([]:List UInt8)
        ·rw [if_pos c31] at H
         have c31b0:((rdOf ByteArray.empty t148 x6_2).toList == ([]:List UInt8))=true:=beq_iff_eq.mpr c31
         have c31b1:((rdOf ByteArray.empty t148 x6_2).toList != ([]:List UInt8))=false:=bne_eq_false_iff_eq.mpr c31
         clear c31
         obtain rfl:=Option.some.inj H
         obtain ⟨Ao32,co32,eo32⟩:=Kd.R_slice HO_5.out
         subst eo32
         have p151:0≤(x6_2:Int):=of_decide_eq_true (by first|(with_reducible assumption)|assumption)
         have q151:x6_2<(t148.length:Int):=of_decide_eq_true (by first|(with_reducible assumption)|assumption)
         obtain ⟨ad151,e151,hx151_0⟩:=Kd.at_string (Kd.R_reads' HO_5.out).2.2 x6_2 p151 q151
         cases e151
         replace p151:=eq_true p151
         replace q151:=eq_true q151
         go_wp2
         go_ret
         exact ⟨by first|rfl|(simp [errW_none,errW_some] <;> rfl)|(simp [*,errW_none,errW_some] <;> rfl),by repeat (first|(with_reducible first|exact HB.out|apply below_alloc|apply pw_below_drewN|apply below_drew1)|exact HB.out)⟩
        ·rw [if_neg c31] at H
         have c31b0:((rdOf ByteArray.empty t148 x6_2).toList == ([]:List UInt8))=false:=beq_eq_false_iff_ne.mpr c31
         have c31b1:((rdOf ByteArray.empty t148 x6_2).toList != ([]:List UInt8))=true:=bne_iff_ne.mpr c31
         by_cases c33:(rdOf ByteArray.empty t148 x6_2).toList=([46]:List UInt8)
         ·rw [if_pos c33] at H
          have c33b0:((rdOf ByteArray.empty t148 x6_2).toList == ([46]:List UInt8))=true:=beq_iff_eq.mpr c33
          have c33b1:((rdOf ByteArray.empty t148 x6_2).toList != ([46]:List UInt8))=false:=bne_eq_false_iff_eq.mpr c33
          clear c33
          obtain rfl:=Option.some.inj H
          obtain ⟨Ao34,co34,eo34⟩:=Kd.R_slice HO_5.out
          subst eo34
          have p151:0≤(x6_2:Int):=of_decide_eq_true (by first|(with_reducible assumption)|assumption)
          have q151:x6_2<(t148.length:Int):=of_decide_eq_true (by first|(with_reducible assumption)|assumption)
          obtain ⟨ad151,e151,hx151_0⟩:=Kd.at_string (Kd.R_reads' HO_5.out).2.2 x6_2 p151 q151
          cases e151
          replace p151:=eq_true p151
          replace q151:=eq_true q151
          have p152:0≤(x6_2:Int):=of_decide_eq_true (by first|(with_reducible assumption)|assumption)
          have q152:x6_2<(t148.length:Int):=of_decide_eq_true (by first|(with_reducible assumption)|assumption)
          obtain ⟨ad152,e152,hx152_0⟩:=Kd.at_string (Kd.R_reads' HO_5.out).2.2 x6_2 p152 q152
          obtain rfl:ad151=ad152:=(by injection e152)
          replace p152:=eq_true p152
          replace q152:=eq_true q152
          go_wp2
          go_ret
          exact ⟨by first|rfl|(simp [errW_none,errW_some] <;> rfl)|(simp [*,errW_none,errW_some] <;> rfl),by repeat (first|(with_reducible first|exact HB.out|apply below_alloc|apply pw_below_drewN|apply below_drew1)|exact HB.out)⟩
         ·rw [if_neg c33] at H
          have c33b0:((rdOf ByteArray.empty t148 x6_2).toList == ([46]:List UInt8))=false:=beq_eq_false_iff_ne.mpr c33
          have c33b1:((rdOf ByteArray.empty t148 x6_2).toList != ([46]:List UInt8))=true:=bne_iff_ne.mpr c33
          by_cases c35:(rdOf ByteArray.empty t148 x6_2).toList=([46,46]:List UInt8)
          ·rw [if_pos c35] at H
           have c35b0:((rdOf ByteArray.empty t148 x6_2).toList == ([46,46]:List UInt8))=true:=beq_iff_eq.mpr c35
           have c35b1:((rdOf ByteArray.empty t148 x6_2).toList != ([46,46]:List UInt8))=false:=bne_eq_false_iff_eq.mpr c35
           clear c35
           obtain rfl:=Option.some.inj H
           obtain ⟨Ao36,co36,eo36⟩:=Kd.R_slice HO_5.out
           subst eo36
           have p151:0≤(x6_2:Int):=of_decide_eq_true (by first|(with_reducible assumption)|assumption)
           have q151:x6_2<(t148.length:Int):=of_decide_eq_true (by first|(with_reducible assumption)|assumption)
           obtain ⟨ad151,e151,hx151_0⟩:=Kd.at_string (Kd.R_reads' HO_5.out).2.2 x6_2 p151 q151
           cases e151
           replace p151:=eq_true p151
           replace q151:=eq_true q151
           have p152:0≤(x6_2:Int):=of_decide_eq_true (by first|(with_reducible assumption)|assumption)
           have q152:x6_2<(t148.length:Int):=of_decide_eq_true (by first|(with_reducible assumption)|assumption)
           obtain ⟨ad152,e152,hx152_0⟩:=Kd.at_string (Kd.R_reads' HO_5.out).2.2 x6_2 p152 q152
           obtain rfl:ad151=ad152:=(by injection e152)
           replace p152:=eq_true p152
           replace q152:=eq_true q152
           have p153:0≤(x6_2:Int):=of_decide_eq_true (by first|(with_reducible assumption)|assumption)
           have q153:x6_2<(t148.length:Int):=of_decide_eq_true (by first|(with_reducible assumption)|assumption)
           obtain ⟨ad153,e153,hx153_0⟩:=Kd.at_string (Kd.R_reads' HO_5.out).2.2 x6_2 p153 q153
           obtain rfl:ad151=ad153:=(by injection e153)
           replace p153:=eq_true p153
           replace q153:=eq_true q153
           go_wp2
           go_ret
           exact ⟨by first|rfl|(simp [errW_none,errW_some] <;> rfl)|(simp [*,errW_none,errW_some] <;> rfl),by repeat (first|(with_reducible first|exact HB.out|apply below_alloc|apply pw_below_drewN|apply below_drew1)|exact HB.out)⟩
          ·rw [if_neg c35] at H
           have c35b0:((rdOf ByteArray.empty t148 x6_2).toList == ([46,46]:List UInt8))=false:=beq_eq_false_iff_ne.mpr c35
           have c35b1:((rdOf ByteArray.empty t148 x6_2).toList != ([46,46]:List UInt8))=true:=bne_iff_ne.mpr c35
           have H':=Aside0.mk H
           clear H
           obtain ⟨Ao37,co37,eo37⟩:=Kd.R_slice HO_5.out
           subst eo37
           have p151:0≤(x6_2:Int):=of_decide_eq_true (by first|(with_reducible assumption)|assumption)
           have q151:x6_2<(t148.length:Int):=of_decide_eq_true (by first|(with_reducible assumption)|assumption)
           obtain ⟨ad151,e151,hx151_0⟩:=Kd.at_string (Kd.R_reads' HO_5.out).2.2 x6_2 p151 q151
           cases e151
           replace p151:=eq_true p151
           replace q151:=eq_true q151
           have p152:0≤(x6_2:Int):=of_decide_eq_true (by first|(with_reducible assumption)|assumption)
           have q152:x6_2<(t148.length:Int):=of_decide_eq_true (by first|(with_reducible assumption)|assumption)
           obtain ⟨ad152,e152,hx152_0⟩:=Kd.at_string (Kd.R_reads' HO_5.out).2.2 x6_2 p152 q152
           obtain rfl:ad151=ad152:=(by injection e152)
           replace p152:=eq_true p152
           replace q152:=eq_true q152
           have p153:0≤(x6_2:Int):=of_decide_eq_true (by first|(with_reducible assumption)|assumption)
           have q153:x6_2<(t148.length:Int):=of_decide_eq_true (by first|(with_reducible assumption)|assumption)
           obtain ⟨ad153,e153,hx153_0⟩:=Kd.at_string (Kd.R_reads' HO_5.out).2.2 x6_2 p153 q153
           obtain rfl:ad151=ad153:=(by injection e153)
           replace p153:=eq_true p153
           replace q153:=eq_true q153
           go_wp2
           go_roundg k2
           case measure => have:=HK1.out;have:=HK2.out;omega
           case rel => exact ⟨(wrap64 (x6_2+1)),(by first|rfl|(simp;done)|(simp [*];done)|(simp;exact (fun l_:List UInt8 => by cases l_ <;> rfl:∀ l_:List UInt8,l_.isEmpty=!(l_ != [])) _)),H',⟨by have:=HK1.out;have:=HK2.out;omega⟩,⟨by (with_reducible repeat (first|apply Kd.R_alloc|apply Kd.R_drewN|apply Kd.R_drew));exact HO_5.out⟩,⟨by repeat (first|(with_reducible first|exact HB.out|apply below_alloc|apply pw_below_drewN|apply below_drew1)|exact HB.out)⟩⟩
       ·rw [if_neg c30] at H
        exact absurd H (by simp)
      ·rw [if_neg c29] at H
       have c29b0:decide (x6_2<(t148.length:Int))=false:=decide_eq_false c29
       clear c29
       obtain rfl:=Option.some.inj H
       obtain ⟨Ao38,co38,eo38⟩:=Kd.R_slice HO_5.out
       subst eo38
       go_wp2
       go_ret
       exact ⟨by first|rfl|(simp [errW_none,errW_some] <;> rfl)|(simp [*,errW_none,errW_some] <;> rfl),by repeat (first|(with_reducible first|exact HB.out|apply below_alloc|apply pw_below_drewN|apply below_drew1)|exact HB.out)⟩
end Go.Proofs.YtjdjljgbfpkbdaaGreatDoor.Q
