import Derived.Test.YtjdjljgbfpkbdaaGreatDoorZR1g
namespace Go.Proofs.YtjdjljgbfpkbdaaGreatDoor.R
open Go.RowKit Go.Proofs.YtjdjljgbfpkbdaaGreatDoorW.PrintWords Go.Proofs.YtjdjljgbfpkbdaaGreatDoorW.PrintLast Go.Proofs.YtjdjljgbfpkbdaaGreatDoorW.PrintMore
attribute [local go_sem] max2_int min2_int max_two min_two max_three min_three max_four min_four
set_option linter.unusedVariables false
set_option linter.unusedSimpArgs false
def dent_bad.l0:Nat→ByteArray→Int→Int→Option (Int)
 | 0,_,_,_ => none
 | k+1,x0,x5,x6 => if x6<x5 then (if 0≤x6 then (if x6≤(wrap64 (x6+1)) then (if (wrap64 (x6+1))≤(x0.size:Int) then ((text_Plain.f k (x0.extract (x6:Int).toNat ((wrap64 (x6+1)):Int).toNat)).bind fun t118 => (if t118=true then (dent_bad.l0 k x0 x5 (wrap64 (x6+1))) else (some x6))) else (none)) else (none)) else (none)) else (some (-1))
def dent_bad.f (k:Nat) (a0:ByteArray):Option (Int):=dent_bad.l0 k a0 (a0.size:Int) 0
set_option maxHeartbeats 8000000 in
set_option maxRecDepth 100000 in
theorem dent_bad.calls (k:Nat) (a0:ByteArray) (r:Int) (w:World) (h:dent_bad.f k a0=some r) :
  Calls Tryz.prog 25 #[.string a0] w fun e w' => e=.returned (.int .i64 r)∧Drawn0 w w':=by
 have H:(dent_bad.l0 k a0 (a0.size:Int) 0)=some r:=h
 clear h
 have H':=Aside0.mk H
 clear H
 go_enter Tryz.func25,Tryz.ntmps25
 go_wp2
 go_loopg [6] k (fun kq v6 w' => ∃ (x6_1:Int),v6=.int .i64 x6_1∧Aside0 (dent_bad.l0 kq a0 (a0.size:Int) x6_1=some r)∧Aside0 (kq≤k)∧Drawn0 w w')
 case atStart => exact ⟨(0),(by first|rfl|(simp;done)|(simp [*];done)|(simp;exact (fun l_:List UInt8 => by cases l_ <;> rfl:∀ l_:List UInt8,l_.isEmpty=!(l_ != [])) _)),H',⟨Nat.le_refl _⟩,by repeat (first|exact Drawn0.refl _|apply Drawn0.step)⟩
 case round =>
  clear H'
  obtain ⟨x6_1,rfl,HA,HK1,⟨m1,rfl⟩⟩:=hrel
  cases gk with
  | zero => exact absurd HA.out (by simp [dent_bad.l0])
  | succ k1 =>
   have H:=HA.out
   clear HA
   simp only [dent_bad.l0] at H
   by_cases c2:x6_1<(a0.size:Int)
   ·rw [if_pos c2] at H
    have c2b0:decide (x6_1<(a0.size:Int))=true:=decide_eq_true c2
    clear c2
    by_cases c3:0≤x6_1
    ·rw [if_pos c3] at H
     have c3b0:=eq_true c3
     have c3b1:decide (0≤x6_1)=true:=decide_eq_true c3
     clear c3
     by_cases c4:x6_1≤(wrap64 (x6_1+1))
     ·rw [if_pos c4] at H
      have c4b0:=eq_true c4
      have c4b1:decide (x6_1≤(wrap64 (x6_1+1)))=true:=decide_eq_true c4
      by_cases c5:(wrap64 (x6_1+1))≤(a0.size:Int)
      ·rw [if_pos c5] at H
       have c5b0:=eq_true c5
       have c5b1:decide ((wrap64 (x6_1+1))≤(a0.size:Int))=true:=decide_eq_true c5
       replace H:=Option.bind_eq_some_iff.mp H
       obtain ⟨t118,A60,H⟩:=H
       replace H:(if t118=true then (dent_bad.l0 k1 a0 (a0.size:Int) (wrap64 (x6_1+1))) else (some x6_1))=some r:=H
       have A6:=Aside0.mk A60
       clear A60
       by_cases c7:t118=true
       ·subst c7
        have H1:(dent_bad.l0 k1 a0 (a0.size:Int) (wrap64 (x6_1+1)))=some r:=by rw [if_pos rfl] at H;exact H
        clear H
        have H:=H1
        clear H1
        have H':=Aside0.mk H
        clear H
        go_wp2_with (first|((with_reducible refine gate_callee (f:=50) rfl ?_);refine goesL_ (some 14) rfl rfl Tryz.func50 (by kernel_rfl) rfl #[.string (a0.extract (x6_1:Int).toNat ((wrap64 (x6_1+1)):Int).toNat)] rfl (by (try simp only [List.map_toArray,List.map_cons,List.map_nil]);first|done|rfl|(simp only [List.length_drop,List.length_take];rfl)) ?_;(with_reducible refine (text_Plain.calls k1 (a0.extract (x6_1:Int).toNat ((wrap64 (x6_1+1)):Int).toNat) true _ A6.out).mono ?_);rintro e w' ⟨rfl,⟨nd,rfl⟩⟩;refine ⟨_,rfl,?_⟩))
        go_roundg k1
        case measure => have:=HK1.out;omega
        case rel => exact ⟨(wrap64 (x6_1+1)),(by first|rfl|(simp;done)|(simp [*];done)|(simp;exact (fun l_:List UInt8 => by cases l_ <;> rfl:∀ l_:List UInt8,l_.isEmpty=!(l_ != [])) _)),H',⟨by have:=HK1.out;omega⟩,by repeat (first|exact Drawn0.refl _|apply Drawn0.step)⟩
       ·replace c7:=Bool.eq_false_iff.mpr c7
        subst c7
        have H1:(some x6_1)=some r:=by rw [if_neg (show ¬ (false=true) by decide)] at H;exact H
        clear H
        have H:=H1
        clear H1
        obtain rfl:=Option.some.inj H
        go_wp2_with (first|((with_reducible refine gate_callee (f:=50) rfl ?_);refine goesL_ (some 14) rfl rfl Tryz.func50 (by kernel_rfl) rfl #[.string (a0.extract (x6_1:Int).toNat ((wrap64 (x6_1+1)):Int).toNat)] rfl (by (try simp only [List.map_toArray,List.map_cons,List.map_nil]);first|done|rfl|(simp only [List.length_drop,List.length_take];rfl)) ?_;(with_reducible refine (text_Plain.calls k1 (a0.extract (x6_1:Int).toNat ((wrap64 (x6_1+1)):Int).toNat) false _ A6.out).mono ?_);rintro e w' ⟨rfl,⟨nd,rfl⟩⟩;refine ⟨_,rfl,?_⟩))
        go_ret
        exact ⟨by first|rfl|(simp;done)|(simp [*];done)|(simp;exact (fun l_:List UInt8 => by cases l_ <;> rfl:∀ l_:List UInt8,l_.isEmpty=!(l_ != [])) _),by repeat (first|exact Drawn0.refl _|apply Drawn0.step)⟩
      ·rw [if_neg c5] at H
       exact absurd H (by simp)
     ·rw [if_neg c4] at H
      exact absurd H (by simp)
    ·rw [if_neg c3] at H
     exact absurd H (by simp)
   ·rw [if_neg c2] at H
    have c2b0:decide (x6_1<(a0.size:Int))=false:=decide_eq_false c2
    clear c2
    obtain rfl:=Option.some.inj H
    go_wp2
    go_ret
    exact ⟨by first|rfl|(simp;done)|(simp [*];done)|(simp;exact (fun l_:List UInt8 => by cases l_ <;> rfl:∀ l_:List UInt8,l_.isEmpty=!(l_ != [])) _),by repeat (first|exact Drawn0.refl _|apply Drawn0.step)⟩
end Go.Proofs.YtjdjljgbfpkbdaaGreatDoor.R
