import Derived.Test.YtjiidlkkkednoaaGreatDoorZBaseg
import Derived.Test.YtjiidlkkkednoaaGreatDoorZR0g
set_option linter.unusedVariables false
set_option linter.unusedSimpArgs false
section
namespace Go.Proofs.YtjiidlkkkednoaaGreatDoor.R
open Go.RowKit Go.Proofs.YtjiidlkkkednoaaGreatDoorW.PrintWords
def strings_IndexByte.f (a0:ByteArray) (a1:Int):Option (Int):=some (Lib.indexByte a0.data.toList a1.toNat.toUInt8)
theorem strings_IndexByte.calls (a0:ByteArray) (a1:Int) (r:Int) (w:World) (h:strings_IndexByte.f a0 a1=some r) :
  Calls Tryz.prog 130 #[.string a0,.int .u8 a1] w fun e w' => e=.returned (.int .i64 r)∧Drawn0 w w':=by
 obtain rfl:=Option.some.inj h
 exact (Tryz.strings_IndexByte a0 a1 w).mono fun _ _ ⟨he,hw⟩ => ⟨he,by rw [hw];exact Drawn0.refl _⟩
def strings_LastIndexByte.f (a0:ByteArray) (a1:Int):Option (Int):=if a0.size≤140737488351232 then some (Lib.lastIndexByte a0 a1) else none
theorem strings_LastIndexByte.calls (a0:ByteArray) (a1:Int) (r:Int) (w:World) (h:strings_LastIndexByte.f a0 a1=some r) :
  Calls Tryz.prog 63 #[.string a0,.int .u8 a1] w fun e w' => e=.returned (.int .i64 r)∧Drawn0 w w':=by
 unfold strings_LastIndexByte.f at h
 split at h
 ·obtain rfl:=Option.some.inj h
  exact (Tryz.strings_LastIndexByte a0 a1 (by omega) w).mono fun _ _ ⟨he,hw⟩ => ⟨he,by rw [hw];exact Drawn0.refl _⟩
 ·cases h
end Go.Proofs.YtjiidlkkkednoaaGreatDoor.R
end
section
namespace Go.Proofs.YtjiidlkkkednoaaGreatDoor.R
open Go.RowKit Go.Proofs.YtjiidlkkkednoaaGreatDoorW.PrintWords Go.Proofs.YtjiidlkkkednoaaGreatDoorW.PrintLast Go.Proofs.YtjiidlkkkednoaaGreatDoorW.PrintMore
attribute [local go_sem] max2_int min2_int max_two min_two max_three min_three max_four min_four
set_option linter.unusedVariables false
set_option linter.unusedSimpArgs false
def ver_all.l0:Nat→ByteArray→Int→Int→Option (Bool)
 | 0,_,_,_ => none
 | k+1,x0,x5,x6 => if x6<x5 then (if 0≤x6 then (if x6<(x0.size:Int) then (if (bt x0 x6)<48 then (some false) else (if (bt x0 x6) > 57 then (some false) else (ver_all.l0 k x0 x5 (wrap64 (x6+1))))) else (none)) else (none)) else (some (x0.toList != ([]:List UInt8)))
def ver_all.f (k:Nat) (a0:ByteArray):Option (Bool):=ver_all.l0 k a0 (a0.size:Int) 0
set_option maxHeartbeats 8000000 in
set_option maxRecDepth 100000 in
theorem ver_all.calls (k:Nat) (a0:ByteArray) (r:Bool) (w:World) (h:ver_all.f k a0=some r) :
  Calls Tryz.prog 131 #[.string a0] w fun e w' => e=.returned (.bool r)∧Drawn0 w w':=by
 have H:(ver_all.l0 k a0 (a0.size:Int) 0)=some r:=h
 clear h
 have H':=Aside0.mk H
 clear H
 go_enter Tryz.func131,Tryz.ntmps131
 go_wp2
 go_loopg [6] k (fun kq v6 w' => ∃ (x6_1:Int),v6=.int .i64 x6_1∧Aside0 (ver_all.l0 kq a0 (a0.size:Int) x6_1=some r)∧Aside0 (kq≤k)∧Drawn0 w w')
 case atStart => exact ⟨(0),(by first|rfl|(simp;done)|(simp [*];done)|(simp;exact (fun l_:List UInt8 => by cases l_ <;> rfl:∀ l_:List UInt8,l_.isEmpty=!(l_ != [])) _)),H',⟨Nat.le_refl _⟩,by repeat (first|exact Drawn0.refl _|apply Drawn0.step)⟩
 case round =>
  clear H'
  try clear c1
  obtain ⟨x6_1,rfl,HA,HK1,⟨m1,rfl⟩⟩:=hrel
  cases gk with
  | zero => exact absurd HA.out (by simp [ver_all.l0])
  | succ k1 =>
   have H:=HA.out
   clear HA
   simp only [ver_all.l0] at H
   by_cases c2:x6_1<(a0.size:Int)
   ·rw [if_pos c2] at H
    have c2b0:decide (x6_1<(a0.size:Int))=true:=decide_eq_true c2
    clear c2
    by_cases c3:0≤x6_1
    ·rw [if_pos c3] at H
     have c3b0:decide (0≤x6_1)=true:=decide_eq_true c3
     clear c3
     by_cases c4:x6_1<(a0.size:Int)
     ·rw [if_pos c4] at H
      have c4b0:decide (x6_1<(a0.size:Int))=true:=decide_eq_true c4
      clear c4
      by_cases c6:(bt a0 x6_1)<48
      ·rw [if_pos c6] at H
       have c6b0:decide ((bt a0 x6_1)<48)=true:=decide_eq_true c6
       clear c6
       obtain rfl:=Option.some.inj H
       have p5:0≤(x6_1:Int):=of_decide_eq_true (by first|(with_reducible assumption)|assumption)
       have q5:x6_1<(a0.size:Int):=of_decide_eq_true (by first|(with_reducible assumption)|assumption)
       have hx5:=bt_at a0 x6_1
       replace p5:=eq_true p5
       replace q5:=eq_true q5
       go_wp2
       go_ret
       exact ⟨by first|rfl|(simp;done)|(simp [*];done)|(simp;exact (fun l_:List UInt8 => by cases l_ <;> rfl:∀ l_:List UInt8,l_.isEmpty=!(l_ != [])) _),by repeat (first|exact Drawn0.refl _|apply Drawn0.step)⟩
      ·rw [if_neg c6] at H
       have c6b0:decide ((bt a0 x6_1)<48)=false:=decide_eq_false c6
       clear c6
       by_cases c8:(bt a0 x6_1) > 57
       ·rw [if_pos c8] at H
        have c8b0:decide (57<(bt a0 x6_1))=true:=decide_eq_true c8
        clear c8
        obtain rfl:=Option.some.inj H
        have p5:0≤(x6_1:Int):=of_decide_eq_true (by first|(with_reducible assumption)|assumption)
        have q5:x6_1<(a0.size:Int):=of_decide_eq_true (by first|(with_reducible assumption)|assumption)
        have hx5:=bt_at a0 x6_1
        replace p5:=eq_true p5
        replace q5:=eq_true q5
        have p7:0≤(x6_1:Int):=of_decide_eq_true (by first|(with_reducible assumption)|assumption)
        have q7:x6_1<(a0.size:Int):=of_decide_eq_true (by first|(with_reducible assumption)|assumption)
        have hx7:=bt_at a0 x6_1
        replace p7:=eq_true p7
        replace q7:=eq_true q7
        go_wp2
        go_ret
        exact ⟨by first|rfl|(simp;done)|(simp [*];done)|(simp;exact (fun l_:List UInt8 => by cases l_ <;> rfl:∀ l_:List UInt8,l_.isEmpty=!(l_ != [])) _),by repeat (first|exact Drawn0.refl _|apply Drawn0.step)⟩
       ·rw [if_neg c8] at H
        have c8b0:decide (57<(bt a0 x6_1))=false:=decide_eq_false c8
        clear c8
        have H':=Aside0.mk H
        clear H
        have p5:0≤(x6_1:Int):=of_decide_eq_true (by first|(with_reducible assumption)|assumption)
        have q5:x6_1<(a0.size:Int):=of_decide_eq_true (by first|(with_reducible assumption)|assumption)
        have hx5:=bt_at a0 x6_1
        replace p5:=eq_true p5
        replace q5:=eq_true q5
        have p7:0≤(x6_1:Int):=of_decide_eq_true (by first|(with_reducible assumption)|assumption)
        have q7:x6_1<(a0.size:Int):=of_decide_eq_true (by first|(with_reducible assumption)|assumption)
        have hx7:=bt_at a0 x6_1
        replace p7:=eq_true p7
        replace q7:=eq_true q7
        go_wp2
        go_roundg k1
        case measure => have:=HK1.out;omega
        case rel => exact ⟨(wrap64 (x6_1+1)),(by first|rfl|(simp;done)|(simp [*];done)|(simp;exact (fun l_:List UInt8 => by cases l_ <;> rfl:∀ l_:List UInt8,l_.isEmpty=!(l_ != [])) _)),H',⟨by have:=HK1.out;omega⟩,by repeat (first|exact Drawn0.refl _|apply Drawn0.step)⟩
     ·rw [if_neg c4] at H
      exact absurd H (by simp)
    ·rw [if_neg c3] at H
     exact absurd H (by simp)
   ·rw [if_neg c2] at H
    have c2b0:decide (x6_1<(a0.size:Int))=false:=decide_eq_false c2
    clear c2
    obtain rfl:=Option.some.inj H
    go_wp2
    go_ret
    exact ⟨by first|rfl|(simp;done)|(simp [*];done)|(simp;exact (fun l_:List UInt8 => by cases l_ <;> rfl:∀ l_:List UInt8,l_.isEmpty=!(l_ != [])) _),by repeat (first|exact Drawn0.refl _|apply Drawn0.step)⟩
def ver_word.l0:Nat→ByteArray→Int→Int→Option (Bool)
 | 0,_,_,_ => none
 | k+1,x0,x5,x6 => if x6<x5 then (if 0≤x6 then (if x6<(x0.size:Int) then ((strings_IndexByte.f (⟨#[97,98,99,100,101,102,103,104,105,106,107,108,109,110,111,112,113,114,115,116,117,118,119,120,121,122,65,66,67,68,69,70,71,72,73,74,75,76,77,78,79,80,81,82,83,84,85,86,87,88,89,90,48,49,50,51,52,53,54,55,56,57,45]⟩:ByteArray) (bt x0 x6)).bind fun t101 => (if t101<0 then (some false) else (ver_word.l0 k x0 x5 (wrap64 (x6+1))))) else (none)) else (none)) else (if x0.toList=([]:List UInt8) then (some false) else (if (x0.size:Int) > 1 then (if 0<(x0.size:Int) then (if (bt x0 0)=48 then ((ver_all.f k x0).bind fun t102 => (some (!t102))) else (some (!false))) else (none)) else (some (!false))))
def ver_word.f (k:Nat) (a0:ByteArray):Option (Bool):=ver_word.l0 k a0 (a0.size:Int) 0
set_option maxHeartbeats 8000000 in
set_option maxRecDepth 100000 in
theorem ver_word.calls (k:Nat) (a0:ByteArray) (r:Bool) (w:World) (h:ver_word.f k a0=some r) :
  Calls Tryz.prog 111 #[.string a0] w fun e w' => e=.returned (.bool r)∧Drawn0 w w':=by
 have H:(ver_word.l0 k a0 (a0.size:Int) 0)=some r:=h
 clear h
 have H':=Aside0.mk H
 clear H
 go_enter Tryz.func111,Tryz.ntmps111
 go_wp2
 go_loopg [6] k (fun kq v6 w' => ∃ (x6_1:Int),v6=.int .i64 x6_1∧Aside0 (ver_word.l0 kq a0 (a0.size:Int) x6_1=some r)∧Aside0 (kq≤k)∧Drawn0 w w')
 case atStart => exact ⟨(0),(by first|rfl|(simp;done)|(simp [*];done)|(simp;exact (fun l_:List UInt8 => by cases l_ <;> rfl:∀ l_:List UInt8,l_.isEmpty=!(l_ != [])) _)),H',⟨Nat.le_refl _⟩,by repeat (first|exact Drawn0.refl _|apply Drawn0.step)⟩
 case round =>
  clear H'
  try clear c1
  obtain ⟨x6_1,rfl,HA,HK1,⟨m1,rfl⟩⟩:=hrel
  cases gk with
  | zero => exact absurd HA.out (by simp [ver_word.l0])
  | succ k1 =>
   have H:=HA.out
   clear HA
   simp only [ver_word.l0] at H
   by_cases c2:x6_1<(a0.size:Int)
   ·rw [if_pos c2] at H
    have c2b0:decide (x6_1<(a0.size:Int))=true:=decide_eq_true c2
    clear c2
    by_cases c3:0≤x6_1
    ·rw [if_pos c3] at H
     have c3b0:decide (0≤x6_1)=true:=decide_eq_true c3
     clear c3
     by_cases c4:x6_1<(a0.size:Int)
     ·rw [if_pos c4] at H
      have c4b0:decide (x6_1<(a0.size:Int))=true:=decide_eq_true c4
      clear c4
      replace H:=Option.bind_eq_some_iff.mp H
      obtain ⟨t101,A60,H⟩:=H
      replace H:(if t101<0 then (some false) else (ver_word.l0 k1 a0 (a0.size:Int) (wrap64 (x6_1+1))))=some r:=H
      have A6:=Aside0.mk A60
      clear A60
      by_cases c7:t101<0
      ·rw [if_pos c7] at H
       have c7b0:decide (t101<0)=true:=decide_eq_true c7
       clear c7
       obtain rfl:=Option.some.inj H
       have p5:0≤(x6_1:Int):=of_decide_eq_true (by first|(with_reducible assumption)|assumption)
       have q5:x6_1<(a0.size:Int):=of_decide_eq_true (by first|(with_reducible assumption)|assumption)
       have hx5:=bt_at a0 x6_1
       replace p5:=eq_true p5
       replace q5:=eq_true q5
       go_wp2_with (first|((with_reducible refine gate_callee (f:=130) rfl ?_);refine goesL_ (some 12) rfl rfl Tryz.func130 (by kernel_rfl) rfl #[.string (⟨#[97,98,99,100,101,102,103,104,105,106,107,108,109,110,111,112,113,114,115,116,117,118,119,120,121,122,65,66,67,68,69,70,71,72,73,74,75,76,77,78,79,80,81,82,83,84,85,86,87,88,89,90,48,49,50,51,52,53,54,55,56,57,45]⟩:ByteArray),.int .u8 (bt a0 x6_1)] rfl (by (try simp only [List.map_toArray,List.map_cons,List.map_nil]);first|done|rfl|(simp only [List.length_drop,List.length_take];rfl)) ?_;(with_reducible refine (strings_IndexByte.calls (⟨#[97,98,99,100,101,102,103,104,105,106,107,108,109,110,111,112,113,114,115,116,117,118,119,120,121,122,65,66,67,68,69,70,71,72,73,74,75,76,77,78,79,80,81,82,83,84,85,86,87,88,89,90,48,49,50,51,52,53,54,55,56,57,45]⟩:ByteArray) (bt a0 x6_1) t101 _ A6.out).mono ?_);rintro e w' ⟨rfl,⟨nd,rfl⟩⟩;refine ⟨_,rfl,?_⟩))
       go_ret
       exact ⟨by first|rfl|(simp;done)|(simp [*];done)|(simp;exact (fun l_:List UInt8 => by cases l_ <;> rfl:∀ l_:List UInt8,l_.isEmpty=!(l_ != [])) _),by repeat (first|exact Drawn0.refl _|apply Drawn0.step)⟩
      ·rw [if_neg c7] at H
       have c7b0:decide (t101<0)=false:=decide_eq_false c7
       clear c7
       have H':=Aside0.mk H
       clear H
       have p5:0≤(x6_1:Int):=of_decide_eq_true (by first|(with_reducible assumption)|assumption)
       have q5:x6_1<(a0.size:Int):=of_decide_eq_true (by first|(with_reducible assumption)|assumption)
       have hx5:=bt_at a0 x6_1
       replace p5:=eq_true p5
       replace q5:=eq_true q5
       go_wp2_with (first|((with_reducible refine gate_callee (f:=130) rfl ?_);refine goesL_ (some 12) rfl rfl Tryz.func130 (by kernel_rfl) rfl #[.string (⟨#[97,98,99,100,101,102,103,104,105,106,107,108,109,110,111,112,113,114,115,116,117,118,119,120,121,122,65,66,67,68,69,70,71,72,73,74,75,76,77,78,79,80,81,82,83,84,85,86,87,88,89,90,48,49,50,51,52,53,54,55,56,57,45]⟩:ByteArray),.int .u8 (bt a0 x6_1)] rfl (by (try simp only [List.map_toArray,List.map_cons,List.map_nil]);first|done|rfl|(simp only [List.length_drop,List.length_take];rfl)) ?_;(with_reducible refine (strings_IndexByte.calls (⟨#[97,98,99,100,101,102,103,104,105,106,107,108,109,110,111,112,113,114,115,116,117,118,119,120,121,122,65,66,67,68,69,70,71,72,73,74,75,76,77,78,79,80,81,82,83,84,85,86,87,88,89,90,48,49,50,51,52,53,54,55,56,57,45]⟩:ByteArray) (bt a0 x6_1) t101 _ A6.out).mono ?_);rintro e w' ⟨rfl,⟨nd,rfl⟩⟩;refine ⟨_,rfl,?_⟩))
       go_roundg k1
       case measure => have:=HK1.out;omega
       case rel => exact ⟨(wrap64 (x6_1+1)),(by first|rfl|(simp;done)|(simp [*];done)|(simp;exact (fun l_:List UInt8 => by cases l_ <;> rfl:∀ l_:List UInt8,l_.isEmpty=!(l_ != [])) _)),H',⟨by have:=HK1.out;omega⟩,by repeat (first|exact Drawn0.refl _|apply Drawn0.step)⟩
     ·rw [if_neg c4] at H
      exact absurd H (by simp)
    ·rw [if_neg c3] at H
     exact absurd H (by simp)
   ·rw [if_neg c2] at H
    have c2b0:decide (x6_1<(a0.size:Int))=false:=decide_eq_false c2
    clear c2
    by_cases c8:a0.toList=([]:List UInt8)
    ·rw [if_pos c8] at H
     have c8b0:(a0.toList == ([]:List UInt8))=true:=beq_iff_eq.mpr c8
     have c8b1:(a0.toList != ([]:List UInt8))=false:=bne_eq_false_iff_eq.mpr c8
     clear c8
     obtain rfl:=Option.some.inj H
     go_wp2
     go_ret
     exact ⟨by first|rfl|(simp;done)|(simp [*];done)|(simp;exact (fun l_:List UInt8 => by cases l_ <;> rfl:∀ l_:List UInt8,l_.isEmpty=!(l_ != [])) _),by repeat (first|exact Drawn0.refl _|apply Drawn0.step)⟩
    ·rw [if_neg c8] at H
     have c8b0:(a0.toList == ([]:List UInt8))=false:=beq_eq_false_iff_ne.mpr c8
     have c8b1:(a0.toList != ([]:List UInt8))=true:=bne_iff_ne.mpr c8
     by_cases c9:(a0.size:Int) > 1
     ·rw [if_pos c9] at H
      have c9b0:decide (1<(a0.size:Int))=true:=decide_eq_true c9
      have c9b1:decide (1<a0.size)=true:=decide_eq_true (by omega)
      clear c9
      by_cases c10:0<(a0.size:Int)
      ·rw [if_pos c10] at H
       have c10b0:decide (0<(a0.size:Int))=true:=decide_eq_true c10
       have c10b1:decide (0<a0.size)=true:=decide_eq_true (by omega)
       clear c10
       by_cases c12:(bt a0 0)=48
       ·rw [if_pos c12] at H
        have c12b0:((bt a0 0) == 48)=true:=beq_iff_eq.mpr c12
        have c12b1:((bt a0 0) != 48)=false:=bne_eq_false_iff_eq.mpr c12
        clear c12
        replace H:=Option.bind_eq_some_iff.mp H
        obtain ⟨t102,A130,H⟩:=H
        replace H:(some (!t102))=some r:=H
        have A13:=Aside0.mk A130
        clear A130
        obtain rfl:=Option.some.inj H
        have p11:0≤(0:Int):=(by omega)
        have q11:0<a0.size:=(by have:(0:Int)<(a0.size:Int):=of_decide_eq_true (by first|(with_reducible assumption)|assumption);omega)
        have hx11:∀ h:0<a0.size,((a0[0]'h).toNat:Int)=bt a0 0:=bt_at a0 0
        clear p11
        have qi11:(0<(a0.size:Int))=True:=eq_true (of_decide_eq_true (by first|(with_reducible assumption)|assumption))
        replace q11:=eq_true q11
        go_wp2_with (first|(go_at_call 131;(with_reducible refine (ver_all.calls k1 a0 t102 _ A13.out).mono ?_);rintro e w' ⟨rfl,⟨nd,rfl⟩⟩))
        go_ret
        exact ⟨by first|rfl|(simp;done)|(simp [*];done)|(simp;exact (fun l_:List UInt8 => by cases l_ <;> rfl:∀ l_:List UInt8,l_.isEmpty=!(l_ != [])) _),by repeat (first|exact Drawn0.refl _|apply Drawn0.step)⟩
       ·rw [if_neg c12] at H
        have c12b0:((bt a0 0) == 48)=false:=beq_eq_false_iff_ne.mpr c12
        have c12b1:((bt a0 0) != 48)=true:=bne_iff_ne.mpr c12
        obtain rfl:=Option.some.inj H
        have p11:0≤(0:Int):=(by omega)
        have q11:0<a0.size:=(by have:(0:Int)<(a0.size:Int):=of_decide_eq_true (by first|(with_reducible assumption)|assumption);omega)
        have hx11:∀ h:0<a0.size,((a0[0]'h).toNat:Int)=bt a0 0:=bt_at a0 0
        clear p11
        have qi11:(0<(a0.size:Int))=True:=eq_true (of_decide_eq_true (by first|(with_reducible assumption)|assumption))
        replace q11:=eq_true q11
        go_wp2
        go_ret
        exact ⟨by first|rfl|(simp;done)|(simp [*];done)|(simp;exact (fun l_:List UInt8 => by cases l_ <;> rfl:∀ l_:List UInt8,l_.isEmpty=!(l_ != [])) _),by repeat (first|exact Drawn0.refl _|apply Drawn0.step)⟩
      ·rw [if_neg c10] at H
       exact absurd H (by simp)
     ·rw [if_neg c9] at H
      have c9b0:decide (1<(a0.size:Int))=false:=decide_eq_false c9
      have c9b1:decide (1<a0.size)=false:=decide_eq_false (by omega)
      clear c9
      obtain rfl:=Option.some.inj H
      go_wp2
      go_ret
      exact ⟨by first|rfl|(simp;done)|(simp [*];done)|(simp;exact (fun l_:List UInt8 => by cases l_ <;> rfl:∀ l_:List UInt8,l_.isEmpty=!(l_ != [])) _),by repeat (first|exact Drawn0.refl _|apply Drawn0.step)⟩
end Go.Proofs.YtjiidlkkkednoaaGreatDoor.R
end
