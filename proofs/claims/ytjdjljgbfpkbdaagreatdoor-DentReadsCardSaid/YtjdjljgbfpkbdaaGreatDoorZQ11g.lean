import Derived.Test.YtjdjljgbfpkbdaaGreatDoorZQ0
import Derived.Test.YtjdjljgbfpkbdaaGreatDoorZQ7g
import Derived.Test.YtjdjljgbfpkbdaaGreatDoorZQ8
import Derived.Test.YtjdjljgbfpkbdaaGreatDoorZQ9
section
namespace Go.Proofs.YtjdjljgbfpkbdaaGreatDoor.Q
open Go.RowKit Go.Proofs.YtjdjljgbfpkbdaaGreatDoorW.PrintWords Go.Proofs.YtjdjljgbfpkbdaaGreatDoorW.PrintLast Go.Proofs.YtjdjljgbfpkbdaaGreatDoorW.PrintMore
attribute [local go_sem] max2_int min2_int max_two min_two max_three min_three max_four min_four
set_option linter.unusedVariables false
set_option linter.unusedSimpArgs false
def transhumanceref7_blank.l0:Nat→ByteArray→Int→Option (Int)
 | 0,_,_ => none
 | k+1,x0,x3 => if x3<(x0.size:Int) then (if 0≤x3 then (if (bt x0 x3)=32 then (transhumanceref7_blank.l0 k x0 (wrap64 (x3+1))) else (some x3)) else (none)) else (some x3)
def transhumanceref7_blank.f (k:Nat) (a0:ByteArray):Option (Int):=transhumanceref7_blank.l0 k a0 0
set_option maxHeartbeats 8000000 in
set_option maxRecDepth 100000 in
theorem transhumanceref7_blank.calls (k:Nat) (a0:ByteArray) (r:Int) (w:World) (h:transhumanceref7_blank.f k a0=some r) :
  Calls Tryz.prog 37 #[.string a0] w fun e w' => e=.returned (.int .i64 r)∧Drawn0 w w':=by
 have H:(transhumanceref7_blank.l0 k a0 0)=some r:=h
 clear h
 have H':=Aside0.mk H
 clear H
 go_enter Tryz.func37,Tryz.ntmps37
 go_wp2
 go_loopg [3] k (fun kq v3 w' => ∃ (x3_1:Int),v3=.int .i64 x3_1∧Aside0 (transhumanceref7_blank.l0 kq a0 x3_1=some r)∧Aside0 (kq≤k)∧Drawn0 w w')
 case atStart => exact ⟨(0),(by first|rfl|(simp;done)|(simp [*];done)|(simp;exact (fun l_:List UInt8 => by cases l_ <;> rfl:∀ l_:List UInt8,l_.isEmpty=!(l_ != [])) _)),H',⟨Nat.le_refl _⟩,by repeat (first|exact Drawn0.refl _|apply Drawn0.step)⟩
 case round =>
  clear H'
  obtain ⟨x3_1,rfl,HA,HK1,⟨m1,rfl⟩⟩:=hrel
  cases gk with
  | zero => exact absurd HA.out (by simp [transhumanceref7_blank.l0])
  | succ k1 =>
   have H:=HA.out
   clear HA
   simp only [transhumanceref7_blank.l0] at H
   by_cases c2:x3_1<(a0.size:Int)
   ·rw [if_pos c2] at H
    have c2b0:decide (x3_1<(a0.size:Int))=true:=decide_eq_true c2
    clear c2
    by_cases c3:0≤x3_1
    ·rw [if_pos c3] at H
     have c3b0:decide (0≤x3_1)=true:=decide_eq_true c3
     clear c3
     by_cases c5:(bt a0 x3_1)=32
     ·rw [if_pos c5] at H
      have c5b0:((bt a0 x3_1) == 32)=true:=beq_iff_eq.mpr c5
      have c5b1:((bt a0 x3_1) != 32)=false:=bne_eq_false_iff_eq.mpr c5
      clear c5
      have H':=Aside0.mk H
      clear H
      have p4:0≤(x3_1:Int):=of_decide_eq_true (by first|(with_reducible assumption)|assumption)
      have q4:x3_1<(a0.size:Int):=of_decide_eq_true (by first|(with_reducible assumption)|assumption)
      have hx4:=bt_at a0 x3_1
      replace p4:=eq_true p4
      replace q4:=eq_true q4
      go_wp2
      go_roundg k1
      case measure => have:=HK1.out;omega
      case rel => exact ⟨(wrap64 (x3_1+1)),(by first|rfl|(simp;done)|(simp [*];done)|(simp;exact (fun l_:List UInt8 => by cases l_ <;> rfl:∀ l_:List UInt8,l_.isEmpty=!(l_ != [])) _)),H',⟨by have:=HK1.out;omega⟩,by repeat (first|exact Drawn0.refl _|apply Drawn0.step)⟩
     ·rw [if_neg c5] at H
      have c5b0:((bt a0 x3_1) == 32)=false:=beq_eq_false_iff_ne.mpr c5
      have c5b1:((bt a0 x3_1) != 32)=true:=bne_iff_ne.mpr c5
      obtain rfl:=Option.some.inj H
      have p4:0≤(x3_1:Int):=of_decide_eq_true (by first|(with_reducible assumption)|assumption)
      have q4:x3_1<(a0.size:Int):=of_decide_eq_true (by first|(with_reducible assumption)|assumption)
      have hx4:=bt_at a0 x3_1
      replace p4:=eq_true p4
      replace q4:=eq_true q4
      go_wp2
      go_ret
      exact ⟨by first|rfl|(simp;done)|(simp [*];done)|(simp;exact (fun l_:List UInt8 => by cases l_ <;> rfl:∀ l_:List UInt8,l_.isEmpty=!(l_ != [])) _),by repeat (first|exact Drawn0.refl _|apply Drawn0.step)⟩
    ·rw [if_neg c3] at H
     exact absurd H (by simp)
   ·rw [if_neg c2] at H
    have c2b0:decide (x3_1<(a0.size:Int))=false:=decide_eq_false c2
    clear c2
    obtain rfl:=Option.some.inj H
    go_wp2
    go_ret
    exact ⟨by first|rfl|(simp;done)|(simp [*];done)|(simp;exact (fun l_:List UInt8 => by cases l_ <;> rfl:∀ l_:List UInt8,l_.isEmpty=!(l_ != [])) _),by repeat (first|exact Drawn0.refl _|apply Drawn0.step)⟩
end Go.Proofs.YtjdjljgbfpkbdaaGreatDoor.Q
end
section
namespace Go.Proofs.YtjdjljgbfpkbdaaGreatDoor.Q
open Go.RowKit Go.Proofs.YtjdjljgbfpkbdaaGreatDoorW.PrintWords Go.Proofs.YtjdjljgbfpkbdaaGreatDoorW.PrintLast Go.Proofs.YtjdjljgbfpkbdaaGreatDoorW.PrintMore
attribute [local go_sem] max2_int min2_int max_two min_two max_three min_three max_four min_four
set_option linter.unusedVariables false
set_option linter.unusedSimpArgs false
mutual
def transhumanceref7_line.j0:Nat→ByteArray→Bool→Option (Bool × Int × ByteArray × Bool)
 | 0,_,_ => none
 | k+1,x0,x24 => if x24=true then (some (false,0,(⟨#[]⟩:ByteArray),false)) else (transhumanceref7_line.l0 k x0 2)
def transhumanceref7_line.j2:Nat→ByteArray→Int→Option (Bool × Int × ByteArray × Bool)
 | 0,_,_ => none
 | k+1,x0,x6 => if 2≤x6 then (if x6≤(x0.size:Int) then ((transhumanceref6_Key.f k (x0.extract 2 (x6:Int).toNat)).bind fun t134 => (if t134<0 then (transhumanceref7_line.j3 k x0 x6 t134 true) else (if (wrap64 (x6+2)) > (x0.size:Int) then (transhumanceref7_line.j3 k x0 x6 t134 true) else (if 0≤x6 then (if x6≤(wrap64 (x6+2)) then (if (wrap64 (x6+2))≤(x0.size:Int) then (transhumanceref7_line.j3 k x0 x6 t134 ((x0.extract (x6:Int).toNat ((wrap64 (x6+2)):Int).toNat).toList != ([58,32]:List UInt8))) else (none)) else (none)) else (none))))) else (none)) else (none)
def transhumanceref7_line.j3:Nat→ByteArray→Int→Int→Bool→Option (Bool × Int × ByteArray × Bool)
 | 0,_,_,_,_ => none
 | k+1,x0,x6,x7,x63 => if x63=true then (some (false,0,(⟨#[]⟩:ByteArray),false)) else (if 0≤(wrap64 (x6+2)) then (if (wrap64 (x6+2))≤(x0.size:Int) then ((transhumanceref7_plain.f k (x0.extract ((wrap64 (x6+2)):Int).toNat x0.size)).bind fun t135 => (if t135=true then (if 0<(x0.size:Int) then (some (((bt x0 0) == 45),x7,x0.extract ((wrap64 (x6+2)):Int).toNat x0.size,true)) else (none)) else ((transhumanceref1_Unquote.f k (x0.extract ((wrap64 (x6+2)):Int).toNat x0.size)).bind fun bt136 => (if 0<(x0.size:Int) then (if bt136.2.2=true then (some (((bt x0 0) == 45),x7,bt136.1,(bt136.2.1 == ((x0.extract ((wrap64 (x6+2)):Int).toNat x0.size).size:Int)))) else (some (((bt x0 0) == 45),x7,bt136.1,false))) else (none))))) else (none)) else (none))
def transhumanceref7_line.l0:Nat→ByteArray→Int→Option (Bool × Int × ByteArray × Bool)
 | 0,_,_ => none
 | k+1,x0,x6 => if x6<(x0.size:Int) then (if 0≤x6 then (if (bt x0 x6) ≥ 97 then (if (bt x0 x6)≤122 then (transhumanceref7_line.l0 k x0 (wrap64 (x6+1))) else (transhumanceref7_line.j2 k x0 x6)) else (transhumanceref7_line.j2 k x0 x6)) else (none)) else (transhumanceref7_line.j2 k x0 x6)
end
def transhumanceref7_line.f (k:Nat) (a0:ByteArray):Option (Bool × Int × ByteArray × Bool):=if (a0.size:Int)<3 then (transhumanceref7_line.j0 k a0 true) else (if 0≤2 then (if 2≤(a0.size:Int) then (if (a0.extract 0 2).toList=([45,32]:List UInt8) then (transhumanceref7_line.j0 k a0 false) else (transhumanceref7_line.j0 k a0 ((a0.extract 0 2).toList != ([32,32]:List UInt8)))) else (none)) else (none))
set_option maxHeartbeats 8000000 in
set_option maxRecDepth 100000 in
theorem transhumanceref7_line.calls (k:Nat) (a0:ByteArray) (r1:Bool) (r2:Int) (r3:ByteArray) (r4:Bool) (w:World) (h:transhumanceref7_line.f k a0=some (r1,r2,r3,r4)) :
  Calls Tryz.prog 67 #[.string a0] w fun e w' => e=.returned (.tuple #[.bool r1,.int .i64 r2,.string r3,.bool r4])∧Below w.heap.size w w':=by
 have HB:=Aside0.mk (Below.refl w.heap.size w)
 have H:(if (a0.size:Int)<3 then (transhumanceref7_line.j0 k a0 true) else (if 0≤2 then (if 2≤(a0.size:Int) then (if (a0.extract 0 2).toList=([45,32]:List UInt8) then (transhumanceref7_line.j0 k a0 false) else (transhumanceref7_line.j0 k a0 ((a0.extract 0 2).toList != ([32,32]:List UInt8)))) else (none)) else (none)))=some (r1,r2,r3,r4):=h
 clear h
 have HC2:=Aside0.mk H
 clear H
 go_enter Tryz.func67,Tryz.ntmps67
 go_upto_region 1 with (fail)
 go_cut [24] (fun v24 wc => ∃ (kq:Nat) (x24_1:Bool),v24=.bool x24_1∧Aside0 (transhumanceref7_line.j0 kq a0 x24_1=some (r1,r2,r3,r4))∧Aside0 (kq≤k)∧Aside0 (Below w.heap.size w wc))
 case first =>
  have H:=HC2.out
  clear HC2
  by_cases c3:(a0.size:Int)<3
  ·rw [if_pos c3] at H
   have c3b0:decide ((a0.size:Int)<3)=true:=decide_eq_true c3
   have c3b1:decide (a0.size<3)=true:=decide_eq_true (by omega)
   clear c3
   (first|rw [c3b0]|(simp only [i64_w,i32_w];rw [c3b0])|skip)
   have H':=Aside0.mk H
   clear H
   go_wp2
   go_meet
   case rel => exact ⟨_,(true),(by first|rfl|(simp;done)|(simp [*];done)|(simp;exact (fun l_:List UInt8 => by cases l_ <;> rfl:∀ l_:List UInt8,l_.isEmpty=!(l_ != [])) _)),H',⟨by first|omega|exact Nat.le_refl _⟩,⟨by repeat (first|(with_reducible first|exact HB.out|apply below_alloc|apply pw_below_drewN|apply below_drew1)|exact HB.out)⟩⟩
  ·rw [if_neg c3] at H
   have c3b0:decide ((a0.size:Int)<3)=false:=decide_eq_false c3
   have c3b1:decide (a0.size<3)=false:=decide_eq_false (by omega)
   clear c3
   (first|rw [c3b0]|(simp only [i64_w,i32_w];rw [c3b0])|skip)
   by_cases c4:0≤2
   ·rw [if_pos c4] at H
    have c4b0:=eq_true c4
    have c4b1:decide (0≤2)=true:=decide_eq_true c4
    clear c4
    by_cases c5:2≤(a0.size:Int)
    ·rw [if_pos c5] at H
     have c5b0:=eq_true c5
     have c5b1:decide (2≤(a0.size:Int))=true:=decide_eq_true c5
     clear c5
     by_cases c6:(a0.extract 0 2).toList=([45,32]:List UInt8)
     ·rw [if_pos c6] at H
      have c6b0:((a0.extract 0 2).toList == ([45,32]:List UInt8))=true:=beq_iff_eq.mpr c6
      have c6b1:((a0.extract 0 2).toList != ([45,32]:List UInt8))=false:=bne_eq_false_iff_eq.mpr c6
      clear c6
      have H':=Aside0.mk H
      clear H
      go_wp2
      go_meet
      case rel => exact ⟨_,(false),(by first|rfl|(simp;done)|(simp [*];done)|(simp;exact (fun l_:List UInt8 => by cases l_ <;> rfl:∀ l_:List UInt8,l_.isEmpty=!(l_ != [])) _)),H',⟨by first|omega|exact Nat.le_refl _⟩,⟨by repeat (first|(with_reducible first|exact HB.out|apply below_alloc|apply pw_below_drewN|apply below_drew1)|exact HB.out)⟩⟩
     ·rw [if_neg c6] at H
      have c6b0:((a0.extract 0 2).toList == ([45,32]:List UInt8))=false:=beq_eq_false_iff_ne.mpr c6
      have c6b1:((a0.extract 0 2).toList != ([45,32]:List UInt8))=true:=bne_iff_ne.mpr c6
      have c7b0:=eq_true (of_decide_eq_true (by first|(with_reducible assumption)|assumption):0≤2)
      have c8b0:=eq_true (of_decide_eq_true (by first|(with_reducible assumption)|assumption):2≤(a0.size:Int))
      have H':=Aside0.mk H
      clear H
      go_wp2
      go_meet
      case rel => exact ⟨_,(((a0.extract 0 2).toList != ([32,32]:List UInt8))),(by first|rfl|(simp;done)|(simp [*];done)|(simp;exact (fun l_:List UInt8 => by cases l_ <;> rfl:∀ l_:List UInt8,l_.isEmpty=!(l_ != [])) _)),H',⟨by first|omega|exact Nat.le_refl _⟩,⟨by repeat (first|(with_reducible first|exact HB.out|apply below_alloc|apply pw_below_drewN|apply below_drew1)|exact HB.out)⟩⟩
    ·rw [if_neg c5] at H
     exact absurd H (by simp)
   ·rw [if_neg c4] at H
    exact absurd H (by simp)
 case rest =>
  clear HC2
  try clear p2
  try clear c3
  try clear c3b0
  try clear c3b1
  try clear c4
  try clear c4b0
  try clear c4b1
  try clear c5
  try clear c5b0
  try clear c5b1
  try clear c6
  try clear c6b0
  try clear c6b1
  try clear c7
  try clear c7b0
  try clear c8
  try clear c8b0
  obtain ⟨kq,x24_1,rfl,HA,HJ1,HB⟩:=hcut
  cases kq with
  | zero => exact absurd HA.out (by simp [transhumanceref7_line.j0])
  | succ kj1 =>
   have H:=HA.out
   clear HA
   simp only [transhumanceref7_line.j0] at H
   by_cases c9:x24_1=true
   ·subst c9
    have H1:(some (false,0,(⟨#[]⟩:ByteArray),false))=some (r1,r2,r3,r4):=by rw [if_pos rfl] at H;exact H
    clear H
    have H:=H1
    clear H1
    simp only [Option.some.injEq,Prod.mk.injEq] at H
    obtain ⟨rfl,rfl,rfl,rfl⟩:=H
    go_wp2
    refine bodyPost_ret (results_list (rs:=[.tmp 2,.tmp 3,.tmp 4,.tmp 5]) rfl (by simp) (.tmp (.tmp (.tmp (.tmp .nil))))) rfl ?_
    exact ⟨by first|rfl|(simp [errW_none,errW_some] <;> rfl)|(simp [*,errW_none,errW_some] <;> rfl),by repeat (first|(with_reducible first|exact HB.out|apply below_alloc|apply pw_below_drewN|apply below_drew1)|exact HB.out)⟩
   ·replace c9:=Bool.eq_false_iff.mpr c9
    subst c9
    have H1:(transhumanceref7_line.l0 kj1 a0 2)=some (r1,r2,r3,r4):=by rw [if_neg (show ¬ (false=true) by decide)] at H;exact H
    clear H
    have H:=H1
    clear H1
    have HC10:=Aside0.mk H
    clear H
    go_upto_block 0 with (fail)
    go_cut [6] (fun v6 wc => ∃ (kq:Nat) (x6_9:Int),v6=.int .i64 x6_9∧Aside0 (transhumanceref7_line.j2 kq a0 x6_9=some (r1,r2,r3,r4))∧Aside0 (kq≤kj1)∧Aside0 (Below w.heap.size w wc))
    case first =>
     have H:=HC10.out
     clear HC10
     have H':=Aside0.mk H
     clear H
     go_wp2
     go_loopg [6] kj1 (fun kq v6 w' => ∃ (x6_2:Int),v6=.int .i64 x6_2∧Aside0 (transhumanceref7_line.l0 kq a0 x6_2=some (r1,r2,r3,r4))∧Aside0 (kq≤kj1)∧Aside0 (Below w.heap.size w w'))
     case atStart => exact ⟨(2),(by first|rfl|(simp;done)|(simp [*];done)|(simp;exact (fun l_:List UInt8 => by cases l_ <;> rfl:∀ l_:List UInt8,l_.isEmpty=!(l_ != [])) _)),H',⟨Nat.le_refl _⟩,⟨by repeat (first|(with_reducible first|exact HB.out|apply below_alloc|apply pw_below_drewN|apply below_drew1)|exact HB.out)⟩⟩
     case round =>
      clear H'
      try clear p2
      try clear c3
      try clear c3b0
      try clear c3b1
      try clear c4
      try clear c4b0
      try clear c4b1
      try clear c5
      try clear c5b0
      try clear c5b1
      try clear c6
      try clear c6b0
      try clear c6b1
      try clear c7
      try clear c7b0
      try clear c8
      try clear c8b0
      try clear c9
      try clear p2
      obtain ⟨x6_2,rfl,HA,HK2,HB⟩:=hrel
      cases gk with
      | zero => exact absurd HA.out (by simp [transhumanceref7_line.l0])
      | succ k2 =>
       have H:=HA.out
       clear HA
       simp only [transhumanceref7_line.l0] at H
       by_cases c11:x6_2<(a0.size:Int)
       ·rw [if_pos c11] at H
        have c11b0:decide (x6_2<(a0.size:Int))=true:=decide_eq_true c11
        clear c11
        (first|rw [c11b0]|(simp only [i64_w,i32_w];rw [c11b0])|skip)
        by_cases c12:0≤x6_2
        ·rw [if_pos c12] at H
         have c12b0:decide (0≤x6_2)=true:=decide_eq_true c12
         clear c12
         by_cases c14:(bt a0 x6_2) ≥ 97
         ·rw [if_pos c14] at H
          have c14b0:decide (97≤(bt a0 x6_2))=true:=decide_eq_true c14
          clear c14
          by_cases c16:(bt a0 x6_2)≤122
          ·rw [if_pos c16] at H
           have c16b0:decide ((bt a0 x6_2)≤122)=true:=decide_eq_true c16
           clear c16
           have H':=Aside0.mk H
           clear H
           have p13:0≤(x6_2:Int):=of_decide_eq_true (by first|(with_reducible assumption)|assumption)
           have q13:x6_2<(a0.size:Int):=of_decide_eq_true (by first|(with_reducible assumption)|assumption)
           have hx13:=bt_at a0 x6_2
           replace p13:=eq_true p13
           replace q13:=eq_true q13
           have p15:0≤(x6_2:Int):=of_decide_eq_true (by first|(with_reducible assumption)|assumption)
           have q15:x6_2<(a0.size:Int):=of_decide_eq_true (by first|(with_reducible assumption)|assumption)
           have hx15:=bt_at a0 x6_2
           replace p15:=eq_true p15
           replace q15:=eq_true q15
           go_wp2
           go_roundg k2
           case measure => have:=HJ1.out;have:=HK2.out;omega
           case rel => exact ⟨(wrap64 (x6_2+1)),(by first|rfl|(simp;done)|(simp [*];done)|(simp;exact (fun l_:List UInt8 => by cases l_ <;> rfl:∀ l_:List UInt8,l_.isEmpty=!(l_ != [])) _)),H',⟨by have:=HJ1.out;have:=HK2.out;omega⟩,⟨by repeat (first|(with_reducible first|exact HB.out|apply below_alloc|apply pw_below_drewN|apply below_drew1)|exact HB.out)⟩⟩
          ·rw [if_neg c16] at H
           have c16b0:decide ((bt a0 x6_2)≤122)=false:=decide_eq_false c16
           clear c16
           have H':=Aside0.mk H
           clear H
           have p13:0≤(x6_2:Int):=of_decide_eq_true (by first|(with_reducible assumption)|assumption)
           have q13:x6_2<(a0.size:Int):=of_decide_eq_true (by first|(with_reducible assumption)|assumption)
           have hx13:=bt_at a0 x6_2
           replace p13:=eq_true p13
           replace q13:=eq_true q13
           have p15:0≤(x6_2:Int):=of_decide_eq_true (by first|(with_reducible assumption)|assumption)
           have q15:x6_2<(a0.size:Int):=of_decide_eq_true (by first|(with_reducible assumption)|assumption)
           have hx15:=bt_at a0 x6_2
           replace p15:=eq_true p15
           replace q15:=eq_true q15
           go_wp2
           go_meet
           case rel => exact ⟨_,(x6_2),(by first|rfl|(simp;done)|(simp [*];done)|(simp;exact (fun l_:List UInt8 => by cases l_ <;> rfl:∀ l_:List UInt8,l_.isEmpty=!(l_ != [])) _)),H',⟨by have:=HJ1.out;have:=HK2.out;first|omega|exact Nat.le_refl _⟩,⟨by repeat (first|(with_reducible first|exact HB.out|apply below_alloc|apply pw_below_drewN|apply below_drew1)|exact HB.out)⟩⟩
         ·rw [if_neg c14] at H
          have c14b0:decide (97≤(bt a0 x6_2))=false:=decide_eq_false c14
          clear c14
          have H':=Aside0.mk H
          clear H
          have p13:0≤(x6_2:Int):=of_decide_eq_true (by first|(with_reducible assumption)|assumption)
          have q13:x6_2<(a0.size:Int):=of_decide_eq_true (by first|(with_reducible assumption)|assumption)
          have hx13:=bt_at a0 x6_2
          replace p13:=eq_true p13
          replace q13:=eq_true q13
          go_wp2
          go_meet
          case rel => exact ⟨_,(x6_2),(by first|rfl|(simp;done)|(simp [*];done)|(simp;exact (fun l_:List UInt8 => by cases l_ <;> rfl:∀ l_:List UInt8,l_.isEmpty=!(l_ != [])) _)),H',⟨by have:=HJ1.out;have:=HK2.out;first|omega|exact Nat.le_refl _⟩,⟨by repeat (first|(with_reducible first|exact HB.out|apply below_alloc|apply pw_below_drewN|apply below_drew1)|exact HB.out)⟩⟩
        ·rw [if_neg c12] at H
         exact absurd H (by simp)
       ·rw [if_neg c11] at H
        have c11b0:decide (x6_2<(a0.size:Int))=false:=decide_eq_false c11
        clear c11
        (first|rw [c11b0]|(simp only [i64_w,i32_w];rw [c11b0])|skip)
        have H':=Aside0.mk H
        clear H
        go_wp2
        go_meet
        case rel => exact ⟨_,(x6_2),(by first|rfl|(simp;done)|(simp [*];done)|(simp;exact (fun l_:List UInt8 => by cases l_ <;> rfl:∀ l_:List UInt8,l_.isEmpty=!(l_ != [])) _)),H',⟨by have:=HJ1.out;have:=HK2.out;first|omega|exact Nat.le_refl _⟩,⟨by repeat (first|(with_reducible first|exact HB.out|apply below_alloc|apply pw_below_drewN|apply below_drew1)|exact HB.out)⟩⟩
    case rest =>
     clear HC10
     try clear c1
     try clear p1
     try clear q1
     try clear hx1
     try clear p2
     try clear c3
     try clear c3b0
     try clear c3b1
     try clear c4
     try clear c4b0
     try clear c4b1
     try clear c5
     try clear c5b0
     try clear c5b1
     try clear c6
     try clear c6b0
     try clear c6b1
     try clear p6
     try clear c7
     try clear c7b0
     try clear c8
     try clear c8b0
     try clear c9
     try clear c11
     try clear c11b0
     try clear c12
     try clear c12b0
     try clear p13
     try clear q13
     try clear hx13
     try clear c14
     try clear c14b0
     try clear p15
     try clear q15
     try clear hx15
     try clear c16
     try clear c16b0
     try clear p13
     try clear p15
     try clear p2
     try clear q13
     try clear q15
     obtain ⟨kq,x6_9,rfl,HA,HJ9,HB⟩:=hcut
     cases kq with
     | zero => exact absurd HA.out (by simp [transhumanceref7_line.j2])
     | succ kj9 =>
      have H:=HA.out
      clear HA
      simp only [transhumanceref7_line.j2] at H
      by_cases c17:2≤x6_9
      ·rw [if_pos c17] at H
       have c17b0:=eq_true c17
       have c17b1:decide (2≤x6_9)=true:=decide_eq_true c17
       clear c17
       by_cases c18:x6_9≤(a0.size:Int)
       ·rw [if_pos c18] at H
        have c18b0:=eq_true c18
        have c18b1:decide (x6_9≤(a0.size:Int))=true:=decide_eq_true c18
        clear c18
        replace H:=Option.bind_eq_some_iff.mp H
        obtain ⟨t134,A190,H⟩:=H
        replace H:(if t134<0 then (transhumanceref7_line.j3 kj9 a0 x6_9 t134 true) else (if (wrap64 (x6_9+2)) > (a0.size:Int) then (transhumanceref7_line.j3 kj9 a0 x6_9 t134 true) else (if 0≤x6_9 then (if x6_9≤(wrap64 (x6_9+2)) then (if (wrap64 (x6_9+2))≤(a0.size:Int) then (transhumanceref7_line.j3 kj9 a0 x6_9 t134 ((a0.extract (x6_9:Int).toNat ((wrap64 (x6_9+2)):Int).toNat).toList != ([58,32]:List UInt8))) else (none)) else (none)) else (none))))=some (r1,r2,r3,r4):=H
        have A19:=Aside0.mk A190
        clear A190
        have HC20:=Aside0.mk H
        clear H
        go_upto_region 7 with (first|((with_reducible refine gate_callee (f:=95) rfl ?_);refine goesL_ (some 46) rfl rfl Tryz.func95 (by kernel_rfl) rfl #[.string (a0.extract 2 (x6_9:Int).toNat)] rfl (by (try simp only [List.map_toArray,List.map_cons,List.map_nil]);first|done|rfl|(simp only [List.length_drop,List.length_take];rfl)) ?_;(with_reducible refine (transhumanceref6_Key.calls kj9 (a0.extract 2 (x6_9:Int).toNat) t134 _ A19.out).mono ?_);rintro e w21 ⟨rfl,hb⟩;refine ⟨_,rfl,?_⟩;have n0_:=Aside0.mk (below_step (by repeat (first|(with_reducible first|exact HB.out|apply below_alloc|apply pw_below_drewN|apply below_drew1)|exact HB.out)) hb);clear HB;have HB:=n0_;clear n0_;(try clear hb);(try clear hb2);(try clear hk);(try clear hi)))
        (try simp only [Act.put,List.setIfInBounds_toArray,List.set_cons_zero,List.set_cons_succ])
        go_cut [63] (fun v63 wc => ∃ (kq:Nat) (x63_19:Bool),v63=.bool x63_19∧Aside0 (transhumanceref7_line.j3 kq a0 x6_9 t134 x63_19=some (r1,r2,r3,r4))∧Aside0 (kq≤kj9)∧Aside0 (Below w.heap.size w wc))
        case first =>
         have H:=HC20.out
         clear HC20
         by_cases c22:t134<0
         ·rw [if_pos c22] at H
          have c22b0:decide (t134<0)=true:=decide_eq_true c22
          clear c22
          (first|rw [c22b0]|(simp only [i64_w,i32_w];rw [c22b0])|skip)
          have H':=Aside0.mk H
          clear H
          go_wp2
          go_meet
          case rel => exact ⟨_,(true),(by first|rfl|(simp;done)|(simp [*];done)|(simp;exact (fun l_:List UInt8 => by cases l_ <;> rfl:∀ l_:List UInt8,l_.isEmpty=!(l_ != [])) _)),H',⟨by have:=HJ1.out;have:=HJ9.out;first|omega|exact Nat.le_refl _⟩,⟨by repeat (first|(with_reducible first|exact HB.out|apply below_alloc|apply pw_below_drewN|apply below_drew1)|exact HB.out)⟩⟩
         ·rw [if_neg c22] at H
          have c22b0:decide (t134<0)=false:=decide_eq_false c22
          clear c22
          (first|rw [c22b0]|(simp only [i64_w,i32_w];rw [c22b0])|skip)
          by_cases c23:(wrap64 (x6_9+2)) > (a0.size:Int)
          ·rw [if_pos c23] at H
           have c23b0:decide ((a0.size:Int)<(wrap64 (x6_9+2)))=true:=decide_eq_true c23
           clear c23
           have H':=Aside0.mk H
           clear H
           go_wp2
           go_meet
           case rel => exact ⟨_,(true),(by first|rfl|(simp;done)|(simp [*];done)|(simp;exact (fun l_:List UInt8 => by cases l_ <;> rfl:∀ l_:List UInt8,l_.isEmpty=!(l_ != [])) _)),H',⟨by have:=HJ1.out;have:=HJ9.out;first|omega|exact Nat.le_refl _⟩,⟨by repeat (first|(with_reducible first|exact HB.out|apply below_alloc|apply pw_below_drewN|apply below_drew1)|exact HB.out)⟩⟩
          ·rw [if_neg c23] at H
           have c23b0:decide ((a0.size:Int)<(wrap64 (x6_9+2)))=false:=decide_eq_false c23
           clear c23
           by_cases c24:0≤x6_9
           ·rw [if_pos c24] at H
            have c24b0:=eq_true c24
            have c24b1:decide (0≤x6_9)=true:=decide_eq_true c24
            clear c24
            by_cases c25:x6_9≤(wrap64 (x6_9+2))
            ·rw [if_pos c25] at H
             have c25b0:=eq_true c25
             have c25b1:decide (x6_9≤(wrap64 (x6_9+2)))=true:=decide_eq_true c25
             by_cases c26:(wrap64 (x6_9+2))≤(a0.size:Int)
             ·rw [if_pos c26] at H
              have c26b0:=eq_true c26
              have c26b1:decide ((wrap64 (x6_9+2))≤(a0.size:Int))=true:=decide_eq_true c26
              have H':=Aside0.mk H
              clear H
              go_wp2
              go_meet
              case rel => exact ⟨_,(((a0.extract (x6_9:Int).toNat ((wrap64 (x6_9+2)):Int).toNat).toList != ([58,32]:List UInt8))),(by first|rfl|(simp;done)|(simp [*];done)|(simp;exact (fun l_:List UInt8 => by cases l_ <;> rfl:∀ l_:List UInt8,l_.isEmpty=!(l_ != [])) _)),H',⟨by have:=HJ1.out;have:=HJ9.out;first|omega|exact Nat.le_refl _⟩,⟨by repeat (first|(with_reducible first|exact HB.out|apply below_alloc|apply pw_below_drewN|apply below_drew1)|exact HB.out)⟩⟩
             ·rw [if_neg c26] at H
              exact absurd H (by simp)
            ·rw [if_neg c25] at H
             exact absurd H (by simp)
           ·rw [if_neg c24] at H
            exact absurd H (by simp)
        case rest =>
         clear HC20
         try clear c1
         try clear p1
         try clear q1
         try clear hx1
         try clear c2
         try clear p2
         try clear c3
         try clear c3b0
         try clear c3b1
         try clear c4
         try clear c4b0
         try clear c4b1
         try clear c5
         try clear c5b0
         try clear c5b1
         try clear c6
         try clear c6b0
         try clear c6b1
         try clear p6
         try clear c7
         try clear c7b0
         try clear c8
         try clear c8b0
         try clear c9
         try clear c11
         try clear c11b0
         try clear c12
         try clear c12b0
         try clear p13
         try clear q13
         try clear hx13
         try clear c14
         try clear c14b0
         try clear p15
         try clear q15
         try clear hx15
         try clear c16
         try clear c16b0
         try clear c17
         try clear c17b0
         try clear c17b1
         try clear c18
         try clear c18b0
         try clear c18b1
         try clear c22
         try clear c22b0
         try clear c23
         try clear c23b0
         try clear c24
         try clear c24b0
         try clear c24b1
         try clear c25
         try clear c25b0
         try clear c25b1
         try clear c26
         try clear c26b0
         try clear c26b1
         try clear p1
         try clear p13
         try clear p15
         try clear p2
         try clear p6
         try clear q1
         try clear q13
         try clear q15
         obtain ⟨kq,x63_19,rfl,HA,HJ19,HB⟩:=hcut
         cases kq with
         | zero => exact absurd HA.out (by simp [transhumanceref7_line.j3])
         | succ kj19 =>
          have H:=HA.out
          clear HA
          simp only [transhumanceref7_line.j3] at H
          by_cases c27:x63_19=true
          ·subst c27
           have H1:(some (false,0,(⟨#[]⟩:ByteArray),false))=some (r1,r2,r3,r4):=by rw [if_pos rfl] at H;exact H
           clear H
           have H:=H1
           clear H1
           simp only [Option.some.injEq,Prod.mk.injEq] at H
           obtain ⟨rfl,rfl,rfl,rfl⟩:=H
           go_wp2
           refine bodyPost_ret (results_list (rs:=[.tmp 2,.tmp 3,.tmp 4,.tmp 5]) rfl (by simp) (.tmp (.tmp (.tmp (.tmp .nil))))) rfl ?_
           exact ⟨by first|rfl|(simp [errW_none,errW_some] <;> rfl)|(simp [*,errW_none,errW_some] <;> rfl),by repeat (first|(with_reducible first|exact HB.out|apply below_alloc|apply pw_below_drewN|apply below_drew1)|exact HB.out)⟩
          ·replace c27:=Bool.eq_false_iff.mpr c27
           subst c27
           have H1:(if 0≤(wrap64 (x6_9+2)) then (if (wrap64 (x6_9+2))≤(a0.size:Int) then ((transhumanceref7_plain.f kj19 (a0.extract ((wrap64 (x6_9+2)):Int).toNat a0.size)).bind fun t135 => (if t135=true then (if 0<(a0.size:Int) then (some (((bt a0 0) == 45),t134,a0.extract ((wrap64 (x6_9+2)):Int).toNat a0.size,true)) else (none)) else ((transhumanceref1_Unquote.f kj19 (a0.extract ((wrap64 (x6_9+2)):Int).toNat a0.size)).bind fun bt136 => (if 0<(a0.size:Int) then (if bt136.2.2=true then (some (((bt a0 0) == 45),t134,bt136.1,(bt136.2.1 == ((a0.extract ((wrap64 (x6_9+2)):Int).toNat a0.size).size:Int)))) else (some (((bt a0 0) == 45),t134,bt136.1,false))) else (none))))) else (none)) else (none))=some (r1,r2,r3,r4):=by rw [if_neg (show ¬ (false=true) by decide)] at H;exact H
           clear H
           have H:=H1
           clear H1
           obtain ⟨ji28,hji28⟩:∃ j_:Int,(wrap64 (x6_9+2))=j_:=⟨_,rfl⟩
           replace H:(if 0≤(ji28) then (if (ji28)≤(a0.size:Int) then ((transhumanceref7_plain.f kj19 (a0.extract ((ji28):Int).toNat a0.size)).bind fun t135 => (if t135=true then (if 0<(a0.size:Int) then (some (((bt a0 0) == 45),t134,a0.extract ((ji28):Int).toNat a0.size,true)) else (none)) else ((transhumanceref1_Unquote.f kj19 (a0.extract ((ji28):Int).toNat a0.size)).bind fun bt136 => (if 0<(a0.size:Int) then (if bt136.2.2=true then (some (((bt a0 0) == 45),t134,bt136.1,(bt136.2.1 == ((a0.extract ((ji28):Int).toNat a0.size).size:Int)))) else (some (((bt a0 0) == 45),t134,bt136.1,false))) else (none))))) else (none)) else (none))=some (r1,r2,r3,r4):=by first|(rw [hji28] at H;exact H)|(simp only [hji28] at H ⊢;exact H)
           have hji28w:(IntKind.i64.wrap (x6_9+2))=ji28:=(i64_w _).trans hji28
           by_cases c29:0≤(ji28)
           ·rw [if_pos c29] at H
            have c29b0:=eq_true c29
            have c29b1:decide (0≤(ji28))=true:=decide_eq_true c29
            clear c29
            by_cases c30:(ji28)≤(a0.size:Int)
            ·rw [if_pos c30] at H
             have c30b0:=eq_true c30
             have c30b1:decide ((ji28)≤(a0.size:Int))=true:=decide_eq_true c30
             clear c30
             replace H:=Option.bind_eq_some_iff.mp H
             obtain ⟨t135,A310,H⟩:=H
             replace H:(if t135=true then (if 0<(a0.size:Int) then (some (((bt a0 0) == 45),t134,a0.extract ((ji28):Int).toNat a0.size,true)) else (none)) else ((transhumanceref1_Unquote.f kj19 (a0.extract ((ji28):Int).toNat a0.size)).bind fun bt136 => (if 0<(a0.size:Int) then (if bt136.2.2=true then (some (((bt a0 0) == 45),t134,bt136.1,(bt136.2.1 == ((a0.extract ((ji28):Int).toNat a0.size).size:Int)))) else (some (((bt a0 0) == 45),t134,bt136.1,false))) else (none))))=some (r1,r2,r3,r4):=H
             have A31:=Aside0.mk A310
             clear A310
             by_cases c32:t135=true
             ·subst c32
              have H1:(if 0<(a0.size:Int) then (some (((bt a0 0) == 45),t134,a0.extract ((ji28):Int).toNat a0.size,true)) else (none))=some (r1,r2,r3,r4):=by rw [if_pos rfl] at H;exact H
              clear H
              have H:=H1
              clear H1
              by_cases c33:0<(a0.size:Int)
              ·rw [if_pos c33] at H
               have c33b0:decide (0<(a0.size:Int))=true:=decide_eq_true c33
               have c33b1:decide (0<a0.size)=true:=decide_eq_true (by omega)
               clear c33
               simp only [Option.some.injEq,Prod.mk.injEq] at H
               obtain ⟨rfl,rfl,rfl,rfl⟩:=H
               go_wp2_with (first|((with_reducible refine gate_callee (f:=34) rfl ?_);refine goesL_ (some 69) rfl rfl Tryz.func34 (by kernel_rfl) rfl #[.string (a0.extract ((ji28):Int).toNat a0.size)] rfl (by (try simp only [List.map_toArray,List.map_cons,List.map_nil]);first|done|(simp only [hji28];rfl)|rfl|(simp only [List.length_drop,List.length_take];rfl)) ?_;(with_reducible refine (transhumanceref7_plain.calls kj19 (a0.extract ((ji28):Int).toNat a0.size) true _ A31.out).mono ?_);rintro e w' ⟨rfl,⟨nd,rfl⟩⟩;refine ⟨_,rfl,?_⟩;have p34:0≤(0:Int):=(by omega);have q34:0<a0.size:=(by have:(0:Int)<(a0.size:Int):=of_decide_eq_true (by first|(with_reducible assumption)|assumption);omega);have hx34:∀ h:0<a0.size,((a0[0]'h).toNat:Int)=bt a0 0:=bt_at a0 0;clear p34;have qi34:(0<(a0.size:Int))=True:=eq_true (of_decide_eq_true (by first|(with_reducible assumption)|assumption));replace q34:=eq_true q34))
               refine bodyPost_ret (results_list (rs:=[.tmp 2,.tmp 3,.tmp 4,.tmp 5]) rfl (by simp) (.tmp (.tmp (.tmp (.tmp .nil))))) rfl ?_
               exact ⟨by first|rfl|(simp [errW_none,errW_some] <;> rfl)|(simp only [← hji28];first|rfl|(simp [errW_none,errW_some] <;> rfl))|(simp [*,errW_none,errW_some] <;> rfl),by repeat (first|(with_reducible first|exact HB.out|apply below_alloc|apply pw_below_drewN|apply below_drew1)|exact HB.out)⟩
              ·rw [if_neg c33] at H
               exact absurd H (by simp)
             ·replace c32:=Bool.eq_false_iff.mpr c32
              subst c32
              have H1:((transhumanceref1_Unquote.f kj19 (a0.extract ((ji28):Int).toNat a0.size)).bind fun bt136 => (if 0<(a0.size:Int) then (if bt136.2.2=true then (some (((bt a0 0) == 45),t134,bt136.1,(bt136.2.1 == ((a0.extract ((ji28):Int).toNat a0.size).size:Int)))) else (some (((bt a0 0) == 45),t134,bt136.1,false))) else (none)))=some (r1,r2,r3,r4):=by rw [if_neg (show ¬ (false=true) by decide)] at H;exact H
              clear H
              have H:=H1
              clear H1
              replace H:=Option.bind_eq_some_iff.mp H
              obtain ⟨⟨t136,t137,t138⟩,A350,H⟩:=H
              replace H:(if 0<(a0.size:Int) then (if t138=true then (some (((bt a0 0) == 45),t134,t136,(t137 == ((a0.extract ((ji28):Int).toNat a0.size).size:Int)))) else (some (((bt a0 0) == 45),t134,t136,false))) else (none))=some (r1,r2,r3,r4):=H
              have A35:=Aside0.mk A350
              clear A350
              by_cases c36:0<(a0.size:Int)
              ·rw [if_pos c36] at H
               have c36b0:decide (0<(a0.size:Int))=true:=decide_eq_true c36
               have c36b1:decide (0<a0.size)=true:=decide_eq_true (by omega)
               clear c36
               by_cases c38:t138=true
               ·subst c38
                have H1:(some (((bt a0 0) == 45),t134,t136,(t137 == ((a0.extract ((ji28):Int).toNat a0.size).size:Int))))=some (r1,r2,r3,r4):=by rw [if_pos rfl] at H;exact H
                clear H
                have H:=H1
                clear H1
                simp only [Option.some.injEq,Prod.mk.injEq] at H
                obtain ⟨rfl,rfl,rfl,rfl⟩:=H
                go_wp2_with (first|((with_reducible refine gate_callee (f:=34) rfl ?_);refine goesL_ (some 69) rfl rfl Tryz.func34 (by kernel_rfl) rfl #[.string (a0.extract ((ji28):Int).toNat a0.size)] rfl (by (try simp only [List.map_toArray,List.map_cons,List.map_nil]);first|done|(simp only [hji28];rfl)|rfl|(simp only [List.length_drop,List.length_take];rfl)) ?_;(with_reducible refine (transhumanceref7_plain.calls kj19 (a0.extract ((ji28):Int).toNat a0.size) false _ A31.out).mono ?_);rintro e w' ⟨rfl,⟨nd,rfl⟩⟩;refine ⟨_,rfl,?_⟩)|((with_reducible refine gate_callee (f:=96) rfl ?_);refine goesL_ (some 77) rfl rfl Tryz.func96 (by kernel_rfl) rfl #[.string (a0.extract ((ji28):Int).toNat a0.size)] rfl (by (try simp only [List.map_toArray,List.map_cons,List.map_nil]);first|done|(simp only [hji28];rfl)|rfl|(simp only [List.length_drop,List.length_take];rfl)) ?_;(with_reducible refine (transhumanceref1_Unquote.calls kj19 (a0.extract ((ji28):Int).toNat a0.size) t136 t137 true _ A35.out).mono ?_);rintro e w' ⟨rfl,⟨nd,rfl⟩⟩;refine ⟨_,rfl,?_⟩;have p37:0≤(0:Int):=(by omega);have q37:0<a0.size:=(by have:(0:Int)<(a0.size:Int):=of_decide_eq_true (by first|(with_reducible assumption)|assumption);omega);have hx37:∀ h:0<a0.size,((a0[0]'h).toNat:Int)=bt a0 0:=bt_at a0 0;clear p37;have qi37:(0<(a0.size:Int))=True:=eq_true (of_decide_eq_true (by first|(with_reducible assumption)|assumption));replace q37:=eq_true q37))
                refine bodyPost_ret (results_list (rs:=[.tmp 2,.tmp 3,.tmp 4,.tmp 5]) rfl (by simp) (.tmp (.tmp (.tmp (.tmp .nil))))) rfl ?_
                exact ⟨by first|rfl|(simp [errW_none,errW_some] <;> rfl)|(simp only [← hji28];first|rfl|(simp [errW_none,errW_some] <;> rfl))|(simp [*,errW_none,errW_some] <;> rfl),by repeat (first|(with_reducible first|exact HB.out|apply below_alloc|apply pw_below_drewN|apply below_drew1)|exact HB.out)⟩
               ·replace c38:=Bool.eq_false_iff.mpr c38
                subst c38
                have H1:(some (((bt a0 0) == 45),t134,t136,false))=some (r1,r2,r3,r4):=by rw [if_neg (show ¬ (false=true) by decide)] at H;exact H
                clear H
                have H:=H1
                clear H1
                simp only [Option.some.injEq,Prod.mk.injEq] at H
                obtain ⟨rfl,rfl,rfl,rfl⟩:=H
                go_wp2_with (first|((with_reducible refine gate_callee (f:=34) rfl ?_);refine goesL_ (some 69) rfl rfl Tryz.func34 (by kernel_rfl) rfl #[.string (a0.extract ((ji28):Int).toNat a0.size)] rfl (by (try simp only [List.map_toArray,List.map_cons,List.map_nil]);first|done|(simp only [hji28];rfl)|rfl|(simp only [List.length_drop,List.length_take];rfl)) ?_;(with_reducible refine (transhumanceref7_plain.calls kj19 (a0.extract ((ji28):Int).toNat a0.size) false _ A31.out).mono ?_);rintro e w' ⟨rfl,⟨nd,rfl⟩⟩;refine ⟨_,rfl,?_⟩)|((with_reducible refine gate_callee (f:=96) rfl ?_);refine goesL_ (some 77) rfl rfl Tryz.func96 (by kernel_rfl) rfl #[.string (a0.extract ((ji28):Int).toNat a0.size)] rfl (by (try simp only [List.map_toArray,List.map_cons,List.map_nil]);first|done|(simp only [hji28];rfl)|rfl|(simp only [List.length_drop,List.length_take];rfl)) ?_;(with_reducible refine (transhumanceref1_Unquote.calls kj19 (a0.extract ((ji28):Int).toNat a0.size) t136 t137 false _ A35.out).mono ?_);rintro e w' ⟨rfl,⟨nd,rfl⟩⟩;refine ⟨_,rfl,?_⟩;have p37:0≤(0:Int):=(by omega);have q37:0<a0.size:=(by have:(0:Int)<(a0.size:Int):=of_decide_eq_true (by first|(with_reducible assumption)|assumption);omega);have hx37:∀ h:0<a0.size,((a0[0]'h).toNat:Int)=bt a0 0:=bt_at a0 0;clear p37;have qi37:(0<(a0.size:Int))=True:=eq_true (of_decide_eq_true (by first|(with_reducible assumption)|assumption));replace q37:=eq_true q37))
                refine bodyPost_ret (results_list (rs:=[.tmp 2,.tmp 3,.tmp 4,.tmp 5]) rfl (by simp) (.tmp (.tmp (.tmp (.tmp .nil))))) rfl ?_
                exact ⟨by first|rfl|(simp [errW_none,errW_some] <;> rfl)|(simp only [← hji28];first|rfl|(simp [errW_none,errW_some] <;> rfl))|(simp [*,errW_none,errW_some] <;> rfl),by repeat (first|(with_reducible first|exact HB.out|apply below_alloc|apply pw_below_drewN|apply below_drew1)|exact HB.out)⟩
              ·rw [if_neg c36] at H
               exact absurd H (by simp)
            ·rw [if_neg c30] at H
             exact absurd H (by simp)
           ·rw [if_neg c29] at H
            exact absurd H (by simp)
       ·rw [if_neg c18] at H
        exact absurd H (by simp)
      ·rw [if_neg c17] at H
       exact absurd H (by simp)
end Go.Proofs.YtjdjljgbfpkbdaaGreatDoor.Q
end
