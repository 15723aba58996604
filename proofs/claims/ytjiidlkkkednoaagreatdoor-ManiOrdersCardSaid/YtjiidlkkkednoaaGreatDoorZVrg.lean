import Derived.Test.YtjiidlkkkednoaaGreatDoorZBaseg
import Derived.Test.YtjiidlkkkednoaaGreatDoorZQ14g
import Derived.Test.YtjiidlkkkednoaaGreatDoorZQ15
import Derived.Test.YtjiidlkkkednoaaGreatDoorZVsg
import Derived.Sort.Walk0
import Derived.Test.YtjiidlkkkednoaaGreatDoorZEvg
section
namespace Go.Proofs.YtjiidlkkkednoaaGreatDoor.Q
open Go.RowKit Go.Proofs.YtjiidlkkkednoaaGreatDoorW.PrintWords Go.Proofs.YtjiidlkkkednoaaGreatDoorW.PrintLast Go.Proofs.YtjiidlkkkednoaaGreatDoorW.PrintMore
attribute [local go_sem] max2_int min2_int max_two min_two max_three min_three max_four min_four
set_option linter.unusedVariables false
set_option linter.unusedSimpArgs false
def transhumanceref2_words.l0:Nat→ByteArray→List ByteArray→Int→Int→Option (List ByteArray)
 | 0,_,_,_,_ => none
 | k+1,x0,x3,x4,x5 => if x5≤(x0.size:Int) then (if x5=(x0.size:Int) then (if 0≤x4 then (if x4≤x5 then (if x3.length<8796093022208 then (transhumanceref2_words.l0 k x0 (x3++[x0.extract (x4:Int).toNat (x5:Int).toNat]) (wrap64 (x5+1)) (wrap64 (x5+1))) else (none)) else (none)) else (none)) else (if 0≤x5 then (if x5<(x0.size:Int) then (if (bt x0 x5)=46 then (if 0≤x4 then (if x4≤x5 then (if x3.length<8796093022208 then (transhumanceref2_words.l0 k x0 (x3++[x0.extract (x4:Int).toNat (x5:Int).toNat]) (wrap64 (x5+1)) (wrap64 (x5+1))) else (none)) else (none)) else (none)) else (transhumanceref2_words.l0 k x0 x3 x4 (wrap64 (x5+1)))) else (none)) else (none))) else (some x3)
def transhumanceref2_words.f (k:Nat) (a0:ByteArray):Option (List ByteArray):=transhumanceref2_words.l0 k a0 ([]:List ByteArray) 0 0
set_option maxHeartbeats 8000000 in
set_option maxRecDepth 100000 in
theorem transhumanceref2_words.calls (k:Nat) (a0:ByteArray) (r:List ByteArray) (w:World) (h:transhumanceref2_words.f k a0=some r) :
  Calls Tryz.prog 57 #[.string a0] w fun e w' => ∃ v0_:Value,e=.returned (v0_)∧Kd.R Kd.string 9 w' w.heap.size (fun _ => True) v0_ r∧Below w.heap.size w w':=by
 have HB:=Aside0.mk (Below.refl w.heap.size w)
 have H:(transhumanceref2_words.l0 k a0 ([]:List ByteArray) 0 0)=some r:=h
 clear h
 have H':=Aside0.mk H
 clear H
 go_enter Tryz.func57,Tryz.ntmps57
 go_wp2
 go_loopg [3,4,5] k (fun kq v3 v4 v5 w' => ∃ (x3_1:List ByteArray) (x4_1:Int) (x5_1:Int),v4=.int .i64 x4_1∧v5=.int .i64 x5_1∧Aside0 (transhumanceref2_words.l0 kq a0 x3_1 x4_1 x5_1=some r)∧Aside0 (kq≤k)∧Aside0 (Kd.R Kd.string 9 w' w.heap.size (fun _ => True) v3 x3_1)∧Aside0 (Below w.heap.size w w'))
 case atStart => exact ⟨(([]:List ByteArray)),(0),(0),(by first|rfl|(simp;done)|(simp [*];done)|(simp;exact (fun l_:List UInt8 => by cases l_ <;> rfl:∀ l_:List UInt8,l_.isEmpty=!(l_ != [])) _)),(by first|rfl|(simp;done)|(simp [*];done)|(simp;exact (fun l_:List UInt8 => by cases l_ <;> rfl:∀ l_:List UInt8,l_.isEmpty=!(l_ != [])) _)),H',⟨Nat.le_refl _⟩,⟨by first|exact Kd.R_nil _ _ _ _ _|exact Kd.N_nil _ _ _ _ _|exact Kd.V_nil _ _ _ _ _|exact Kd.Q_nil _ _ _ _ _|exact Kd.S_nil _ _ _ _ _⟩,⟨by repeat (first|(with_reducible first|exact HB.out|apply below_alloc|apply pw_below_drewN|apply below_drew1)|exact HB.out)⟩⟩
 case round =>
  clear H'
  obtain ⟨x3_1,x4_1,x5_1,rfl,rfl,HA,HK1,HO_3,HB⟩:=hrel
  cases gk with
  | zero => exact absurd HA.out (by simp [transhumanceref2_words.l0])
  | succ k1 =>
   have H:=HA.out
   clear HA
   simp only [transhumanceref2_words.l0] at H
   by_cases c2:x5_1≤(a0.size:Int)
   ·rw [if_pos c2] at H
    have c2b0:decide (x5_1≤(a0.size:Int))=true:=decide_eq_true c2
    clear c2
    by_cases c3:x5_1=(a0.size:Int)
    ·rw [if_pos c3] at H
     have c3b0:(x5_1 == (a0.size:Int))=true:=beq_iff_eq.mpr c3
     have c3b1:(x5_1 != (a0.size:Int))=false:=bne_eq_false_iff_eq.mpr c3
     clear c3
     by_cases c4:0≤x4_1
     ·rw [if_pos c4] at H
      have c4b0:=eq_true c4
      have c4b1:decide (0≤x4_1)=true:=decide_eq_true c4
      clear c4
      by_cases c5:x4_1≤x5_1
      ·rw [if_pos c5] at H
       have c5b0:=eq_true c5
       have c5b1:decide (x4_1≤x5_1)=true:=decide_eq_true c5
       clear c5
       have c6b0:=eq_true (of_decide_eq_true (by first|(with_reducible assumption)|assumption):x5_1≤(a0.size:Int))
       by_cases c7:x3_1.length<8796093022208
       ·rw [if_pos c7] at H
        have LMc7:=Aside0.mk c7
        clear c7
        obtain ⟨y217,hy217⟩:∃ y_:List ByteArray,y_=(x3_1++[a0.extract (x4_1:Int).toNat (x5_1:Int).toNat]):=⟨_,rfl⟩
        replace H:(transhumanceref2_words.l0 k1 a0 y217 (wrap64 (x5_1+1)) (wrap64 (x5_1+1)))=some r:=by first|(rw [hy217];with_reducible exact H)|(have H2_:=(Option.bind_some _ _).symm.trans H;rw [hy217];with_reducible exact H2_)|(have H2_:=(Option.bind_some _ _).symm.trans H;with_reducible exact H2_)|with_reducible exact H|(rw [hy217];exact H)|exact H
        have Ny217:=Aside0.mk hy217
        clear hy217
        have H':=Aside0.mk H
        clear H
        go_wp2_with (first|((with_reducible refine gate_builtin (b:=.append) (xs:=#[.tmp 22,.tmp 27]) rfl ?_);at_builtin;refine Kd.R_append Kd.string (w0:=w) w.heap.size rfl (.tmp 22) (.tmp 27) 41 9 (.string ⟨#[]⟩) 16 rfl Tryz.underlying41 info9 rfl (by decide) (by omega) u3 x3_1 (a0.extract (x4_1:Int).toNat (x5_1:Int).toNat) [.string (a0.extract (x4_1:Int).toNat (x5_1:Int).toNat)] (fun _ => True) (fun _ => False) rfl rfl ?aP (fun _ hk => hk.elim) ?aF ?aO ?aB ?aS ?aL ?_;(case aP => exact rfl);(case aB => exact (by repeat (first|(with_reducible first|exact HB.out|apply below_alloc|apply pw_below_drewN|apply below_drew1)|exact HB.out)));(case aF => exact (fun _ _ => trivial));(case aO => exact (by (with_reducible repeat (first|apply Kd.R_alloc|apply Kd.R_drewN|apply Kd.R_drew));exact HO_3.out));(case aS => exact (below_size (by repeat (first|(with_reducible first|exact HB.out|apply below_alloc|apply pw_below_drewN|apply below_drew1)|exact HB.out))));(case aL => have:=LMc7.out;omega);intro v218 w8 ho hb hg hat;rw [← Ny217.out] at ho;have n0_:=Aside0.mk (hb);have n1_:=Aside0.mk (ho);clear HB;clear HO_3;have HB:=n0_;have HO219:=n1_;clear n0_ n1_;clear ho hb hg hat))
        go_roundg k1
        case measure => have:=HK1.out;omega
        case rel => exact ⟨(y217),(wrap64 (x5_1+1)),(wrap64 (x5_1+1)),(by first|rfl|(simp;done)|(simp [*];done)|(simp;exact (fun l_:List UInt8 => by cases l_ <;> rfl:∀ l_:List UInt8,l_.isEmpty=!(l_ != [])) _)),(by first|rfl|(simp;done)|(simp [*];done)|(simp;exact (fun l_:List UInt8 => by cases l_ <;> rfl:∀ l_:List UInt8,l_.isEmpty=!(l_ != [])) _)),H',⟨by have:=HK1.out;omega⟩,⟨by (with_reducible repeat (first|apply Kd.R_alloc|apply Kd.R_drewN|apply Kd.R_drew));exact HO219.out⟩,⟨by repeat (first|(with_reducible first|exact HB.out|apply below_alloc|apply pw_below_drewN|apply below_drew1)|exact HB.out)⟩⟩
       ·rw [if_neg c7] at H
        exact absurd H (by simp)
      ·rw [if_neg c5] at H
       exact absurd H (by simp)
     ·rw [if_neg c4] at H
      exact absurd H (by simp)
    ·rw [if_neg c3] at H
     have c3b0:(x5_1 == (a0.size:Int))=false:=beq_eq_false_iff_ne.mpr c3
     have c3b1:(x5_1 != (a0.size:Int))=true:=bne_iff_ne.mpr c3
     by_cases c9:0≤x5_1
     ·rw [if_pos c9] at H
      have c9b0:decide (0≤x5_1)=true:=decide_eq_true c9
      clear c9
      by_cases c10:x5_1<(a0.size:Int)
      ·rw [if_pos c10] at H
       have c10b0:decide (x5_1<(a0.size:Int))=true:=decide_eq_true c10
       clear c10
       by_cases c12:(bt a0 x5_1)=46
       ·rw [if_pos c12] at H
        have c12b0:((bt a0 x5_1) == 46)=true:=beq_iff_eq.mpr c12
        have c12b1:((bt a0 x5_1) != 46)=false:=bne_eq_false_iff_eq.mpr c12
        clear c12
        by_cases c13:0≤x4_1
        ·rw [if_pos c13] at H
         have c13b0:=eq_true c13
         have c13b1:decide (0≤x4_1)=true:=decide_eq_true c13
         clear c13
         by_cases c14:x4_1≤x5_1
         ·rw [if_pos c14] at H
          have c14b0:=eq_true c14
          have c14b1:decide (x4_1≤x5_1)=true:=decide_eq_true c14
          clear c14
          have c15b0:=eq_true (of_decide_eq_true (by first|(with_reducible assumption)|assumption):x5_1≤(a0.size:Int))
          by_cases c16:x3_1.length<8796093022208
          ·rw [if_pos c16] at H
           have LMc16:=Aside0.mk c16
           clear c16
           obtain ⟨y220,hy220⟩:∃ y_:List ByteArray,y_=(x3_1++[a0.extract (x4_1:Int).toNat (x5_1:Int).toNat]):=⟨_,rfl⟩
           replace H:(transhumanceref2_words.l0 k1 a0 y220 (wrap64 (x5_1+1)) (wrap64 (x5_1+1)))=some r:=by first|(rw [hy220];with_reducible exact H)|(have H2_:=(Option.bind_some _ _).symm.trans H;rw [hy220];with_reducible exact H2_)|(have H2_:=(Option.bind_some _ _).symm.trans H;with_reducible exact H2_)|with_reducible exact H|(rw [hy220];exact H)|exact H
           have Ny220:=Aside0.mk hy220
           clear hy220
           have H':=Aside0.mk H
           clear H
           have p11:0≤(x5_1:Int):=of_decide_eq_true (by first|(with_reducible assumption)|assumption)
           have q11:x5_1<(a0.size:Int):=of_decide_eq_true (by first|(with_reducible assumption)|assumption)
           have hx11:=bt_at a0 x5_1
           replace p11:=eq_true p11
           replace q11:=eq_true q11
           go_wp2_with (first|((with_reducible refine gate_builtin (b:=.append) (xs:=#[.tmp 22,.tmp 27]) rfl ?_);at_builtin;refine Kd.R_append Kd.string (w0:=w) w.heap.size rfl (.tmp 22) (.tmp 27) 41 9 (.string ⟨#[]⟩) 16 rfl Tryz.underlying41 info9 rfl (by decide) (by omega) u3 x3_1 (a0.extract (x4_1:Int).toNat (x5_1:Int).toNat) [.string (a0.extract (x4_1:Int).toNat (x5_1:Int).toNat)] (fun _ => True) (fun _ => False) rfl rfl ?aP (fun _ hk => hk.elim) ?aF ?aO ?aB ?aS ?aL ?_;(case aP => exact rfl);(case aB => exact (by repeat (first|(with_reducible first|exact HB.out|apply below_alloc|apply pw_below_drewN|apply below_drew1)|exact HB.out)));(case aF => exact (fun _ _ => trivial));(case aO => exact (by (with_reducible repeat (first|apply Kd.R_alloc|apply Kd.R_drewN|apply Kd.R_drew));exact HO_3.out));(case aS => exact (below_size (by repeat (first|(with_reducible first|exact HB.out|apply below_alloc|apply pw_below_drewN|apply below_drew1)|exact HB.out))));(case aL => have:=LMc16.out;omega);intro v221 w17 ho hb hg hat;rw [← Ny220.out] at ho;have n0_:=Aside0.mk (hb);have n1_:=Aside0.mk (ho);clear HB;clear HO_3;have HB:=n0_;have HO222:=n1_;clear n0_ n1_;clear ho hb hg hat))
           go_roundg k1
           case measure => have:=HK1.out;omega
           case rel => exact ⟨(y220),(wrap64 (x5_1+1)),(wrap64 (x5_1+1)),(by first|rfl|(simp;done)|(simp [*];done)|(simp;exact (fun l_:List UInt8 => by cases l_ <;> rfl:∀ l_:List UInt8,l_.isEmpty=!(l_ != [])) _)),(by first|rfl|(simp;done)|(simp [*];done)|(simp;exact (fun l_:List UInt8 => by cases l_ <;> rfl:∀ l_:List UInt8,l_.isEmpty=!(l_ != [])) _)),H',⟨by have:=HK1.out;omega⟩,⟨by (with_reducible repeat (first|apply Kd.R_alloc|apply Kd.R_drewN|apply Kd.R_drew));exact HO222.out⟩,⟨by repeat (first|(with_reducible first|exact HB.out|apply below_alloc|apply pw_below_drewN|apply below_drew1)|exact HB.out)⟩⟩
          ·rw [if_neg c16] at H
           exact absurd H (by simp)
         ·rw [if_neg c14] at H
          exact absurd H (by simp)
        ·rw [if_neg c13] at H
         exact absurd H (by simp)
       ·rw [if_neg c12] at H
        have c12b0:((bt a0 x5_1) == 46)=false:=beq_eq_false_iff_ne.mpr c12
        have c12b1:((bt a0 x5_1) != 46)=true:=bne_iff_ne.mpr c12
        have H':=Aside0.mk H
        clear H
        have p11:0≤(x5_1:Int):=of_decide_eq_true (by first|(with_reducible assumption)|assumption)
        have q11:x5_1<(a0.size:Int):=of_decide_eq_true (by first|(with_reducible assumption)|assumption)
        have hx11:=bt_at a0 x5_1
        replace p11:=eq_true p11
        replace q11:=eq_true q11
        go_wp2
        go_roundg k1
        case measure => have:=HK1.out;omega
        case rel => exact ⟨(x3_1),(x4_1),(wrap64 (x5_1+1)),(by first|rfl|(simp;done)|(simp [*];done)|(simp;exact (fun l_:List UInt8 => by cases l_ <;> rfl:∀ l_:List UInt8,l_.isEmpty=!(l_ != [])) _)),(by first|rfl|(simp;done)|(simp [*];done)|(simp;exact (fun l_:List UInt8 => by cases l_ <;> rfl:∀ l_:List UInt8,l_.isEmpty=!(l_ != [])) _)),H',⟨by have:=HK1.out;omega⟩,⟨by (with_reducible repeat (first|apply Kd.R_alloc|apply Kd.R_drewN|apply Kd.R_drew));exact HO_3.out⟩,⟨by repeat (first|(with_reducible first|exact HB.out|apply below_alloc|apply pw_below_drewN|apply below_drew1)|exact HB.out)⟩⟩
      ·rw [if_neg c10] at H
       exact absurd H (by simp)
     ·rw [if_neg c9] at H
      exact absurd H (by simp)
   ·rw [if_neg c2] at H
    have c2b0:decide (x5_1≤(a0.size:Int))=false:=decide_eq_false c2
    clear c2
    obtain rfl:=Option.some.inj H
    go_wp2
    go_ret
    exact ⟨_,by first|rfl|(simp [errW_none,errW_some] <;> rfl)|(simp [*,errW_none,errW_some] <;> rfl),by (with_reducible repeat (first|apply Kd.R_alloc|apply Kd.R_drewN|apply Kd.R_drew));exact HO_3.out,by repeat (first|(with_reducible first|exact HB.out|apply below_alloc|apply pw_below_drewN|apply below_drew1)|exact HB.out)⟩
def transhumanceref2_digit.f (a0:Int):Option (Bool):=if a0 ≥ 48 then (some (decide (a0≤57))) else (some false)
set_option maxHeartbeats 8000000 in
set_option maxRecDepth 100000 in
theorem transhumanceref2_digit.calls (a0:Int) (r:Bool) (w:World) (h:transhumanceref2_digit.f a0=some r) :
  Calls Tryz.prog 123 #[.int .u8 a0] w fun e w' => e=.returned (.bool r)∧Drawn0 w w':=by
 have H:(if a0 ≥ 48 then (some (decide (a0≤57))) else (some false))=some r:=h
 clear h
 by_cases c2:a0 ≥ 48
 ·rw [if_pos c2] at H
  have c2b0:decide (48≤a0)=true:=decide_eq_true c2
  clear c2
  obtain rfl:=Option.some.inj H
  go_enter Tryz.func123,Tryz.ntmps123
  go_wp2
  go_ret
  exact ⟨by first|rfl|(simp;done)|(simp [*];done)|(simp;exact (fun l_:List UInt8 => by cases l_ <;> rfl:∀ l_:List UInt8,l_.isEmpty=!(l_ != [])) _),by repeat (first|exact Drawn0.refl _|apply Drawn0.step)⟩
 ·rw [if_neg c2] at H
  have c2b0:decide (48≤a0)=false:=decide_eq_false c2
  clear c2
  obtain rfl:=Option.some.inj H
  go_enter Tryz.func123,Tryz.ntmps123
  go_wp2
  go_ret
  exact ⟨by first|rfl|(simp;done)|(simp [*];done)|(simp;exact (fun l_:List UInt8 => by cases l_ <;> rfl:∀ l_:List UInt8,l_.isEmpty=!(l_ != [])) _),by repeat (first|exact Drawn0.refl _|apply Drawn0.step)⟩
def transhumanceref2_digits.l0:Nat→ByteArray→Int→Option (Bool)
 | 0,_,_ => none
 | k+1,x0,x3 => if x3<(x0.size:Int) then (if 0≤x3 then ((transhumanceref2_digit.f (bt x0 x3)).bind fun t223 => (if t223=true then (transhumanceref2_digits.l0 k x0 (wrap64 (x3+1))) else (some false))) else (none)) else (some (x0.toList != ([]:List UInt8)))
def transhumanceref2_digits.f (k:Nat) (a0:ByteArray):Option (Bool):=transhumanceref2_digits.l0 k a0 0
set_option maxHeartbeats 8000000 in
set_option maxRecDepth 100000 in
theorem transhumanceref2_digits.calls (k:Nat) (a0:ByteArray) (r:Bool) (w:World) (h:transhumanceref2_digits.f k a0=some r) :
  Calls Tryz.prog 91 #[.string a0] w fun e w' => e=.returned (.bool r)∧Drawn0 w w':=by
 have H:(transhumanceref2_digits.l0 k a0 0)=some r:=h
 clear h
 have H':=Aside0.mk H
 clear H
 go_enter Tryz.func91,Tryz.ntmps91
 go_wp2
 go_loopg [3] k (fun kq v3 w' => ∃ (x3_1:Int),v3=.int .i64 x3_1∧Aside0 (transhumanceref2_digits.l0 kq a0 x3_1=some r)∧Aside0 (kq≤k)∧Drawn0 w w')
 case atStart => exact ⟨(0),(by first|rfl|(simp;done)|(simp [*];done)|(simp;exact (fun l_:List UInt8 => by cases l_ <;> rfl:∀ l_:List UInt8,l_.isEmpty=!(l_ != [])) _)),H',⟨Nat.le_refl _⟩,by repeat (first|exact Drawn0.refl _|apply Drawn0.step)⟩
 case round =>
  clear H'
  obtain ⟨x3_1,rfl,HA,HK1,⟨m1,rfl⟩⟩:=hrel
  cases gk with
  | zero => exact absurd HA.out (by simp [transhumanceref2_digits.l0])
  | succ k1 =>
   have H:=HA.out
   clear HA
   simp only [transhumanceref2_digits.l0] at H
   by_cases c2:x3_1<(a0.size:Int)
   ·rw [if_pos c2] at H
    have c2b0:decide (x3_1<(a0.size:Int))=true:=decide_eq_true c2
    clear c2
    by_cases c3:0≤x3_1
    ·rw [if_pos c3] at H
     have c3b0:decide (0≤x3_1)=true:=decide_eq_true c3
     clear c3
     replace H:=Option.bind_eq_some_iff.mp H
     obtain ⟨t223,A50,H⟩:=H
     replace H:(if t223=true then (transhumanceref2_digits.l0 k1 a0 (wrap64 (x3_1+1))) else (some false))=some r:=H
     have A5:=Aside0.mk A50
     clear A50
     by_cases c6:t223=true
     ·subst c6
      have H1:(transhumanceref2_digits.l0 k1 a0 (wrap64 (x3_1+1)))=some r:=by rw [if_pos rfl] at H;exact H
      clear H
      have H:=H1
      clear H1
      have H':=Aside0.mk H
      clear H
      have p4:0≤(x3_1:Int):=of_decide_eq_true (by first|(with_reducible assumption)|assumption)
      have q4:x3_1<(a0.size:Int):=of_decide_eq_true (by first|(with_reducible assumption)|assumption)
      have hx4:=bt_at a0 x3_1
      replace p4:=eq_true p4
      replace q4:=eq_true q4
      go_wp2_with (first|((with_reducible refine gate_callee (f:=123) rfl ?_);refine goesL_ (some 13) rfl rfl Tryz.func123 (by kernel_rfl) rfl #[.int .u8 (bt a0 x3_1)] rfl (by (try simp only [List.map_toArray,List.map_cons,List.map_nil]);first|done|rfl|(simp only [List.length_drop,List.length_take];rfl)) ?_;(with_reducible refine (transhumanceref2_digit.calls (bt a0 x3_1) true _ A5.out).mono ?_);rintro e w' ⟨rfl,⟨nd,rfl⟩⟩;refine ⟨_,rfl,?_⟩))
      go_roundg k1
      case measure => have:=HK1.out;omega
      case rel => exact ⟨(wrap64 (x3_1+1)),(by first|rfl|(simp;done)|(simp [*];done)|(simp;exact (fun l_:List UInt8 => by cases l_ <;> rfl:∀ l_:List UInt8,l_.isEmpty=!(l_ != [])) _)),H',⟨by have:=HK1.out;omega⟩,by repeat (first|exact Drawn0.refl _|apply Drawn0.step)⟩
     ·replace c6:=Bool.eq_false_iff.mpr c6
      subst c6
      have H1:(some false)=some r:=by rw [if_neg (show ¬ (false=true) by decide)] at H;exact H
      clear H
      have H:=H1
      clear H1
      obtain rfl:=Option.some.inj H
      have p4:0≤(x3_1:Int):=of_decide_eq_true (by first|(with_reducible assumption)|assumption)
      have q4:x3_1<(a0.size:Int):=of_decide_eq_true (by first|(with_reducible assumption)|assumption)
      have hx4:=bt_at a0 x3_1
      replace p4:=eq_true p4
      replace q4:=eq_true q4
      go_wp2_with (first|((with_reducible refine gate_callee (f:=123) rfl ?_);refine goesL_ (some 13) rfl rfl Tryz.func123 (by kernel_rfl) rfl #[.int .u8 (bt a0 x3_1)] rfl (by (try simp only [List.map_toArray,List.map_cons,List.map_nil]);first|done|rfl|(simp only [List.length_drop,List.length_take];rfl)) ?_;(with_reducible refine (transhumanceref2_digit.calls (bt a0 x3_1) false _ A5.out).mono ?_);rintro e w' ⟨rfl,⟨nd,rfl⟩⟩;refine ⟨_,rfl,?_⟩))
      go_ret
      exact ⟨by first|rfl|(simp;done)|(simp [*];done)|(simp;exact (fun l_:List UInt8 => by cases l_ <;> rfl:∀ l_:List UInt8,l_.isEmpty=!(l_ != [])) _),by repeat (first|exact Drawn0.refl _|apply Drawn0.step)⟩
    ·rw [if_neg c3] at H
     exact absurd H (by simp)
   ·rw [if_neg c2] at H
    have c2b0:decide (x3_1<(a0.size:Int))=false:=decide_eq_false c2
    clear c2
    obtain rfl:=Option.some.inj H
    go_wp2
    go_ret
    exact ⟨by first|rfl|(simp;done)|(simp [*];done)|(simp;exact (fun l_:List UInt8 => by cases l_ <;> rfl:∀ l_:List UInt8,l_.isEmpty=!(l_ != [])) _),by repeat (first|exact Drawn0.refl _|apply Drawn0.step)⟩
end Go.Proofs.YtjiidlkkkednoaaGreatDoor.Q
end
section
namespace Go.Proofs.YtjiidlkkkednoaaGreatDoor.Q
open Go.RowKit Go.Proofs.YtjiidlkkkednoaaGreatDoorW.PrintWords Go.Proofs.YtjiidlkkkednoaaGreatDoorW.PrintLast Go.Proofs.YtjiidlkkkednoaaGreatDoorW.PrintMore
attribute [local go_sem] max2_int min2_int max_two min_two max_three min_three max_four min_four
set_option linter.unusedVariables false
set_option linter.unusedSimpArgs false
end Go.Proofs.YtjiidlkkkednoaaGreatDoor.Q
end
section
namespace Go.Proofs.YtjiidlkkkednoaaGreatDoor.Q
open Go.RowKit Go.Proofs.YtjiidlkkkednoaaGreatDoorW.PrintWords Go.Proofs.YtjiidlkkkednoaaGreatDoorW.PrintLast Go.Proofs.YtjiidlkkkednoaaGreatDoorW.PrintMore
attribute [local go_sem] max2_int min2_int max_two min_two max_three min_three max_four min_four
set_option linter.unusedVariables false
set_option linter.unusedSimpArgs false
end Go.Proofs.YtjiidlkkkednoaaGreatDoor.Q
end
section
namespace Go.Proofs.YtjiidlkkkednoaaGreatDoor.Q
open Go.RowKit Go.Proofs.YtjiidlkkkednoaaGreatDoorW.PrintWords Go.Proofs.YtjiidlkkkednoaaGreatDoorW.PrintLast Go.Proofs.YtjiidlkkkednoaaGreatDoorW.PrintMore
attribute [local go_sem] max2_int min2_int max_two min_two max_three min_three max_four min_four
set_option linter.unusedVariables false
set_option linter.unusedSimpArgs false
end Go.Proofs.YtjiidlkkkednoaaGreatDoor.Q
end
section
namespace Go.Proofs.YtjiidlkkkednoaaGreatDoor.Q
open Go.RowKit Go.Proofs.YtjiidlkkkednoaaGreatDoorW.PrintWords Go.Proofs.YtjiidlkkkednoaaGreatDoorW.PrintLast Go.Proofs.YtjiidlkkkednoaaGreatDoorW.PrintMore
attribute [local go_sem] max2_int min2_int max_two min_two max_three min_three max_four min_four
set_option linter.unusedVariables false
set_option linter.unusedSimpArgs false
def transhumanceref2_sign.f (a0:Int) (a1:Int):Option (Int):=if a0<a1 then (some (-1)) else (if a0 > a1 then (some 1) else (some 0))
set_option maxHeartbeats 8000000 in
set_option maxRecDepth 100000 in
theorem transhumanceref2_sign.calls (a0:Int) (a1:Int) (r:Int) (w:World) (h:transhumanceref2_sign.f a0 a1=some r) :
  Calls Tryz.prog 56 #[.int .i64 a0,.int .i64 a1] w fun e w' => e=.returned (.int .i64 r)∧Drawn0 w w':=by
 have H:(if a0<a1 then (some (-1)) else (if a0 > a1 then (some 1) else (some 0)))=some r:=h
 clear h
 by_cases c3:a0<a1
 ·rw [if_pos c3] at H
  have c3b0:decide (a0<a1)=true:=decide_eq_true c3
  clear c3
  obtain rfl:=Option.some.inj H
  go_enter Tryz.func56,Tryz.ntmps56
  go_wp2
  go_ret
  exact ⟨by first|rfl|(simp;done)|(simp [*];done)|(simp;exact (fun l_:List UInt8 => by cases l_ <;> rfl:∀ l_:List UInt8,l_.isEmpty=!(l_ != [])) _),by repeat (first|exact Drawn0.refl _|apply Drawn0.step)⟩
 ·rw [if_neg c3] at H
  have c3b0:decide (a0<a1)=false:=decide_eq_false c3
  clear c3
  by_cases c4:a0 > a1
  ·rw [if_pos c4] at H
   have c4b0:decide (a1<a0)=true:=decide_eq_true c4
   clear c4
   obtain rfl:=Option.some.inj H
   go_enter Tryz.func56,Tryz.ntmps56
   go_wp2
   go_ret
   exact ⟨by first|rfl|(simp;done)|(simp [*];done)|(simp;exact (fun l_:List UInt8 => by cases l_ <;> rfl:∀ l_:List UInt8,l_.isEmpty=!(l_ != [])) _),by repeat (first|exact Drawn0.refl _|apply Drawn0.step)⟩
  ·rw [if_neg c4] at H
   have c4b0:decide (a1<a0)=false:=decide_eq_false c4
   clear c4
   obtain rfl:=Option.some.inj H
   go_enter Tryz.func56,Tryz.ntmps56
   go_wp2
   go_ret
   exact ⟨by first|rfl|(simp;done)|(simp [*];done)|(simp;exact (fun l_:List UInt8 => by cases l_ <;> rfl:∀ l_:List UInt8,l_.isEmpty=!(l_ != [])) _),by repeat (first|exact Drawn0.refl _|apply Drawn0.step)⟩
end Go.Proofs.YtjiidlkkkednoaaGreatDoor.Q
end
section
namespace Go.Proofs.YtjiidlkkkednoaaGreatDoor.Q
open Go.RowKit Go.Proofs.YtjiidlkkkednoaaGreatDoorW.PrintWords Go.Proofs.YtjiidlkkkednoaaGreatDoorW.PrintLast Go.Proofs.YtjiidlkkkednoaaGreatDoorW.PrintMore
theorem rdigit_f (b:UInt8):transhumanceref2_digit.f (b.toNat:Int)=some (digitB b):=by
 unfold transhumanceref2_digit.f
 by_cases h:(b.toNat:Int) ≥ 48
 ·rw [if_pos h]
  congr 1
  rw [Bool.eq_iff_iff,digit_int,decide_eq_true_eq]
  omega
 ·rw [if_neg h]
  congr 1
  cases hd:digitB b with
  | false => rfl
  | true => rw [digit_int] at hd;omega
theorem rdigits_l0 (s:ByteArray) (hs:s.size≤140737488351232):∀ (d i:Nat),i+d=s.size→Ev (fun k => transhumanceref2_digits.l0 k s i) ((s.data.toList.drop i).all digitB && !(s.data.toList == []))
 | 0,i,hd => by
  refine Ev.step (fun _ => transhumanceref2_digits.l0.eq_2 ..) (Ev.neg (by omega) (Ev.ret ?_))
  rw [List.drop_eq_nil_of_le (by simp;omega),← Lib.toList_data]
  cases s.toList <;> rfl
 | d+1,i,hd => by
  have hi:i<s.size:=by omega
  have hw:wrap64 ((i:Int)+1)=((i+1:Nat):Int):=wrap_in (by omega) (by omega)
  refine Ev.step (fun _ => transhumanceref2_digits.l0.eq_2 ..) (Ev.pos (by omega) (Ev.pos (by omega) ?_))
  rw [bt_int s i hi,hw,drop_byte s i hi,List.all_cons]
  refine Ev.val (rdigit_f s[i]) ?_
  cases hb:digitB s[i] with
  | false => exact Ev.neg (by simp) (Ev.now _)
  | true =>
   rw [Bool.true_and]
   exact Ev.pos rfl (rdigits_l0 s hs d (i+1) (by omega))
theorem rdigits_ev2 (s:ByteArray) (hs:s.size≤140737488351232):Ev (fun k => transhumanceref2_digits.f k s) (allL s.data.toList):=by
 have:=rdigits_l0 s hs s.size 0 (by omega)
 rw [List.drop_zero] at this
 exact this
theorem rdigits_calls (s:ByteArray) (hs:s.size≤140737488351232) (w:World):Calls Tryz.prog 91 #[.string s] w fun e w' => e=.returned (.bool (allL s.data.toList))∧Drawn0 w w':=by
 obtain ⟨K,h⟩:=rdigits_ev2 s hs
 exact transhumanceref2_digits.calls K _ _ w (h K (Nat.le_refl _))
theorem rsign_f (a b:Int):transhumanceref2_sign.f a b=some (cmpI a b):=by
 unfold transhumanceref2_sign.f cmpI
 split
 ·rfl
 ·split <;> rfl
set_option maxHeartbeats 1000000 in
theorem order_calls (a b:ByteArray) (w:World) (ha:a.size≤1000000) (hb:b.size≤1000000) :
  Calls Tryz.prog 58 #[.string a,.string b] w fun e w' => e=.returned (.int .i64 (wordsI a.data.toList b.data.toList))∧Drawn0 w w':=by
 have HA:=Lib.hid (rdigits_calls a (by omega))
 have HB:=Lib.hid (rdigits_calls b (by omega))
 have HS:=Lib.hid (fun w => transhumanceref2_sign.calls (a.size:Int) (b.size:Int) _ w (rsign_f _ _))
 have HW:=Lib.hid (show wordsI a.data.toList b.data.toList=if allL a.data.toList=true then
  (if allL b.data.toList=true then (if cmpI a.size b.size=0 then cmpBs a.data.toList b.data.toList else cmpI a.size b.size) else -1) else if allL b.data.toList=true then 1 else cmpBs a.data.toList b.data.toList from rfl)
 have HC:=Lib.hid (show cmpBs a.data.toList b.data.toList=if Op.bytesLess a.toList b.toList=true then -1 else if (a.toList == b.toList)=true then 0 else 1 from by unfold cmpBs;rw [Lib.toList_data,Lib.toList_data])
 generalize wordsI a.data.toList b.data.toList=R at *
 generalize cmpBs a.data.toList b.data.toList=C at *
 generalize allL a.data.toList=p at *
 generalize allL b.data.toList=q at *
 have key:(p=q)→(p=true→a.size=b.size)→R=C→Calls Tryz.prog 58 #[.string a,.string b] w fun e w' => e=.returned (.int .i64 R)∧Drawn0 w w':=by
  intro hpq hz hR
  have HZ:=Lib.hid hR
  clear hR HW HS
  subst hpq
  cases h1:Op.bytesLess a.toList b.toList with
  | true =>
   have HC2:=Lib.hid (HC.out.trans (if_pos h1))
   clear HC
   cases p with
   | true =>
    have hz2:=hz rfl
    have n1:(a.size != b.size)=false:=by simpa using hz2
    have n2:((a.size:Int) != (b.size:Int))=false:=by simp only [bne_eq_false_iff_eq];omega
    clear hz hz2
    go_enter Tryz.func58,Tryz.ntmps58
    go_wp2_with (fail)
    refine (HA.out _).mono ?_
    rintro e w1 ⟨rfl,n3,rfl⟩
    go_wp2_with (fail)
    refine (HB.out _).mono ?_
    rintro e w1 ⟨rfl,n4,rfl⟩
    go_wp2_with (fail)
    go_ret
    exact ⟨by rw [HZ.out,HC2.out];rfl,⟨_,rfl⟩⟩
   | false =>
    clear hz
    go_enter Tryz.func58,Tryz.ntmps58
    go_wp2_with (fail)
    refine (HA.out _).mono ?_
    rintro e w1 ⟨rfl,n3,rfl⟩
    go_wp2_with (fail)
    refine (HB.out _).mono ?_
    rintro e w1 ⟨rfl,n4,rfl⟩
    go_wp2_with (fail)
    go_ret
    exact ⟨by rw [HZ.out,HC2.out];rfl,⟨_,rfl⟩⟩
  | false =>
   cases h2:(a.toList == b.toList) with
   | true =>
    have HC2:=Lib.hid (HC.out.trans ((if_neg (by rw [h1];simp)).trans (if_pos h2)))
    clear HC
    cases p with
    | true =>
     have hz2:=hz rfl
     have n1:(a.size != b.size)=false:=by simpa using hz2
     have n2:((a.size:Int) != (b.size:Int))=false:=by simp only [bne_eq_false_iff_eq];omega
     clear hz hz2
     go_enter Tryz.func58,Tryz.ntmps58
     go_wp2_with (fail)
     refine (HA.out _).mono ?_
     rintro e w1 ⟨rfl,n3,rfl⟩
     go_wp2_with (fail)
     refine (HB.out _).mono ?_
     rintro e w1 ⟨rfl,n4,rfl⟩
     go_wp2_with (fail)
     go_ret
     exact ⟨by rw [HZ.out,HC2.out];rfl,⟨_,rfl⟩⟩
    | false =>
     clear hz
     go_enter Tryz.func58,Tryz.ntmps58
     go_wp2_with (fail)
     refine (HA.out _).mono ?_
     rintro e w1 ⟨rfl,n3,rfl⟩
     go_wp2_with (fail)
     refine (HB.out _).mono ?_
     rintro e w1 ⟨rfl,n4,rfl⟩
     go_wp2_with (fail)
     go_ret
     exact ⟨by rw [HZ.out,HC2.out];rfl,⟨_,rfl⟩⟩
   | false =>
    have HC2:=Lib.hid (HC.out.trans ((if_neg (by rw [h1];simp)).trans (if_neg (by rw [h2];simp))))
    clear HC
    cases p with
    | true =>
     have hz2:=hz rfl
     have n1:(a.size != b.size)=false:=by simpa using hz2
     have n2:((a.size:Int) != (b.size:Int))=false:=by simp only [bne_eq_false_iff_eq];omega
     clear hz hz2
     go_enter Tryz.func58,Tryz.ntmps58
     go_wp2_with (fail)
     refine (HA.out _).mono ?_
     rintro e w1 ⟨rfl,n3,rfl⟩
     go_wp2_with (fail)
     refine (HB.out _).mono ?_
     rintro e w1 ⟨rfl,n4,rfl⟩
     go_wp2_with (fail)
     go_ret
     exact ⟨by rw [HZ.out,HC2.out];rfl,⟨_,rfl⟩⟩
    | false =>
     clear hz
     go_enter Tryz.func58,Tryz.ntmps58
     go_wp2_with (fail)
     refine (HA.out _).mono ?_
     rintro e w1 ⟨rfl,n3,rfl⟩
     go_wp2_with (fail)
     refine (HB.out _).mono ?_
     rintro e w1 ⟨rfl,n4,rfl⟩
     go_wp2_with (fail)
     go_ret
     exact ⟨by rw [HZ.out,HC2.out];rfl,⟨_,rfl⟩⟩
 cases p with
 | true =>
  cases q with
  | true =>
   by_cases hz:a.size=b.size
   ·refine key rfl (fun _ => hz) ?_
    rw [HW.out,if_pos rfl,if_pos rfl,if_pos (by rw [hz];unfold cmpI;rw [if_neg (by omega),if_neg (by omega)])]
   ·have hc:cmpI a.size b.size≠0:=by unfold cmpI;split;omega;split <;> omega
    have HW2:=Lib.hid (show R=cmpI a.size b.size from by rw [HW.out,if_pos rfl,if_pos rfl,if_neg hc])
    have n1:(a.size != b.size)=true:=by simpa using hz
    have n2:((a.size:Int) != (b.size:Int))=true:=by simp only [bne_iff_ne,ne_eq];omega
    clear key HW HC hz hc
    go_enter Tryz.func58,Tryz.ntmps58
    go_wp2_with (fail)
    refine (HA.out _).mono ?_
    rintro e w1 ⟨rfl,n3,rfl⟩
    go_wp2_with (fail)
    refine (HB.out _).mono ?_
    rintro e w1 ⟨rfl,n4,rfl⟩
    go_wp2_with (fail)
    refine (HS.out _).mono ?_
    rintro e w1 ⟨rfl,n5,rfl⟩
    go_wp2_with (fail)
    go_ret
    exact ⟨by rw [HW2.out];rfl,⟨_,rfl⟩⟩
  | false =>
   have HW2:=Lib.hid (show R=-1 from by rw [HW.out,if_pos rfl,if_neg (by simp)])
   clear key HW HC HS
   go_enter Tryz.func58,Tryz.ntmps58
   go_wp2_with (fail)
   refine (HA.out _).mono ?_
   rintro e w1 ⟨rfl,n3,rfl⟩
   go_wp2_with (fail)
   refine (HB.out _).mono ?_
   rintro e w1 ⟨rfl,n4,rfl⟩
   go_wp2_with (fail)
   go_ret
   exact ⟨by rw [HW2.out];rfl,⟨_,rfl⟩⟩
 | false =>
  cases q with
  | true =>
   have HW2:=Lib.hid (show R=1 from by rw [HW.out,if_neg (by simp),if_pos rfl])
   clear key HW HC HS
   go_enter Tryz.func58,Tryz.ntmps58
   go_wp2_with (fail)
   refine (HA.out _).mono ?_
   rintro e w1 ⟨rfl,n3,rfl⟩
   go_wp2_with (fail)
   refine (HB.out _).mono ?_
   rintro e w1 ⟨rfl,n4,rfl⟩
   go_wp2_with (fail)
   go_ret
   exact ⟨by rw [HW2.out];rfl,⟨_,rfl⟩⟩
  | false =>
   refine key rfl (fun h => by cases h) ?_
   rw [HW.out,if_neg (by simp),if_neg (by simp)]
def transhumanceref2_order.f (a0:ByteArray) (a1:ByteArray):Option Int:=if a0.size≤1000000∧a1.size≤1000000 then some (wordsI a0.data.toList a1.data.toList) else none
theorem transhumanceref2_order.calls (a0:ByteArray) (a1:ByteArray) (r:Int) (w:World) (h:transhumanceref2_order.f a0 a1=some r) :
  Calls Tryz.prog 58 #[.string a0,.string a1] w fun e w' => e=.returned (.int .i64 r)∧Drawn0 w w':=by
 unfold transhumanceref2_order.f at h
 split at h
 ·next hs =>
  obtain rfl:=Option.some.inj h
  exact order_calls a0 a1 w hs.1 hs.2
 ·cases h
end Go.Proofs.YtjiidlkkkednoaaGreatDoor.Q
end
