import Derived.Test.YtjdjljgbfpkbdaaGreatDoorZQ0
namespace Go.Proofs.YtjdjljgbfpkbdaaGreatDoor.Q
open Go.RowKit Go.Proofs.YtjdjljgbfpkbdaaGreatDoorW.PrintWords Go.Proofs.YtjdjljgbfpkbdaaGreatDoorW.PrintLast Go.Proofs.YtjdjljgbfpkbdaaGreatDoorW.PrintMore
attribute [local go_sem] max2_int min2_int max_two min_two max_three min_three max_four min_four
set_option linter.unusedVariables false
set_option linter.unusedSimpArgs false
def transhumanceref1_Quote.l0:Nat→ByteArray→ByteArray→Int→Option (ByteArray)
 | 0,_,_,_ => none
 | k+1,x0,x3,x4 => if x4<(x0.size:Int) then (if 0≤x4 then (if (bt x0 x4)=34 then (if x3.size+2≤9223372036854775807 then (transhumanceref1_Quote.l0 k x0 (x3++(⟨#[92,34]⟩:ByteArray)) (wrap64 (x4+1))) else (none)) else (if (bt x0 x4)=92 then (if x3.size+2≤9223372036854775807 then (transhumanceref1_Quote.l0 k x0 (x3++(⟨#[92,92]⟩:ByteArray)) (wrap64 (x4+1))) else (none)) else (if (bt x0 x4)=10 then (if x3.size+2≤9223372036854775807 then (transhumanceref1_Quote.l0 k x0 (x3++(⟨#[92,110]⟩:ByteArray)) (wrap64 (x4+1))) else (none)) else (if (bt x0 x4)=9 then (if x3.size+2≤9223372036854775807 then (transhumanceref1_Quote.l0 k x0 (x3++(⟨#[92,116]⟩:ByteArray)) (wrap64 (x4+1))) else (none)) else (if x4≤(wrap64 (x4+1)) then (if (wrap64 (x4+1))≤(x0.size:Int) then (if x3.size+(x0.extract (x4:Int).toNat ((wrap64 (x4+1)):Int).toNat).size≤9223372036854775807 then (transhumanceref1_Quote.l0 k x0 (x3++(x0.extract (x4:Int).toNat ((wrap64 (x4+1)):Int).toNat)) (wrap64 (x4+1))) else (none)) else (none)) else (none)))))) else (none)) else (if x3.size+1≤9223372036854775807 then (some (x3++(⟨#[34]⟩:ByteArray))) else (none))
def transhumanceref1_Quote.f (k:Nat) (a0:ByteArray):Option (ByteArray):=transhumanceref1_Quote.l0 k a0 (⟨#[34]⟩:ByteArray) 0
set_option maxHeartbeats 8000000 in
set_option maxRecDepth 100000 in
theorem transhumanceref1_Quote.calls (k:Nat) (a0:ByteArray) (r:ByteArray) (w:World) (h:transhumanceref1_Quote.f k a0=some r) :
  Calls Tryz.prog 17 #[.string a0] w fun e w' => e=.returned (.string r)∧Drawn0 w w':=by
 have H:(transhumanceref1_Quote.l0 k a0 (⟨#[34]⟩:ByteArray) 0)=some r:=h
 clear h
 have H':=Aside0.mk H
 clear H
 go_enter Tryz.func17,Tryz.ntmps17
 go_wp2
 go_loopg [3,4] k (fun kq v3 v4 w' => ∃ (x3_1:ByteArray) (x4_1:Int),v3=.string x3_1∧v4=.int .i64 x4_1∧Aside0 (transhumanceref1_Quote.l0 kq a0 x3_1 x4_1=some r)∧Aside0 (kq≤k)∧Drawn0 w w')
 case atStart => exact ⟨((⟨#[34]⟩:ByteArray)),(0),(by first|rfl|(simp;done)|(simp [*];done)|(simp;exact (fun l_:List UInt8 => by cases l_ <;> rfl:∀ l_:List UInt8,l_.isEmpty=!(l_ != [])) _)),(by first|rfl|(simp;done)|(simp [*];done)|(simp;exact (fun l_:List UInt8 => by cases l_ <;> rfl:∀ l_:List UInt8,l_.isEmpty=!(l_ != [])) _)),H',⟨Nat.le_refl _⟩,by repeat (first|exact Drawn0.refl _|apply Drawn0.step)⟩
 case round =>
  clear H'
  try clear c1
  obtain ⟨x3_1,x4_1,rfl,rfl,HA,HK1,⟨m1,rfl⟩⟩:=hrel
  cases gk with
  | zero => exact absurd HA.out (by simp [transhumanceref1_Quote.l0])
  | succ k1 =>
   have H:=HA.out
   clear HA
   simp only [transhumanceref1_Quote.l0] at H
   by_cases c2:x4_1<(a0.size:Int)
   ·rw [if_pos c2] at H
    have c2b0:decide (x4_1<(a0.size:Int))=true:=decide_eq_true c2
    clear c2
    by_cases c3:0≤x4_1
    ·rw [if_pos c3] at H
     have c3b0:decide (0≤x4_1)=true:=decide_eq_true c3
     clear c3
     by_cases c5:(bt a0 x4_1)=34
     ·rw [if_pos c5] at H
      have c5b0:((bt a0 x4_1) == 34)=true:=beq_iff_eq.mpr c5
      have c5b1:((bt a0 x4_1) != 34)=false:=bne_eq_false_iff_eq.mpr c5
      clear c5
      by_cases c6:x3_1.size+2≤9223372036854775807
      ·rw [if_pos c6] at H
       have c6b0:=eq_true c6
       have c6b1:decide (x3_1.size+2≤9223372036854775807)=true:=decide_eq_true c6
       try have c6b2:(9223372036854775807<x3_1.size+2)=False:=eq_false (Nat.not_lt.2 c6)
       have H':=Aside0.mk H
       clear H
       have p4:0≤(x4_1:Int):=of_decide_eq_true (by first|(with_reducible assumption)|assumption)
       have q4:x4_1<(a0.size:Int):=of_decide_eq_true (by first|(with_reducible assumption)|assumption)
       have hx4:=bt_at a0 x4_1
       replace p4:=eq_true p4
       replace q4:=eq_true q4
       go_wp2
       go_roundg k1
       case measure => have:=HK1.out;omega
       case rel => exact ⟨(x3_1++(⟨#[92,34]⟩:ByteArray)),(wrap64 (x4_1+1)),(by first|rfl|(simp;done)|(simp [*];done)|(simp;exact (fun l_:List UInt8 => by cases l_ <;> rfl:∀ l_:List UInt8,l_.isEmpty=!(l_ != [])) _)),(by first|rfl|(simp;done)|(simp [*];done)|(simp;exact (fun l_:List UInt8 => by cases l_ <;> rfl:∀ l_:List UInt8,l_.isEmpty=!(l_ != [])) _)),H',⟨by have:=HK1.out;omega⟩,by repeat (first|exact Drawn0.refl _|apply Drawn0.step)⟩
      ·rw [if_neg c6] at H
       exact absurd H (by simp)
     ·rw [if_neg c5] at H
      have c5b0:((bt a0 x4_1) == 34)=false:=beq_eq_false_iff_ne.mpr c5
      have c5b1:((bt a0 x4_1) != 34)=true:=bne_iff_ne.mpr c5
      by_cases c7:(bt a0 x4_1)=92
      ·rw [if_pos c7] at H
       have c7b0:((bt a0 x4_1) == 92)=true:=beq_iff_eq.mpr c7
       have c7b1:((bt a0 x4_1) != 92)=false:=bne_eq_false_iff_eq.mpr c7
       clear c7
       by_cases c8:x3_1.size+2≤9223372036854775807
       ·rw [if_pos c8] at H
        have c8b0:=eq_true c8
        have c8b1:decide (x3_1.size+2≤9223372036854775807)=true:=decide_eq_true c8
        try have c8b2:(9223372036854775807<x3_1.size+2)=False:=eq_false (Nat.not_lt.2 c8)
        have H':=Aside0.mk H
        clear H
        have p4:0≤(x4_1:Int):=of_decide_eq_true (by first|(with_reducible assumption)|assumption)
        have q4:x4_1<(a0.size:Int):=of_decide_eq_true (by first|(with_reducible assumption)|assumption)
        have hx4:=bt_at a0 x4_1
        replace p4:=eq_true p4
        replace q4:=eq_true q4
        go_wp2
        go_roundg k1
        case measure => have:=HK1.out;omega
        case rel => exact ⟨(x3_1++(⟨#[92,92]⟩:ByteArray)),(wrap64 (x4_1+1)),(by first|rfl|(simp;done)|(simp [*];done)|(simp;exact (fun l_:List UInt8 => by cases l_ <;> rfl:∀ l_:List UInt8,l_.isEmpty=!(l_ != [])) _)),(by first|rfl|(simp;done)|(simp [*];done)|(simp;exact (fun l_:List UInt8 => by cases l_ <;> rfl:∀ l_:List UInt8,l_.isEmpty=!(l_ != [])) _)),H',⟨by have:=HK1.out;omega⟩,by repeat (first|exact Drawn0.refl _|apply Drawn0.step)⟩
       ·rw [if_neg c8] at H
        exact absurd H (by simp)
      ·rw [if_neg c7] at H
       have c7b0:((bt a0 x4_1) == 92)=false:=beq_eq_false_iff_ne.mpr c7
       have c7b1:((bt a0 x4_1) != 92)=true:=bne_iff_ne.mpr c7
       by_cases c9:(bt a0 x4_1)=10
       ·rw [if_pos c9] at H
        have c9b0:((bt a0 x4_1) == 10)=true:=beq_iff_eq.mpr c9
        have c9b1:((bt a0 x4_1) != 10)=false:=bne_eq_false_iff_eq.mpr c9
        clear c9
        by_cases c10:x3_1.size+2≤9223372036854775807
        ·rw [if_pos c10] at H
         have c10b0:=eq_true c10
         have c10b1:decide (x3_1.size+2≤9223372036854775807)=true:=decide_eq_true c10
         try have c10b2:(9223372036854775807<x3_1.size+2)=False:=eq_false (Nat.not_lt.2 c10)
         have H':=Aside0.mk H
         clear H
         have p4:0≤(x4_1:Int):=of_decide_eq_true (by first|(with_reducible assumption)|assumption)
         have q4:x4_1<(a0.size:Int):=of_decide_eq_true (by first|(with_reducible assumption)|assumption)
         have hx4:=bt_at a0 x4_1
         replace p4:=eq_true p4
         replace q4:=eq_true q4
         go_wp2
         go_roundg k1
         case measure => have:=HK1.out;omega
         case rel => exact ⟨(x3_1++(⟨#[92,110]⟩:ByteArray)),(wrap64 (x4_1+1)),(by first|rfl|(simp;done)|(simp [*];done)|(simp;exact (fun l_:List UInt8 => by cases l_ <;> rfl:∀ l_:List UInt8,l_.isEmpty=!(l_ != [])) _)),(by first|rfl|(simp;done)|(simp [*];done)|(simp;exact (fun l_:List UInt8 => by cases l_ <;> rfl:∀ l_:List UInt8,l_.isEmpty=!(l_ != [])) _)),H',⟨by have:=HK1.out;omega⟩,by repeat (first|exact Drawn0.refl _|apply Drawn0.step)⟩
        ·rw [if_neg c10] at H
         exact absurd H (by simp)
       ·rw [if_neg c9] at H
        have c9b0:((bt a0 x4_1) == 10)=false:=beq_eq_false_iff_ne.mpr c9
        have c9b1:((bt a0 x4_1) != 10)=true:=bne_iff_ne.mpr c9
        by_cases c11:(bt a0 x4_1)=9
        ·rw [if_pos c11] at H
         have c11b0:((bt a0 x4_1) == 9)=true:=beq_iff_eq.mpr c11
         have c11b1:((bt a0 x4_1) != 9)=false:=bne_eq_false_iff_eq.mpr c11
         clear c11
         by_cases c12:x3_1.size+2≤9223372036854775807
         ·rw [if_pos c12] at H
          have c12b0:=eq_true c12
          have c12b1:decide (x3_1.size+2≤9223372036854775807)=true:=decide_eq_true c12
          try have c12b2:(9223372036854775807<x3_1.size+2)=False:=eq_false (Nat.not_lt.2 c12)
          have H':=Aside0.mk H
          clear H
          have p4:0≤(x4_1:Int):=of_decide_eq_true (by first|(with_reducible assumption)|assumption)
          have q4:x4_1<(a0.size:Int):=of_decide_eq_true (by first|(with_reducible assumption)|assumption)
          have hx4:=bt_at a0 x4_1
          replace p4:=eq_true p4
          replace q4:=eq_true q4
          go_wp2
          go_roundg k1
          case measure => have:=HK1.out;omega
          case rel => exact ⟨(x3_1++(⟨#[92,116]⟩:ByteArray)),(wrap64 (x4_1+1)),(by first|rfl|(simp;done)|(simp [*];done)|(simp;exact (fun l_:List UInt8 => by cases l_ <;> rfl:∀ l_:List UInt8,l_.isEmpty=!(l_ != [])) _)),(by first|rfl|(simp;done)|(simp [*];done)|(simp;exact (fun l_:List UInt8 => by cases l_ <;> rfl:∀ l_:List UInt8,l_.isEmpty=!(l_ != [])) _)),H',⟨by have:=HK1.out;omega⟩,by repeat (first|exact Drawn0.refl _|apply Drawn0.step)⟩
         ·rw [if_neg c12] at H
          exact absurd H (by simp)
        ·rw [if_neg c11] at H
         have c11b0:((bt a0 x4_1) == 9)=false:=beq_eq_false_iff_ne.mpr c11
         have c11b1:((bt a0 x4_1) != 9)=true:=bne_iff_ne.mpr c11
         have c13b0:=eq_true (of_decide_eq_true (by first|(with_reducible assumption)|assumption):0≤x4_1)
         by_cases c14:x4_1≤(wrap64 (x4_1+1))
         ·rw [if_pos c14] at H
          have c14b0:=eq_true c14
          have c14b1:decide (x4_1≤(wrap64 (x4_1+1)))=true:=decide_eq_true c14
          by_cases c15:(wrap64 (x4_1+1))≤(a0.size:Int)
          ·rw [if_pos c15] at H
           have c15b0:=eq_true c15
           have c15b1:decide ((wrap64 (x4_1+1))≤(a0.size:Int))=true:=decide_eq_true c15
           by_cases c16:x3_1.size+(a0.extract (x4_1:Int).toNat ((wrap64 (x4_1+1)):Int).toNat).size≤9223372036854775807
           ·rw [if_pos c16] at H
            have c16b0:=eq_true c16
            have c16b1:decide (x3_1.size+(a0.extract (x4_1:Int).toNat ((wrap64 (x4_1+1)):Int).toNat).size≤9223372036854775807)=true:=decide_eq_true c16
            try have c16b2:(9223372036854775807<x3_1.size+(a0.extract (x4_1:Int).toNat ((wrap64 (x4_1+1)):Int).toNat).size)=False:=eq_false (Nat.not_lt.2 c16)
            have H':=Aside0.mk H
            clear H
            have p4:0≤(x4_1:Int):=of_decide_eq_true (by first|(with_reducible assumption)|assumption)
            have q4:x4_1<(a0.size:Int):=of_decide_eq_true (by first|(with_reducible assumption)|assumption)
            have hx4:=bt_at a0 x4_1
            replace p4:=eq_true p4
            replace q4:=eq_true q4
            go_wp2
            go_roundg k1
            case measure => have:=HK1.out;omega
            case rel => exact ⟨(x3_1++(a0.extract (x4_1:Int).toNat ((wrap64 (x4_1+1)):Int).toNat)),(wrap64 (x4_1+1)),(by first|rfl|(simp;done)|(simp [*];done)|(simp;exact (fun l_:List UInt8 => by cases l_ <;> rfl:∀ l_:List UInt8,l_.isEmpty=!(l_ != [])) _)),(by first|rfl|(simp;done)|(simp [*];done)|(simp;exact (fun l_:List UInt8 => by cases l_ <;> rfl:∀ l_:List UInt8,l_.isEmpty=!(l_ != [])) _)),H',⟨by have:=HK1.out;omega⟩,by repeat (first|exact Drawn0.refl _|apply Drawn0.step)⟩
           ·rw [if_neg c16] at H
            exact absurd H (by simp)
          ·rw [if_neg c15] at H
           exact absurd H (by simp)
         ·rw [if_neg c14] at H
          exact absurd H (by simp)
    ·rw [if_neg c3] at H
     exact absurd H (by simp)
   ·rw [if_neg c2] at H
    have c2b0:decide (x4_1<(a0.size:Int))=false:=decide_eq_false c2
    clear c2
    by_cases c17:x3_1.size+1≤9223372036854775807
    ·rw [if_pos c17] at H
     have c17b0:=eq_true c17
     have c17b1:decide (x3_1.size+1≤9223372036854775807)=true:=decide_eq_true c17
     try have c17b2:(9223372036854775807<x3_1.size+1)=False:=eq_false (Nat.not_lt.2 c17)
     obtain rfl:=Option.some.inj H
     go_wp2
     go_ret
     exact ⟨by first|rfl|(simp;done)|(simp [*];done)|(simp;exact (fun l_:List UInt8 => by cases l_ <;> rfl:∀ l_:List UInt8,l_.isEmpty=!(l_ != [])) _),by repeat (first|exact Drawn0.refl _|apply Drawn0.step)⟩
    ·rw [if_neg c17] at H
     exact absurd H (by simp)
def transhumanceref6_Fields.f (a0_0:ByteArray) (a0_1:ByteArray) (a0_2:ByteArray) (a0_3:ByteArray) (a0_4:ByteArray):Option (List ByteArray × List ByteArray):=some ((([a0_0,a0_1,a0_2,a0_3,a0_4]:List ByteArray)),(([(⟨#[114,111,111,116]⟩:ByteArray),(⟨#[118,101,114,115,105,111,110]⟩:ByteArray),(⟨#[114,101,118,105,115,105,111,110]⟩:ByteArray),(⟨#[119,105,116,104,105,110]⟩:ByteArray),(⟨#[115,111,117,114,99,101]⟩:ByteArray)]:List ByteArray)))
set_option maxHeartbeats 8000000 in
set_option maxRecDepth 100000 in
theorem transhumanceref6_Fields.calls (a0_0:ByteArray) (a0_1:ByteArray) (a0_2:ByteArray) (a0_3:ByteArray) (a0_4:ByteArray) (r1:List ByteArray) (r2:List ByteArray) (w:World) (h:transhumanceref6_Fields.f a0_0 a0_1 a0_2 a0_3 a0_4=some (r1,r2)) :
  Calls Tryz.prog 33 #[.agg #[.string a0_0,.string a0_1,.string a0_2,.string a0_3,.string a0_4]] w fun e w' => ∃ v0_ v1_:Value,e=.returned (.tuple #[v0_,v1_])∧Kd.R Kd.string 9 w' w.heap.size (fun k_ => some k_≠(v1_:Value).ownBlock) v0_ r1∧Kd.R Kd.string 9 w' w.heap.size (fun k_ => some k_≠(v0_:Value).ownBlock) v1_ r2∧Below w.heap.size w w':=by
 have hu43:=Tryz.underlying43
 have HB:=Aside0.mk (Below.refl w.heap.size w)
 have H:(some ((([a0_0,a0_1,a0_2,a0_3,a0_4]:List ByteArray)),(([(⟨#[114,111,111,116]⟩:ByteArray),(⟨#[118,101,114,115,105,111,110]⟩:ByteArray),(⟨#[114,101,118,105,115,105,111,110]⟩:ByteArray),(⟨#[119,105,116,104,105,110]⟩:ByteArray),(⟨#[115,111,117,114,99,101]⟩:ByteArray)]:List ByteArray))))=some (r1,r2):=h
 clear h
 obtain ⟨y215,hy215⟩:∃ y_:List ByteArray,y_=(([a0_0,a0_1,a0_2,a0_3,a0_4]:List ByteArray)):=⟨_,rfl⟩
 replace H:(some (y215,(([(⟨#[114,111,111,116]⟩:ByteArray),(⟨#[118,101,114,115,105,111,110]⟩:ByteArray),(⟨#[114,101,118,105,115,105,111,110]⟩:ByteArray),(⟨#[119,105,116,104,105,110]⟩:ByteArray),(⟨#[115,111,117,114,99,101]⟩:ByteArray)]:List ByteArray))))=some (r1,r2):=by first|(rw [hy215];with_reducible exact H)|(have H2_:=(Option.bind_some _ _).symm.trans H;rw [hy215];with_reducible exact H2_)|(have H2_:=(Option.bind_some _ _).symm.trans H;with_reducible exact H2_)|with_reducible exact H|(rw [hy215];exact H)|exact H
 have Ny215:=Aside0.mk hy215
 clear hy215
 obtain ⟨y218,hy218⟩:∃ y_:List ByteArray,y_=(([(⟨#[114,111,111,116]⟩:ByteArray),(⟨#[118,101,114,115,105,111,110]⟩:ByteArray),(⟨#[114,101,118,105,115,105,111,110]⟩:ByteArray),(⟨#[119,105,116,104,105,110]⟩:ByteArray),(⟨#[115,111,117,114,99,101]⟩:ByteArray)]:List ByteArray)):=⟨_,rfl⟩
 replace H:(some (y215,y218))=some (r1,r2):=by first|(rw [hy218];with_reducible exact H)|(have H2_:=(Option.bind_some _ _).symm.trans H;rw [hy218];with_reducible exact H2_)|(have H2_:=(Option.bind_some _ _).symm.trans H;with_reducible exact H2_)|with_reducible exact H|(rw [hy218];exact H)|exact H
 have Ny218:=Aside0.mk hy218
 clear hy218
 simp only [Option.some.injEq,Prod.mk.injEq] at H
 obtain ⟨rfl,rfl⟩:=H
 go_enter Tryz.func33,Tryz.ntmps33
 go_wp2_with (first|((with_reducible refine gate_dst (N:=1) rfl ?_);refine box_event ?hg (N:=1) ?hd (cs:=#[.string a0_0,.string a0_1,.string a0_2,.string a0_3,.string a0_4]) (t:=43) ?hr ?_;(case hd => rfl);(case hg => rfl);(case hr => first|(go_simp;done)|(go_simp;rfl));intro gb214 hg w2 hbox hb;have n0_:=Aside0.mk (below_step (by repeat (first|(with_reducible first|exact HB.out|apply below_alloc|apply pw_below_drewN|apply below_drew1)|exact HB.out)) hb);have n1_:=Aside0.mk (hbox);have n2_:=Aside0.mk ((by rw [hg];exact (below_size (by repeat (first|(with_reducible first|exact HB.out|apply below_alloc|apply pw_below_drewN|apply below_drew1)|exact HB.out))):w.heap.size≤gb214));have n3_:=Aside0.mk ((by rw [hg];exact (below_size (by repeat (first|(with_reducible first|exact HB.out|apply below_alloc|apply pw_below_drewN|apply below_drew1)|exact HB.out))):w.heap.size≤gb214));clear HB;have HB:=n0_;have BK214:=n1_;have GW214:=n2_;have GE214:=n3_;clear n0_ n1_ n2_ n3_;clear hb hbox hg;have hcz3_0:w2.cell? ⟨gb214,0,none⟩=some (.string a0_0):=(blk_cell BK214.out 0).trans rfl;have hcz3_1:w2.cell? ⟨gb214,1,none⟩=some (.string a0_1):=(blk_cell BK214.out 1).trans rfl;have hcz3_2:w2.cell? ⟨gb214,2,none⟩=some (.string a0_2):=(blk_cell BK214.out 2).trans rfl;have hcz3_3:w2.cell? ⟨gb214,3,none⟩=some (.string a0_3):=(blk_cell BK214.out 3).trans rfl;have hcz3_4:w2.cell? ⟨gb214,4,none⟩=some (.string a0_4):=(blk_cell BK214.out 4).trans rfl;have hfz3_0:=blk_frozen BK214.out 0;have hfz3_1:=blk_frozen BK214.out 1;have hfz3_2:=blk_frozen BK214.out 2;have hfz3_3:=blk_frozen BK214.out 3;have hfz3_4:=blk_frozen BK214.out 4)|((with_reducible refine gate_dst (N:=14) rfl ?_);refine Kd.R_lit Kd.string _ 9 ?hg (N:=14) ?hd (xs:=([a0_0,a0_1,a0_2,a0_3,a0_4]:List ByteArray)) (inner:=[.string a0_0,.string a0_1,.string a0_2,.string a0_3,.string a0_4]) (ok:=fun _ => True) (okp:=fun _ => True) ?hr ?hp (fun _ hk => hk) trivial (Below.refl _ _) (Nat.le_refl _) (by simp) ?_;(case hd => rfl);(case hg => rfl);(case hr => first|(go_simp;done)|(go_simp;rfl));(case hp => exact (Reps.one (show Kd.M Kd.string _ _ _ a0_0 [.string a0_0] from rfl) (Reps.one (show Kd.M Kd.string _ _ _ a0_1 [.string a0_1] from rfl) (Reps.one (show Kd.M Kd.string _ _ _ a0_2 [.string a0_2] from rfl) (Reps.one (show Kd.M Kd.string _ _ _ a0_3 [.string a0_3] from rfl) (Reps.one (show Kd.M Kd.string _ _ _ a0_4 [.string a0_4] from rfl) (Reps.none _ _)))))));intro v216 w4 ho5 hb hg_ hnew_;clear hg_ hnew_;(first|rw [← Ny215.out] at ho5|(simp only [Int.reduceToNat] at ho5;rw [← Ny215.out] at ho5));have n0_:=Aside0.mk (Kd.R_lower ho5 (below_size (by repeat (first|(with_reducible first|exact HB.out|apply below_alloc|apply pw_below_drewN|apply below_drew1|refine below_set ?_ GE214.out)|exact HB.out))));have n1_:=Aside0.mk (blk_below (g:=gb214) (o:=.cells #[.string a0_0,.string a0_1,.string a0_2,.string a0_3,.string a0_4] 43 (0,0)) (by (with_reducible repeat (first|refine blk_drewN ?_ _|refine blk_drew ?_|refine blk_alloc ?_ _));exact BK214.out) hb);have n2_:=Aside0.mk (below_step (by repeat (first|(with_reducible first|exact HB.out|apply below_alloc|apply pw_below_drewN|apply below_drew1|refine below_set ?_ GE214.out)|exact HB.out)) hb);clear BK214;clear HB;have HO217:=n0_;have BK214:=n1_;have HB:=n2_;clear n0_ n1_ n2_;clear hb ho5)|((with_reducible refine gate_dst (N:=15) rfl ?_);refine Kd.R_lit Kd.string _ 9 ?hg (N:=15) ?hd (xs:=([(⟨#[114,111,111,116]⟩:ByteArray),(⟨#[118,101,114,115,105,111,110]⟩:ByteArray),(⟨#[114,101,118,105,115,105,111,110]⟩:ByteArray),(⟨#[119,105,116,104,105,110]⟩:ByteArray),(⟨#[115,111,117,114,99,101]⟩:ByteArray)]:List ByteArray)) (inner:=[.string (⟨#[114,111,111,116]⟩:ByteArray),.string (⟨#[118,101,114,115,105,111,110]⟩:ByteArray),.string (⟨#[114,101,118,105,115,105,111,110]⟩:ByteArray),.string (⟨#[119,105,116,104,105,110]⟩:ByteArray),.string (⟨#[115,111,117,114,99,101]⟩:ByteArray)]) (ok:=fun _ => True) (okp:=fun _ => True) ?hr ?hp (fun _ hk => hk) trivial (Below.refl _ _) (Nat.le_refl _) (by simp) ?_;(case hd => rfl);(case hg => rfl);(case hr => first|(go_simp;done)|(go_simp;rfl));(case hp => exact (Reps.one (show Kd.M Kd.string _ _ _ (⟨#[114,111,111,116]⟩:ByteArray) [.string (⟨#[114,111,111,116]⟩:ByteArray)] from rfl) (Reps.one (show Kd.M Kd.string _ _ _ (⟨#[118,101,114,115,105,111,110]⟩:ByteArray) [.string (⟨#[118,101,114,115,105,111,110]⟩:ByteArray)] from rfl) (Reps.one (show Kd.M Kd.string _ _ _ (⟨#[114,101,118,105,115,105,111,110]⟩:ByteArray) [.string (⟨#[114,101,118,105,115,105,111,110]⟩:ByteArray)] from rfl) (Reps.one (show Kd.M Kd.string _ _ _ (⟨#[119,105,116,104,105,110]⟩:ByteArray) [.string (⟨#[119,105,116,104,105,110]⟩:ByteArray)] from rfl) (Reps.one (show Kd.M Kd.string _ _ _ (⟨#[115,111,117,114,99,101]⟩:ByteArray) [.string (⟨#[115,111,117,114,99,101]⟩:ByteArray)] from rfl) (Reps.none _ _)))))));intro v219 w6 ho7 hb hg_ hnew_;clear hg_ hnew_;(first|rw [← Ny218.out] at ho7|(simp only [Int.reduceToNat] at ho7;rw [← Ny218.out] at ho7));have n0_:=Aside0.mk (Kd.R_elder' (by (with_reducible repeat (first|apply Kd.R_alloc|apply Kd.R_drewN|apply Kd.R_drew));exact HO217.out) (Kd.R_base ho7) hb);have n1_:=Aside0.mk (Kd.R_lower (Kd.R_new' ho7 (Kd.R_lt (by (with_reducible repeat (first|apply Kd.R_alloc|apply Kd.R_drewN|apply Kd.R_drew));exact HO217.out))) (below_size (by repeat (first|(with_reducible first|exact HB.out|apply below_alloc|apply pw_below_drewN|apply below_drew1|refine below_set ?_ GE214.out)|exact HB.out))));have n2_:=Aside0.mk (blk_below (g:=gb214) (o:=.cells #[.string a0_0,.string a0_1,.string a0_2,.string a0_3,.string a0_4] 43 (0,0)) (by (with_reducible repeat (first|refine blk_drewN ?_ _|refine blk_drew ?_|refine blk_alloc ?_ _));exact BK214.out) hb);have n3_:=Aside0.mk (below_step (by repeat (first|(with_reducible first|exact HB.out|apply below_alloc|apply pw_below_drewN|apply below_drew1|refine below_set ?_ GE214.out)|exact HB.out)) hb);clear HO217;clear BK214;clear HB;have HO217:=n0_;have HO220:=n1_;have BK214:=n2_;have HB:=n3_;clear n0_ n1_ n2_ n3_;clear hb ho7))
 go_ret2
 exact ⟨_,_,by first|rfl|(simp [errW_none,errW_some] <;> rfl)|(simp [*,errW_none,errW_some] <;> rfl),by (with_reducible repeat (first|apply Kd.R_alloc|apply Kd.R_drewN|apply Kd.R_drew));exact Kd.R_mono HO217.out (fun _ hk => hk.2),by (with_reducible repeat (first|apply Kd.R_alloc|apply Kd.R_drewN|apply Kd.R_drew));exact Kd.R_mono HO220.out (fun _ hk => hk.2),by repeat (first|(with_reducible first|exact HB.out|apply below_alloc|apply pw_below_drewN|apply below_drew1|refine below_set ?_ GE214.out)|exact HB.out)⟩
end Go.Proofs.YtjdjljgbfpkbdaaGreatDoor.Q
