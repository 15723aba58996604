import Derived.Test.YtjdjljgbfpkbdaaGreatDoorZQ0
namespace Go.Proofs.YtjdjljgbfpkbdaaGreatDoor.Q
open Go.RowKit Go.Proofs.YtjdjljgbfpkbdaaGreatDoorW.PrintWords Go.Proofs.YtjdjljgbfpkbdaaGreatDoorW.PrintLast Go.Proofs.YtjdjljgbfpkbdaaGreatDoorW.PrintMore
attribute [local go_sem] max2_int min2_int max_two min_two max_three min_three max_four min_four
set_option linter.unusedVariables false
set_option linter.unusedSimpArgs false
def transhumancelaw1_signs.f :Option (ByteArray):=some (⟨#[10,9,32,34,92,35,47,97,98,99,110,116,58,61,45,91,93,123,125,44,46,48,49,50,51,118,120,126,94,42,124,60,62,33,95,122,121,113]⟩:ByteArray)
set_option maxHeartbeats 8000000 in
set_option maxRecDepth 100000 in
theorem transhumancelaw1_signs.calls  (r:ByteArray) (w:World) (h:transhumancelaw1_signs.f =some r) :
  Calls Tryz.prog 73 #[] w fun e w' => e=.returned (.string r)∧Drawn0 w w':=by
 have H:(some (⟨#[10,9,32,34,92,35,47,97,98,99,110,116,58,61,45,91,93,123,125,44,46,48,49,50,51,118,120,126,94,42,124,60,62,33,95,122,121,113]⟩:ByteArray))=some r:=h
 clear h
 obtain rfl:=Option.some.inj H
 go_enter Tryz.func73,Tryz.ntmps73
 go_wp2
 go_ret
 exact ⟨by first|rfl|(simp;done)|(simp [*];done)|(simp;exact (fun l_:List UInt8 => by cases l_ <;> rfl:∀ l_:List UInt8,l_.isEmpty=!(l_ != [])) _),by repeat (first|exact Drawn0.refl _|apply Drawn0.step)⟩
def transhumancelaw1_within.f (a0:Int) (a1:Int):Option (Int):=if a1=0 then (none) else (if (Int.tmod a0 a1)<0 then (some (wrap64 ((Int.tmod a0 a1)+a1))) else (some (Int.tmod a0 a1)))
set_option maxHeartbeats 8000000 in
set_option maxRecDepth 100000 in
theorem transhumancelaw1_within.calls (a0:Int) (a1:Int) (r:Int) (w:World) (h:transhumancelaw1_within.f a0 a1=some r) :
  Calls Tryz.prog 74 #[.int .i64 a0,.int .i64 a1] w fun e w' => e=.returned (.int .i64 r)∧Drawn0 w w':=by
 have H:(if a1=0 then (none) else (if (Int.tmod a0 a1)<0 then (some (wrap64 ((Int.tmod a0 a1)+a1))) else (some (Int.tmod a0 a1))))=some r:=h
 clear h
 by_cases c3:a1=0
 ·rw [if_pos c3] at H
  exact absurd H (by simp)
 ·rw [if_neg c3] at H
  have c3b0:(a1 == 0)=false:=beq_eq_false_iff_ne.mpr c3
  have c3b1:(a1 != 0)=true:=bne_iff_ne.mpr c3
  by_cases c4:(Int.tmod a0 a1)<0
  ·rw [if_pos c4] at H
   have c4b0:decide ((Int.tmod a0 a1)<0)=true:=decide_eq_true c4
   clear c4
   obtain rfl:=Option.some.inj H
   go_enter Tryz.func74,Tryz.ntmps74
   go_wp2
   go_ret
   exact ⟨by first|rfl|(simp;done)|(simp [*];done)|(simp;exact (fun l_:List UInt8 => by cases l_ <;> rfl:∀ l_:List UInt8,l_.isEmpty=!(l_ != [])) _),by repeat (first|exact Drawn0.refl _|apply Drawn0.step)⟩
  ·rw [if_neg c4] at H
   have c4b0:decide ((Int.tmod a0 a1)<0)=false:=decide_eq_false c4
   clear c4
   obtain rfl:=Option.some.inj H
   go_enter Tryz.func74,Tryz.ntmps74
   go_wp2
   go_ret
   exact ⟨by first|rfl|(simp;done)|(simp [*];done)|(simp;exact (fun l_:List UInt8 => by cases l_ <;> rfl:∀ l_:List UInt8,l_.isEmpty=!(l_ != [])) _),by repeat (first|exact Drawn0.refl _|apply Drawn0.step)⟩
def transhumancelaw1_Plain.l0:Nat→List Int→Int→Option (ByteArray)
 | 0,_,_ => none
 | k+1,x5,x6 => if x6<(x5.length:Int) then ((transhumancelaw1_signs.f).bind fun t185 => (if 0≤x6 then ((transhumancelaw1_signs.f).bind fun t187 => ((transhumancelaw1_within.f (wrap64 (rd x5 x6)) (t187.size:Int)).bind fun t188 => (if 0≤t188 then (if t188<(t185.size:Int) then (transhumancelaw1_Plain.l0 k (x5.set (x6:Int).toNat (bt t185 t188)) (wrap64 (x6+1))) else (none)) else (none)))) else (none))) else (some (strOfNums x5))
def transhumancelaw1_Plain.f (k:Nat) (l0:List Int) (a1:Int):Option (ByteArray):=(some (([]:List Int):List Int)).bind fun y178 => (if 0≤(mn (l0.length:Int) a1) then (if (mn (l0.length:Int) a1)≤(l0.length:Int) then (if y178.length+(l0.take ((mn (l0.length:Int) a1):Int).toNat).length<140737488355328 then (transhumancelaw1_Plain.l0 k (y178++(l0.take ((mn (l0.length:Int) a1):Int).toNat)) 0) else (none)) else (none)) else (none))
def transhumancelaw1_Plain.T5:Bool × List (List Nat × List Nat):=(true,[([],[]),([],[]),([],[]),([],[]),([],[]),([3,4],[3,4]),([5],[5]),([6],[6]),([2],[]),([8],[8]),([7,9,8],[7,9]),([2,10],[2,10]),([0,1,0,1,2,3,4,5,6,7,8,9,10,11],[0,1]),([12,11,10,0,1,2,3,4,5,6,7,8,9,10,11],[11,12])])
def transhumancelaw1_Plain.B5:List Nat:=[0,0,0,0,0,24,56,120,4,260,1020,2044,4095,8191]
theorem transhumancelaw1_Plain.tab5:rtab .any (opsOf Tryz.f44 5)=transhumancelaw1_Plain.T5:=by kernel_rfl
theorem transhumancelaw1_Plain.bits5:waitsOk transhumancelaw1_Plain.T5.2 transhumancelaw1_Plain.B5=true:=by kernel_rfl
set_option maxHeartbeats 8000000 in
set_option maxRecDepth 100000 in
theorem transhumancelaw1_Plain.calls (k:Nat) (A0:Option Addr) (c0:Nat) (l0:List Int) (a1:Int) (r:ByteArray) (w:World) (hr0:Kd.C (Kd.int .u8) w A0 l0.length l0) (hc0:l0.length≤c0) (h:transhumancelaw1_Plain.f k l0 a1=some r) :
  Calls Tryz.prog 44 #[.slice A0 l0.length c0,.int .i64 a1] w fun e w' => e=.returned (.string r)∧Below w.heap.size w w':=by
 have HR0:=Aside0.mk hr0
 have HC0:=Aside0.mk hc0
 clear hr0 hc0
 have HB:=Aside0.mk (Below.refl w.heap.size w)
 have H:((some (([]:List Int):List Int)).bind fun y178 => (if 0≤(mn (l0.length:Int) a1) then (if (mn (l0.length:Int) a1)≤(l0.length:Int) then (if y178.length+(l0.take ((mn (l0.length:Int) a1):Int).toNat).length<140737488355328 then (transhumancelaw1_Plain.l0 k (y178++(l0.take ((mn (l0.length:Int) a1):Int).toNat)) 0) else (none)) else (none)) else (none)))=some r:=h
 clear h
 obtain ⟨y178,hy178⟩:∃ y_:List Int,y_=(([]:List Int)):=⟨_,rfl⟩
 replace H:(if 0≤(mn (l0.length:Int) a1) then (if (mn (l0.length:Int) a1)≤(l0.length:Int) then (if y178.length+(l0.take ((mn (l0.length:Int) a1):Int).toNat).length<140737488355328 then (transhumancelaw1_Plain.l0 k (y178++(l0.take ((mn (l0.length:Int) a1):Int).toNat)) 0) else (none)) else (none)) else (none))=some r:=by first|(rw [hy178];with_reducible exact H)|(have H2_:=(Option.bind_some _ _).symm.trans H;rw [hy178];with_reducible exact H2_)|(have H2_:=(Option.bind_some _ _).symm.trans H;with_reducible exact H2_)|with_reducible exact H|(rw [hy178];exact H)|exact H
 have Ny178:=Aside0.mk hy178
 clear hy178
 obtain ⟨ji3,hji3⟩:∃ j_:Int,(mn (l0.length:Int) a1)=j_:=⟨_,rfl⟩
 replace H:(if 0≤(ji3) then (if (ji3)≤(l0.length:Int) then (if y178.length+(l0.take ((ji3):Int).toNat).length<140737488355328 then (transhumancelaw1_Plain.l0 k (y178++(l0.take ((ji3):Int).toNat)) 0) else (none)) else (none)) else (none))=some r:=by first|(rw [hji3] at H;exact H)|(simp only [hji3] at H ⊢;exact H)
 have hji3_:(if a1<(l0.length:Int) then a1 else (l0.length:Int))=ji3:=hji3
 by_cases c4:0≤(ji3)
 ·rw [if_pos c4] at H
  have c4b0:=eq_true c4
  have c4b1:decide (0≤(ji3))=true:=decide_eq_true c4
  clear c4
  by_cases c5:(ji3)≤(l0.length:Int)
  ·rw [if_pos c5] at H
   have c5b0:=eq_true c5
   have c5b1:decide ((ji3)≤(l0.length:Int))=true:=decide_eq_true c5
   clear c5
   by_cases c6:y178.length+(l0.take ((ji3):Int).toNat).length<140737488355328
   ·rw [if_pos c6] at H
    have LMc6:=Aside0.mk c6
    clear c6
    obtain ⟨y182,hy182⟩:∃ y_:List Int,y_=(y178++(l0.take ((ji3):Int).toNat)):=⟨_,rfl⟩
    replace H:(transhumancelaw1_Plain.l0 k y182 0)=some r:=by first|(rw [hy182];with_reducible exact H)|(have H2_:=(Option.bind_some _ _).symm.trans H;rw [hy182];with_reducible exact H2_)|(have H2_:=(Option.bind_some _ _).symm.trans H;with_reducible exact H2_)|with_reducible exact H|(rw [hy182];exact H)|exact H
    have Ny182:=Aside0.mk hy182
    clear hy182
    have H':=Aside0.mk H
    clear H
    go_enter Tryz.func44,Tryz.ntmps44
    go_wp2_with (first|((with_reducible refine gate_dst (N:=7) rfl ?_);refine Kd.R_lit (Kd.int .u8) _ 5 ?hg (N:=7) ?hd (xs:=([]:List Int)) (inner:=[]) (ok:=fun _ => True) (okp:=fun _ => True) ?hr ?hp (fun _ hk => hk) trivial (Below.refl _ _) (Nat.le_refl _) (by simp) ?_;(case hd => rfl);(case hg => rfl);(case hr => first|(go_simp;done)|(go_simp;rfl));(case hp => exact (Reps.none _ _));intro v179 w7 ho8 hb hg_ hnew_;clear hg_ hnew_;(first|rw [← Ny178.out] at ho8|(simp only [Int.reduceToNat] at ho8;rw [← Ny178.out] at ho8));have n0_:=Aside0.mk (Kd.R_lower ho8 (below_size (by repeat (first|(with_reducible first|exact HB.out|apply below_alloc|apply pw_below_drewN|apply below_drew1)|exact HB.out))));have n1_:=Aside0.mk (below_step (by repeat (first|(with_reducible first|exact HB.out|apply below_alloc|apply pw_below_drewN|apply below_drew1)|exact HB.out)) hb);clear HB;have HO180:=n0_;have HB:=n1_;clear n0_ n1_;clear hb ho8;obtain ⟨i09,hi09,_,hsz9,_⟩:=info_parts info5;obtain ⟨hcut9,hA9,hC9⟩:=print_take_of (P:=Tryz.prog) (Value.int .u8) 0 23 5 .i64 Tryz.underlying23 hi09 hsz9 A0 c0 l0 (ji3) (of_decide_eq_true (by first|(with_reducible assumption)|assumption)) (of_decide_eq_true (by first|(with_reducible assumption)|assumption)) HC0.out;have HR181:=Aside0.mk (Kd.C_of_reads (h1:=fun _ => rfl) (hA9 _ (Kd.reads_of_C HR0.out)));have HC181:=Aside0.mk hC9;clear hA9 hC9 hi09 hsz9)|((with_reducible refine gate_builtin (b:=.append) (xs:=#[.tmp 7,.tmp 13]) rfl ?_);at_builtin;refine Kd.R_append_rows (Kd.int .u8) (w0:=w) w.heap.size rfl (.tmp 7) (.tmp 13) 23 5 (.int .u8 0) 1 rfl Tryz.underlying23 info5 rfl (by decide) (by omega) v179 y178 (l0.take ((ji3):Int).toNat) _ _ _ (fun _ => True) (fun _ => False) rfl rfl ?aO ?aR (fun _ _ h => h) (fun _ h => h.elim) ?aF ?aB ?aS ?aL ?_;(case aR => first|(refine Eq.mp (congrArg (fun z_ => ReadsRow _ _ _ _ z_ _) (show (l0.take ((ji3):Int).toNat).length=(ji3).toNat from (by rw [List.length_take];have h_:((ji3):Int)≤(l0.length:Int):=of_decide_eq_true (by first|(with_reducible assumption)|assumption);omega))) ?_;(repeat (first|exact (Kd.C_below HR181.out HB.out)|(with_reducible refine Kd.C_alloc ?_ _)|(with_reducible refine Kd.C_drewN ?_ _)|(with_reducible refine Kd.C_drew ?_)));done)|(repeat (first|exact (Kd.C_below HR181.out HB.out)|(with_reducible refine Kd.C_alloc ?_ _)|(with_reducible refine Kd.C_drewN ?_ _)|(with_reducible refine Kd.C_drew ?_))));(case aB => exact (by repeat (first|(with_reducible first|exact HB.out|apply below_alloc|apply pw_below_drewN|apply below_drew1)|exact HB.out)));(case aF => exact (fun _ _ => trivial));(case aO => exact (by (with_reducible repeat (first|apply Kd.R_alloc|apply Kd.R_drewN|apply Kd.R_drew));exact HO180.out));(case aS => exact (below_size (by repeat (first|(with_reducible first|exact HB.out|apply below_alloc|apply pw_below_drewN|apply below_drew1)|exact HB.out))));(case aL => have:=LMc6.out;have hlx_:=(show (l0.take ((ji3):Int).toNat).length=(ji3).toNat from (by rw [List.length_take];have h_:((ji3):Int)≤(l0.length:Int):=of_decide_eq_true (by first|(with_reducible assumption)|assumption);omega));omega);intro v183 w10 ho hb hg hat;rw [← Ny182.out] at ho;have n0_:=Aside0.mk (hb);have n1_:=Aside0.mk (ho);clear HB;clear HO180;have HB:=n0_;have HO184:=n1_;clear n0_ n1_;clear ho hb hg hat))
    go_loopg [6] k (fun kq v6 w' => ∃ (x5_1:List Int) (x6_1:Int),v6=.int .i64 x6_1∧Aside0 (transhumancelaw1_Plain.l0 kq x5_1 x6_1=some r)∧Aside0 (kq≤k)∧Aside0 (Kd.R (Kd.int .u8) 5 w' w.heap.size (fun _ => True) v183 x5_1)∧Aside0 (Below w.heap.size w w'))
    case atStart => exact ⟨(y182),(0),(by first|rfl|(simp;done)|(simp [*];done)|(simp;exact (fun l_:List UInt8 => by cases l_ <;> rfl:∀ l_:List UInt8,l_.isEmpty=!(l_ != [])) _)),H',⟨Nat.le_refl _⟩,⟨by (with_reducible repeat (first|apply Kd.R_alloc|apply Kd.R_drewN|apply Kd.R_drew));exact HO184.out⟩,⟨by repeat (first|(with_reducible first|exact HB.out|apply below_alloc|apply pw_below_drewN|apply below_drew1)|exact HB.out)⟩⟩
    case round =>
     clear H'
     try clear p2
     try clear c4
     try clear c4b0
     try clear c4b1
     try clear c5
     try clear c5b0
     try clear c5b1
     try clear c6
     obtain ⟨x5_1,x6_1,rfl,HA,HK1,HO_5,HB⟩:=hrel
     cases gk with
     | zero => exact absurd HA.out (by simp [transhumancelaw1_Plain.l0])
     | succ k1 =>
      have H:=HA.out
      clear HA
      simp only [transhumancelaw1_Plain.l0] at H
      by_cases c11:x6_1<(x5_1.length:Int)
      ·rw [if_pos c11] at H
       have c11b0:decide (x6_1<(x5_1.length:Int))=true:=decide_eq_true c11
       clear c11
       replace H:=Option.bind_eq_some_iff.mp H
       obtain ⟨t185,A120,H⟩:=H
       replace H:(if 0≤x6_1 then ((transhumancelaw1_signs.f).bind fun t187 => ((transhumancelaw1_within.f (wrap64 (rd x5_1 x6_1)) (t187.size:Int)).bind fun t188 => (if 0≤t188 then (if t188<(t185.size:Int) then (transhumancelaw1_Plain.l0 k1 (x5_1.set (x6_1:Int).toNat (bt t185 t188)) (wrap64 (x6_1+1))) else (none)) else (none)))) else (none))=some r:=H
       have A12:=Aside0.mk A120
       clear A120
       by_cases c13:0≤x6_1
       ·rw [if_pos c13] at H
        have c13b0:decide (0≤x6_1)=true:=decide_eq_true c13
        clear c13
        replace H:=Option.bind_eq_some_iff.mp H
        obtain ⟨t187,A140,H⟩:=H
        replace H:((transhumancelaw1_within.f (wrap64 (rd x5_1 x6_1)) (t187.size:Int)).bind fun t188 => (if 0≤t188 then (if t188<(t185.size:Int) then (transhumancelaw1_Plain.l0 k1 (x5_1.set (x6_1:Int).toNat (bt t185 t188)) (wrap64 (x6_1+1))) else (none)) else (none)))=some r:=H
        have A14:=Aside0.mk A140
        clear A140
        replace H:=Option.bind_eq_some_iff.mp H
        obtain ⟨t188,A150,H⟩:=H
        replace H:(if 0≤t188 then (if t188<(t185.size:Int) then (transhumancelaw1_Plain.l0 k1 (x5_1.set (x6_1:Int).toNat (bt t185 t188)) (wrap64 (x6_1+1))) else (none)) else (none))=some r:=H
        have A15:=Aside0.mk A150
        clear A150
        by_cases c16:0≤t188
        ·rw [if_pos c16] at H
         have c16b0:decide (0≤t188)=true:=decide_eq_true c16
         clear c16
         by_cases c17:t188<(t185.size:Int)
         ·rw [if_pos c17] at H
          have c17b0:decide (t188<(t185.size:Int))=true:=decide_eq_true c17
          clear c17
          obtain ⟨y189,hy189⟩:∃ y_:List Int,y_=(x5_1.set (x6_1:Int).toNat (bt t185 t188)):=⟨_,rfl⟩
          replace H:(transhumancelaw1_Plain.l0 k1 y189 (wrap64 (x6_1+1)))=some r:=by first|(rw [hy189];with_reducible exact H)|(have H2_:=(Option.bind_some _ _).symm.trans H;rw [hy189];with_reducible exact H2_)|(have H2_:=(Option.bind_some _ _).symm.trans H;with_reducible exact H2_)|with_reducible exact H|(rw [hy189];exact H)|exact H
          have Ny189:=Aside0.mk hy189
          clear hy189
          have H':=Aside0.mk H
          clear H
          obtain ⟨Ao20,co20,eo20⟩:=Kd.R_slice HO_5.out
          subst eo20
          try go_wp2
          have n0_:=Aside0.mk (Kd.R_drew HO_5.out)
          have n1_:=Aside0.mk (below_drew1 HB.out)
          clear HO_5
          clear HB
          have HO_5:=n0_
          have HB:=n1_
          clear n0_ n1_
          have p186:0≤(x6_1:Int):=of_decide_eq_true (by first|(with_reducible assumption)|assumption)
          have q186:x6_1<(x5_1.length:Int):=of_decide_eq_true (by first|(with_reducible assumption)|assumption)
          obtain ⟨ad186,e186,hx186_0⟩:=Kd.at_int (Kd.R_reads' HO_5.out).2.2 x6_1 p186 q186
          cases e186
          replace p186:=eq_true p186
          replace q186:=eq_true q186
          refine start_ (n:=14) (S:=fun w' => w'.cell? (ad186.add (x6_1).toNat)=some (.int .u8 (rd x5_1 x6_1))) (ds:=[13]) #[false,false,false,false,false,false,false,false,false,false,false,false,false,false] (by kernel_rfl) rfl rfl (hx186_0) (fun hHeld => ?_);refine with_tabW transhumancelaw1_Plain.tab5 transhumancelaw1_Plain.bits5 (fun HT_ HW_ => ?_)
          generalize wr.drew=w21 at HO_5 HB hx186_0 hHeld ⊢
          refine pure_ (i:=0) (N:=some 21) (v:=?_) (a':=?_) #[true,false,false,false,false,false,false,false,false,false,false,false,false,false] rfl rfl (any_of HT_.out (by kernel_rfl)) (fun _ _ _ h => h) (Or.inl ⟨by rfl,?_⟩) ?_ ?_
          rotate_left
          ·intro w'
           go_simp
           with_reducible rfl
          rotate_left
          ·simp only [Act.put,List.setIfInBounds_toArray,List.set_cons_zero,List.set_cons_succ,i64_w,i32_w]
           rfl
          refine pure_ (i:=1) (N:=some 22) (v:=?_) (a':=?_) #[true,true,false,false,false,false,false,false,false,false,false,false,false,false] rfl rfl (any_of HT_.out (by kernel_rfl)) (fun _ _ _ h => h) (Or.inl ⟨by rfl,?_⟩) ?_ ?_
          rotate_left
          ·intro w'
           go_simp
           with_reducible rfl
          rotate_left
          ·simp only [Act.put,List.setIfInBounds_toArray,List.set_cons_zero,List.set_cons_succ,i64_w,i32_w]
           rfl
          refine pure_ (i:=3) (N:=some 24) (v:=?_) (a':=?_) #[true,true,false,true,false,false,false,false,false,false,false,false,false,false] rfl rfl (any_of HT_.out (by kernel_rfl)) (fun _ _ _ h => h) (Or.inl ⟨by rfl,?_⟩) ?_ ?_
          rotate_left
          ·intro w'
           go_simp
           with_reducible rfl
          rotate_left
          ·simp only [Act.put,List.setIfInBounds_toArray,List.set_cons_zero,List.set_cons_succ,i64_w,i32_w]
           rfl
          refine pure_ (i:=4) (N:=some 25) (v:=?_) (a':=?_) #[true,true,false,true,true,false,false,false,false,false,false,false,false,false] rfl rfl (any_of HT_.out (by kernel_rfl)) (fun _ _ _ h => h) (Or.inl ⟨by rfl,?_⟩) ?_ ?_
          rotate_left
          ·intro w'
           go_simp
           with_reducible rfl
          rotate_left
          ·simp only [Act.put,List.setIfInBounds_toArray,List.set_cons_zero,List.set_cons_succ,i64_w,i32_w]
           rfl
          refine pure_ (i:=5) (N:=some 26) (v:=?_) (a':=?_) #[true,true,false,true,true,true,false,false,false,false,false,false,false,false] rfl rfl (any_of HT_.out (by kernel_rfl)) (fun _ _ _ h => h) (Or.inl ⟨by rfl,?_⟩) ?_ ?_
          rotate_left
          ·intro w'
           go_simp
           with_reducible rfl
          rotate_left
          ·simp only [Act.put,List.setIfInBounds_toArray,List.set_cons_zero,List.set_cons_succ,i64_w,i32_w]
           rfl
          refine take_ (i:=6) (N:=some 27) (v:=?_) (a':=?_) #[true,true,false,true,true,true,true,false,false,false,false,false,false,false] rfl rfl (take_ofW HT_.out HW_.out (by kernel_rfl)) (fun _ _ _ h => h) (Or.inl ⟨by rfl,?_⟩) hHeld ?_ ?_
          rotate_left
          ·intro w' s0
           go_simp
           with_reducible rfl
          rotate_left
          ·simp only [Act.put,List.setIfInBounds_toArray,List.set_cons_zero,List.set_cons_succ,i64_w,i32_w]
           rfl
          refine pure_ (i:=7) (N:=some 28) (v:=?_) (a':=?_) #[true,true,false,true,true,true,true,true,false,false,false,false,false,false] rfl rfl (any_of HT_.out (by kernel_rfl)) (fun _ _ _ h => h) (Or.inl ⟨by rfl,?_⟩) ?_ ?_
          rotate_left
          ·intro w'
           go_simp
           with_reducible rfl
          rotate_left
          ·simp only [Act.put,List.setIfInBounds_toArray,List.set_cons_zero,List.set_cons_succ,i64_w,i32_w]
           rfl
          refine one_ (i:=2) (N:=some 23) #[true,true,true,true,true,true,true,true,false,false,false,false,false,false] rfl rfl (one_of HT_.out (by kernel_rfl)) (by decide) (fun K hK => ?_)
          refine goes_ Tryz.func73 (by kernel_rfl) rfl #[] (by rfl) rfl rfl (by (try simp only [List.map_toArray,List.map_cons,List.map_nil]);first|done|rfl|(simp only [List.length_drop,List.length_take];rfl)) ?_
          with_reducible refine (transhumancelaw1_signs.calls  t185 _ A12.out).mono ?_
          rintro e w' ⟨rfl,⟨nd,rfl⟩⟩
          refine ⟨_,rfl,?_⟩
          refine hK.out _ _ (hHeld) (fun hHeld => ?_)
          clear hK K
          refine norm_ (a':=?_) ?_ ?_
          rotate_left
          ·show Act.put _ (some 23) _=_
           simp only [Act.put,List.setIfInBounds_toArray,List.set_cons_zero,List.set_cons_succ,i64_w,i32_w]
           rfl
          refine one_ (i:=8) (N:=some 29) #[true,true,true,true,true,true,true,true,true,false,false,false,false,false] rfl rfl (one_of HT_.out (by kernel_rfl)) (by decide) (fun K hK => ?_)
          refine goes_ Tryz.func73 (by kernel_rfl) rfl #[] (by rfl) rfl rfl (by (try simp only [List.map_toArray,List.map_cons,List.map_nil]);first|done|rfl|(simp only [List.length_drop,List.length_take];rfl)) ?_
          with_reducible refine (transhumancelaw1_signs.calls  t187 _ A14.out).mono ?_
          rintro e w' ⟨rfl,⟨nd,rfl⟩⟩
          refine ⟨_,rfl,?_⟩
          refine hK.out _ _ (hHeld) (fun hHeld => ?_)
          clear hK K
          refine norm_ (a':=?_) ?_ ?_
          rotate_left
          ·show Act.put _ (some 29) _=_
           simp only [Act.put,List.setIfInBounds_toArray,List.set_cons_zero,List.set_cons_succ,i64_w,i32_w]
           rfl
          refine pure_ (i:=9) (N:=some 30) (v:=?_) (a':=?_) #[true,true,true,true,true,true,true,true,true,true,false,false,false,false] rfl rfl (any_of HT_.out (by kernel_rfl)) (fun _ _ _ h => h) (Or.inl ⟨by rfl,?_⟩) ?_ ?_
          rotate_left
          ·intro w'
           go_simp
           with_reducible rfl
          rotate_left
          ·simp only [Act.put,List.setIfInBounds_toArray,List.set_cons_zero,List.set_cons_succ,i64_w,i32_w]
           rfl
          refine one_ (i:=10) (N:=some 31) #[true,true,true,true,true,true,true,true,true,true,true,false,false,false] rfl rfl (one_of HT_.out (by kernel_rfl)) (by decide) (fun K hK => ?_)
          refine goes_ Tryz.func74 (by kernel_rfl) rfl #[.int .i64 (wrap64 (rd x5_1 x6_1)),.int .i64 (t187.size:Int)] (by rfl) rfl rfl (by (try simp only [List.map_toArray,List.map_cons,List.map_nil]);first|done|rfl|(simp only [List.length_drop,List.length_take];rfl)) ?_
          with_reducible refine (transhumancelaw1_within.calls (wrap64 (rd x5_1 x6_1)) (t187.size:Int) t188 _ A15.out).mono ?_
          rintro e w' ⟨rfl,⟨nd,rfl⟩⟩
          refine ⟨_,rfl,?_⟩
          have p18:0≤(t188:Int):=of_decide_eq_true (by first|(with_reducible assumption)|assumption)
          have q18:t188<(t185.size:Int):=of_decide_eq_true (by first|(with_reducible assumption)|assumption)
          have hx18:=bt_at t185 t188
          replace p18:=eq_true p18
          replace q18:=eq_true q18
          have p19:0≤(x6_1:Int):=of_decide_eq_true (by first|(with_reducible assumption)|assumption)
          have q19:(x6_1:Int)<((x5_1.length:Int):Int):=of_decide_eq_true (by first|(with_reducible assumption)|assumption)
          obtain ⟨go19,co19,eo19,gb19,gl19,cl19,HG19⟩:=Kd.R_form HO_5.out (by omega)
          (first|cases eo19|(injection eo19 with ea_ en_ ec_;(first|subst ea_|(injection ea_ with ea_;subst ea_));subst ec_;clear en_))
          have GB19:=Aside0.mk gb19
          have GG19:=Aside0.mk HG19
          clear gb19 gl19 HG19
          (first|simp only [add_plain] at hx186_0|skip)
          obtain ⟨hx19_0,hf19_0⟩:=Kd.R_celln 0 HO_5.out (x6_1:Int) p19 q19
          replace p19:=eq_true p19
          replace q19:=eq_true q19
          have HP22:=Kd.R_putn HO_5.out (x6_1:Int) (bt t185 t188)
          rw [← Ny189.out] at HP22
          have HQ22:=Aside0.mk HP22
          clear HP22
          refine hK.out _ _ (hHeld) (fun hHeld => ?_)
          clear hK K
          refine norm_ (a':=?_) ?_ ?_
          rotate_left
          ·show Act.put _ (some 31) _=_
           simp only [Act.put,List.setIfInBounds_toArray,List.set_cons_zero,List.set_cons_succ,i64_w,i32_w]
           rfl
          refine take_ (i:=11) (N:=some 32) (v:=?_) (a':=?_) #[true,true,true,true,true,true,true,true,true,true,true,true,false,false] rfl rfl (take_ofW HT_.out HW_.out (by kernel_rfl)) (fun _ _ _ h => h) (Or.inl ⟨by rfl,?_⟩) hHeld ?_ ?_
          rotate_left
          ·intro w' s0
           go_simp
           with_reducible rfl
          rotate_left
          ·simp only [Act.put,List.setIfInBounds_toArray,List.set_cons_zero,List.set_cons_succ,i64_w,i32_w]
           rfl
          refine pure_ (i:=12) (N:=some 33) (v:=?_) (a':=?_) #[true,true,true,true,true,true,true,true,true,true,true,true,true,false] rfl rfl (any_of HT_.out (by kernel_rfl)) (fun _ _ _ h => h) (Or.inl ⟨by rfl,?_⟩) ?_ ?_
          rotate_left
          ·intro w'
           go_simp
           with_reducible rfl
          rotate_left
          ·simp only [Act.put,List.setIfInBounds_toArray,List.set_cons_zero,List.set_cons_succ,i64_w,i32_w]
           rfl
          refine last_ (i:=13) (N:=none) #[true,true,true,true,true,true,true,true,true,true,true,true,true,true] rfl rfl (one_of HT_.out (by kernel_rfl)) (by decide) (fun K hK => ?_)
          refine skip_ (w1:=?_) (by rfl) rfl ?_ ?_
          rotate_left
          ·go_simp
           rfl
          refine hK.out _ _ ?_
          clear hK K
          refine done_ (done_of HT_.out (by kernel_rfl)) ?_
          try go_wp2
          go_roundg k1
          case measure => have:=HK1.out;omega
          case rel => exact ⟨(y189),(wrap64 (x6_1+1)),(by first|rfl|(simp;done)|(simp [*];done)|(simp;exact (fun l_:List UInt8 => by cases l_ <;> rfl:∀ l_:List UInt8,l_.isEmpty=!(l_ != [])) _)),H',⟨by have:=HK1.out;omega⟩,⟨by (with_reducible repeat (first|apply Kd.R_alloc|apply Kd.R_drewN|apply Kd.R_drew));exact HQ22.out⟩,⟨by repeat (first|(with_reducible first|exact HB.out|apply below_alloc|apply pw_below_drewN|apply below_drew1|refine below_set ?_ GB19.out)|exact HB.out)⟩⟩
         ·rw [if_neg c17] at H
          exact absurd H (by simp)
        ·rw [if_neg c16] at H
         exact absurd H (by simp)
       ·rw [if_neg c13] at H
        exact absurd H (by simp)
      ·rw [if_neg c11] at H
       have c11b0:decide (x6_1<(x5_1.length:Int))=false:=decide_eq_false c11
       clear c11
       obtain rfl:=Option.some.inj H
       obtain ⟨Ao23,co23,eo23⟩:=Kd.R_slice HO_5.out
       subst eo23
       have hcv24:=own_string (P:=Tryz.prog) Tryz.underlying23 Tryz.underlying5 Tryz.underlying9 (Kd.own_of_R HO_5.out)
       go_wp2
       go_ret
       exact ⟨by first|rfl|(simp [errW_none,errW_some] <;> rfl)|(simp only [← hji3];first|rfl|(simp [errW_none,errW_some] <;> rfl))|(simp [*,errW_none,errW_some] <;> rfl),by repeat (first|(with_reducible first|exact HB.out|apply below_alloc|apply pw_below_drewN|apply below_drew1)|exact HB.out)⟩
   ·rw [if_neg c6] at H
    exact absurd H (by simp)
  ·rw [if_neg c5] at H
   exact absurd H (by simp)
 ·rw [if_neg c4] at H
  exact absurd H (by simp)
end Go.Proofs.YtjdjljgbfpkbdaaGreatDoor.Q
