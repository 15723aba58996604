import Derived.Test.YtjdjljgbfpkbdaaGreatDoorZQ0
import Derived.Test.YtjdjljgbfpkbdaaGreatDoorZQ1
import Derived.Test.YtjdjljgbfpkbdaaGreatDoorZQ4g
import Derived.Test.YtjdjljgbfpkbdaaGreatDoorZQ21
import Derived.Test.YtjdjljgbfpkbdaaGreatDoorZQ23
import Derived.Test.YtjdjljgbfpkbdaaGreatDoorZQ24
import Derived.Test.YtjdjljgbfpkbdaaGreatDoorZDLocks
import Derived.Test.YtjdjljgbfpkbdaaGreatDoorZDRef
import Derived.Test.YtjdjljgbfpkbdaaGreatDoorZDTurned
import Derived.Test.YtjdjljgbfpkbdaaGreatDoorZDkn
namespace Go.Proofs.YtjdjljgbfpkbdaaGreatDoor.Q
open Go.RowKit Go.Proofs.YtjdjljgbfpkbdaaGreatDoorW.PrintWords Go.Proofs.YtjdjljgbfpkbdaaGreatDoorW.PrintLast Go.Proofs.YtjdjljgbfpkbdaaGreatDoorW.PrintMore
attribute [local go_sem] max2_int min2_int max_two min_two max_three min_three max_four min_four
set_option linter.unusedVariables false
set_option linter.unusedSimpArgs false
attribute [local go_sem high] eqA29
mutual
def transhumancelaw7_DentReads.j0:Nat→List Int→List Int→Int→Int→Int→ByteArray→ByteArray→Bool→Option (Bool)
 | 0,_,_,_,_,_,_,_,_ => none
 | k+1,x0,x1,x2,x3,x4,x5,x6,x40 => if x40=true then (some true) else ((transhumancelaw5_Locks.f k x0 x1 6).bind fun t237 => ((transhumanceref7_Write.f k t237).bind fun t240 => ((transhumancelaw7_within.f x4 (wrap64 ((t240.size:Int)+1))).bind fun t241 => ((some (([(⟨#[10]⟩:ByteArray),(⟨#[32]⟩:ByteArray),(⟨#[35]⟩:ByteArray),(⟨#[35,32,120,10]⟩:ByteArray),(⟨#[45,32,114,111,111,116,58,32,113,10]⟩:ByteArray),(⟨#[32,32,114,111,111,116,58,32,113,10]⟩:ByteArray),(⟨#[32,32,118,101,114,115,105,111,110,58,32,118,49,46,48,46,48,10]⟩:ByteArray),(⟨#[58]⟩:ByteArray),(⟨#[34]⟩:ByteArray),(⟨#[45]⟩:ByteArray),(⟨#[32,32,119,105,116,104,105,110,58,32,34,34,10]⟩:ByteArray),(⟨#[32,32,120,58,32,121,10]⟩:ByteArray),(⟨#[9]⟩:ByteArray),(⟨#[108,111,99,107,115,58,10]⟩:ByteArray),(⟨#[32,32,115,111,117,114,99,101,58,32,34,34,10]⟩:ByteArray),(⟨#[32,32,32]⟩:ByteArray)]:List ByteArray):List ByteArray)).bind fun y242 => ((transhumancelaw7_within.f x2 16).bind fun t245 => (if 0≤t245 then (if t245<(y242.length:Int) then ((transhumancelaw7_turned.f t240 x2 x3).bind fun t247 => (if 0≤t241 then (if t241≤(t240.size:Int) then (if (t240.extract 0 (t241:Int).toNat).size+x5.size≤9223372036854775807 then (if ((t240.extract 0 (t241:Int).toNat)++x5).size+(t240.extract (t241:Int).toNat t240.size).size≤9223372036854775807 then (if (t240.extract 0 (t241:Int).toNat).size+(rdOf ByteArray.empty y242 t245).size≤9223372036854775807 then (if ((t240.extract 0 (t241:Int).toNat)++(rdOf ByteArray.empty y242 t245)).size+(t240.extract (t241:Int).toNat t240.size).size≤9223372036854775807 then (if t240.size+(rdOf ByteArray.empty y242 t245).size≤9223372036854775807 then (if 9+x6.size≤9223372036854775807 then (if (rdOf ByteArray.empty y242 t245).size+t240.size≤9223372036854775807 then (if t240.size+t240.size≤9223372036854775807 then (if 15+x6.size≤9223372036854775807 then (transhumancelaw7_DentReads.l0 k (([t247,t240.extract 0 (t241:Int).toNat,((t240.extract 0 (t241:Int).toNat)++x5)++(t240.extract (t241:Int).toNat t240.size),x6,((t240.extract 0 (t241:Int).toNat)++(rdOf ByteArray.empty y242 t245))++(t240.extract (t241:Int).toNat t240.size),t240++(rdOf ByteArray.empty y242 t245),(⟨#[108,111,99,107,115,58,10,45,32]⟩:ByteArray)++x6,(rdOf ByteArray.empty y242 t245)++t240,t240++t240,(⟨#[108,111,99,107,115,58,10,45,32,114,111,111,116,58,32]⟩:ByteArray)++x6]:List ByteArray)) 0) else (none)) else (none)) else (none)) else (none)) else (none)) else (none)) else (none)) else (none)) else (none)) else (none)) else (none))) else (none)) else (none)))))))
def transhumancelaw7_DentReads.l0:Nat→List ByteArray→Int→Option (Bool)
 | 0,_,_ => none
 | k+1,x18,x19 => if x19<(x18.length:Int) then (if 0≤x19 then ((dent_Locks.f (rdOf ByteArray.empty x18 x19)).bind fun bt252 => ((transhumanceref7_Locks.f (rdOf ByteArray.empty x18 x19)).bind fun bt260 => (if bt252.2.2.2=bt260.2.2.2 then (if (!(bt252.2.1 == bt260.2.1) || (!(bt252.2.2.1 == bt260.2.2.1)))=true then (some false) else ((transhumanceref5_Rows.f k bt252.1 bt260.1).bind fun t267 => (if t267=true then (transhumancelaw7_DentReads.l0 k x18 (wrap64 (x19+1))) else (some false)))) else (some false)))) else (none)) else (some true)
end
def transhumancelaw7_DentReads.f (k:Nat) (l0:List Int) (l1:List Int) (a2:Int) (a3:Int) (a4:Int) (a5:ByteArray) (a6:ByteArray):Option (Bool):=(transhumancelaw7_known.f).bind fun t236 => (if t236=true then (if (l1.length:Int) > 60 then (transhumancelaw7_DentReads.j0 k l0 l1 a2 a3 a4 a5 a6 true) else (if (a5.size:Int) > 30 then (transhumancelaw7_DentReads.j0 k l0 l1 a2 a3 a4 a5 a6 true) else (transhumancelaw7_DentReads.j0 k l0 l1 a2 a3 a4 a5 a6 (decide ((a6.size:Int) > 200))))) else (some false))
def transhumancelaw7_DentReads.T8:Bool × List (List Nat × List Nat):=(true,[([],[]),([],[]),([],[]),([0,1,2],[0,1,2]),([],[]),([],[]),([4,5],[4,5]),([],[]),([],[]),([7,8],[7,8]),([],[]),([9,10],[9,10]),([],[]),([],[]),([12,13],[12,13]),([11,14],[11,14]),([],[]),([],[]),([],[]),([17,18],[17,18]),([],[]),([19,20],[19,20]),([],[]),([],[]),([22,23],[22,23]),([21,24],[21,24]),([],[]),([],[]),([26,27],[26,27]),([],[]),([29],[29]),([],[]),([],[]),([31,32],[31,32]),([],[]),([],[]),([34,35],[34,35]),([],[]),([37],[37]),([3,6,15,16,25,28,30,33,36,38],[3,6,15,16,25,28,30,33,36,38]),([39,3,0,1,2,3,4,5,6,7,8,9,10,11,12,13,14,15,16,17,18,19,20,21,22,23,24,25,26,27,28,29,30,31,32,33,34,35,36,37,38,39],[39])])
def transhumancelaw7_DentReads.B8:List Nat:=[0,0,0,7,0,0,48,0,0,384,0,1920,0,0,12288,32640,0,0,0,393216,0,1966080,0,0,12582912,33423360,0,0,201326592,0,536870912,0,0,6442450944,0,0,51539607552,0,137438953472,549755813887,1099511627775]
theorem transhumancelaw7_DentReads.tab8:rtab .any (opsOf Tryz.f4 8)=transhumancelaw7_DentReads.T8:=by kernel_rfl
theorem transhumancelaw7_DentReads.bits8:waitsOk transhumancelaw7_DentReads.T8.2 transhumancelaw7_DentReads.B8=true:=by kernel_rfl
set_option maxHeartbeats 8000000 in
set_option maxRecDepth 100000 in
theorem transhumancelaw7_DentReads.calls (k:Nat) (A0:Option Addr) (c0:Nat) (l0:List Int) (A1:Option Addr) (c1:Nat) (l1:List Int) (a2:Int) (a3:Int) (a4:Int) (a5:ByteArray) (a6:ByteArray) (r:Bool) (w:World) (hG:GL w) (hr0:Kd.C (Kd.int .i64) w A0 l0.length l0) (hc0:l0.length≤c0) (hr1:Kd.C (Kd.int .u8) w A1 l1.length l1) (hc1:l1.length≤c1) (h:transhumancelaw7_DentReads.f k l0 l1 a2 a3 a4 a5 a6=some r) :
  Calls Tryz.prog 4 #[.slice A0 l0.length c0,.slice A1 l1.length c1,.int .i64 a2,.int .u8 a3,.int .i64 a4,.string a5,.string a6] w fun e w' => e=.returned (.bool r)∧Below w.heap.size w w':=by
 have hu29:=Tryz.underlying29
 have HR0:=Aside0.mk hr0
 have HC0:=Aside0.mk hc0
 clear hr0 hc0
 have HR1:=Aside0.mk hr1
 have HC1:=Aside0.mk hc1
 clear hr1 hc1
 have HB:=Aside0.mk (Below.refl w.heap.size w)
 have H:((transhumancelaw7_known.f).bind fun t236 => (if t236=true then (if (l1.length:Int) > 60 then (transhumancelaw7_DentReads.j0 k l0 l1 a2 a3 a4 a5 a6 true) else (if (a5.size:Int) > 30 then (transhumancelaw7_DentReads.j0 k l0 l1 a2 a3 a4 a5 a6 true) else (transhumancelaw7_DentReads.j0 k l0 l1 a2 a3 a4 a5 a6 (decide ((a6.size:Int) > 200))))) else (some false)))=some r:=h
 clear h
 replace H:=Option.bind_eq_some_iff.mp H
 obtain ⟨t236,A80,H⟩:=H
 replace H:(if t236=true then (if (l1.length:Int) > 60 then (transhumancelaw7_DentReads.j0 k l0 l1 a2 a3 a4 a5 a6 true) else (if (a5.size:Int) > 30 then (transhumancelaw7_DentReads.j0 k l0 l1 a2 a3 a4 a5 a6 true) else (transhumancelaw7_DentReads.j0 k l0 l1 a2 a3 a4 a5 a6 (decide ((a6.size:Int) > 200))))) else (some false))=some r:=H
 have A8:=Aside0.mk A80
 clear A80
 by_cases c9:t236=true
 ·subst c9
  have H1:(if (l1.length:Int) > 60 then (transhumancelaw7_DentReads.j0 k l0 l1 a2 a3 a4 a5 a6 true) else (if (a5.size:Int) > 30 then (transhumancelaw7_DentReads.j0 k l0 l1 a2 a3 a4 a5 a6 true) else (transhumancelaw7_DentReads.j0 k l0 l1 a2 a3 a4 a5 a6 (decide ((a6.size:Int) > 200)))))=some r:=by rw [if_pos rfl] at H;exact H
  clear H
  have H:=H1
  clear H1
  have HC10:=Aside0.mk H
  clear H
  go_enter Tryz.func4,Tryz.ntmps4
  go_upto_region 3 with (first|((with_reducible refine gate_callee (f:=8) rfl ?_);refine goesL_ (some 26) rfl rfl Tryz.func8 (by kernel_rfl) rfl #[] rfl (by (try simp only [List.map_toArray,List.map_cons,List.map_nil]);first|done|rfl|(simp only [List.length_drop,List.length_take];rfl)) ?_;(with_reducible refine (transhumancelaw7_known.calls  true _ ?side1 A8.out).mono ?_);(case side1 => exact GL.below0 hG (by repeat (first|(with_reducible first|exact HB.out|apply below_alloc|apply pw_below_drewN|apply below_drew1)|exact HB.out)));rintro e w11 ⟨rfl,hb⟩;refine ⟨_,rfl,?_⟩;have n0_:=Aside0.mk (below_step (by repeat (first|(with_reducible first|exact HB.out|apply below_alloc|apply pw_below_drewN|apply below_drew1)|exact HB.out)) hb);clear HB;have HB:=n0_;clear n0_;(try clear hb);(try clear hb2);(try clear hk);(try clear hi)))
  (try simp only [Act.put,List.setIfInBounds_toArray,List.set_cons_zero,List.set_cons_succ])
  go_cut [40] (fun v40 wc => ∃ (kq:Nat) (x40_9:Bool),v40=.bool x40_9∧Aside0 (transhumancelaw7_DentReads.j0 kq l0 l1 a2 a3 a4 a5 a6 x40_9=some r)∧Aside0 (kq≤k)∧Aside0 (Below w.heap.size w wc))
  case first =>
   have H:=HC10.out
   clear HC10
   by_cases c12:(l1.length:Int) > 60
   ·rw [if_pos c12] at H
    have c12b0:decide (60<(l1.length:Int))=true:=decide_eq_true c12
    have c12b1:decide (60<l1.length)=true:=decide_eq_true (by omega)
    clear c12
    (first|rw [c12b0]|(simp only [i64_w,i32_w];rw [c12b0])|skip)
    have H':=Aside0.mk H
    clear H
    go_wp2
    go_meet
    case rel => exact ⟨_,(true),(by first|rfl|(simp;done)|(simp [*];done)|(simp;exact (fun l_:List UInt8 => by cases l_ <;> rfl:∀ l_:List UInt8,l_.isEmpty=!(l_ != [])) _)),H',⟨by first|omega|exact Nat.le_refl _⟩,⟨by repeat (first|(with_reducible first|exact HB.out|apply below_alloc|apply pw_below_drewN|apply below_drew1)|exact HB.out)⟩⟩
   ·rw [if_neg c12] at H
    have c12b0:decide (60<(l1.length:Int))=false:=decide_eq_false c12
    have c12b1:decide (60<l1.length)=false:=decide_eq_false (by omega)
    clear c12
    (first|rw [c12b0]|(simp only [i64_w,i32_w];rw [c12b0])|skip)
    by_cases c13:(a5.size:Int) > 30
    ·rw [if_pos c13] at H
     have c13b0:decide (30<(a5.size:Int))=true:=decide_eq_true c13
     have c13b1:decide (30<a5.size)=true:=decide_eq_true (by omega)
     clear c13
     have H':=Aside0.mk H
     clear H
     go_wp2
     go_meet
     case rel => exact ⟨_,(true),(by first|rfl|(simp;done)|(simp [*];done)|(simp;exact (fun l_:List UInt8 => by cases l_ <;> rfl:∀ l_:List UInt8,l_.isEmpty=!(l_ != [])) _)),H',⟨by first|omega|exact Nat.le_refl _⟩,⟨by repeat (first|(with_reducible first|exact HB.out|apply below_alloc|apply pw_below_drewN|apply below_drew1)|exact HB.out)⟩⟩
    ·rw [if_neg c13] at H
     have c13b0:decide (30<(a5.size:Int))=false:=decide_eq_false c13
     have c13b1:decide (30<a5.size)=false:=decide_eq_false (by omega)
     clear c13
     have H':=Aside0.mk H
     clear H
     go_wp2
     go_meet
     case rel => exact ⟨_,(decide ((a6.size:Int) > 200)),(by first|rfl|(simp;done)|(simp [*];done)|(simp;exact (fun l_:List UInt8 => by cases l_ <;> rfl:∀ l_:List UInt8,l_.isEmpty=!(l_ != [])) _)),H',⟨by first|omega|exact Nat.le_refl _⟩,⟨by repeat (first|(with_reducible first|exact HB.out|apply below_alloc|apply pw_below_drewN|apply below_drew1)|exact HB.out)⟩⟩
  case rest =>
   clear HC10
   try clear c1
   try clear p2
   try clear c4
   try clear c8
   try clear c9
   try clear c12
   try clear c12b0
   try clear c12b1
   try clear c13
   try clear c13b0
   try clear c13b1
   obtain ⟨kq,x40_9,rfl,HA,HJ9,HB⟩:=hcut
   cases kq with
   | zero => exact absurd HA.out (by simp [transhumancelaw7_DentReads.j0])
   | succ kj9 =>
    have H:=HA.out
    clear HA
    simp only [transhumancelaw7_DentReads.j0] at H
    by_cases c14:x40_9=true
    ·subst c14
     have H1:(some true)=some r:=by rw [if_pos rfl] at H;exact H
     clear H
     have H:=H1
     clear H1
     obtain rfl:=Option.some.inj H
     go_wp2
     go_ret
     exact ⟨by first|rfl|(simp [errW_none,errW_some] <;> rfl)|(simp [*,errW_none,errW_some] <;> rfl),by repeat (first|(with_reducible first|exact HB.out|apply below_alloc|apply pw_below_drewN|apply below_drew1)|exact HB.out)⟩
    ·replace c14:=Bool.eq_false_iff.mpr c14
     subst c14
     have H1:((transhumancelaw5_Locks.f kj9 l0 l1 6).bind fun t237 => ((transhumanceref7_Write.f kj9 t237).bind fun t240 => ((transhumancelaw7_within.f a4 (wrap64 ((t240.size:Int)+1))).bind fun t241 => ((some (([(⟨#[10]⟩:ByteArray),(⟨#[32]⟩:ByteArray),(⟨#[35]⟩:ByteArray),(⟨#[35,32,120,10]⟩:ByteArray),(⟨#[45,32,114,111,111,116,58,32,113,10]⟩:ByteArray),(⟨#[32,32,114,111,111,116,58,32,113,10]⟩:ByteArray),(⟨#[32,32,118,101,114,115,105,111,110,58,32,118,49,46,48,46,48,10]⟩:ByteArray),(⟨#[58]⟩:ByteArray),(⟨#[34]⟩:ByteArray),(⟨#[45]⟩:ByteArray),(⟨#[32,32,119,105,116,104,105,110,58,32,34,34,10]⟩:ByteArray),(⟨#[32,32,120,58,32,121,10]⟩:ByteArray),(⟨#[9]⟩:ByteArray),(⟨#[108,111,99,107,115,58,10]⟩:ByteArray),(⟨#[32,32,115,111,117,114,99,101,58,32,34,34,10]⟩:ByteArray),(⟨#[32,32,32]⟩:ByteArray)]:List ByteArray):List ByteArray)).bind fun y242 => ((transhumancelaw7_within.f a2 16).bind fun t245 => (if 0≤t245 then (if t245<(y242.length:Int) then ((transhumancelaw7_turned.f t240 a2 a3).bind fun t247 => (if 0≤t241 then (if t241≤(t240.size:Int) then (if (t240.extract 0 (t241:Int).toNat).size+a5.size≤9223372036854775807 then (if ((t240.extract 0 (t241:Int).toNat)++a5).size+(t240.extract (t241:Int).toNat t240.size).size≤9223372036854775807 then (if (t240.extract 0 (t241:Int).toNat).size+(rdOf ByteArray.empty y242 t245).size≤9223372036854775807 then (if ((t240.extract 0 (t241:Int).toNat)++(rdOf ByteArray.empty y242 t245)).size+(t240.extract (t241:Int).toNat t240.size).size≤9223372036854775807 then (if t240.size+(rdOf ByteArray.empty y242 t245).size≤9223372036854775807 then (if 9+a6.size≤9223372036854775807 then (if (rdOf ByteArray.empty y242 t245).size+t240.size≤9223372036854775807 then (if t240.size+t240.size≤9223372036854775807 then (if 15+a6.size≤9223372036854775807 then (transhumancelaw7_DentReads.l0 kj9 (([t247,t240.extract 0 (t241:Int).toNat,((t240.extract 0 (t241:Int).toNat)++a5)++(t240.extract (t241:Int).toNat t240.size),a6,((t240.extract 0 (t241:Int).toNat)++(rdOf ByteArray.empty y242 t245))++(t240.extract (t241:Int).toNat t240.size),t240++(rdOf ByteArray.empty y242 t245),(⟨#[108,111,99,107,115,58,10,45,32]⟩:ByteArray)++a6,(rdOf ByteArray.empty y242 t245)++t240,t240++t240,(⟨#[108,111,99,107,115,58,10,45,32,114,111,111,116,58,32]⟩:ByteArray)++a6]:List ByteArray)) 0) else (none)) else (none)) else (none)) else (none)) else (none)) else (none)) else (none)) else (none)) else (none)) else (none)) else (none))) else (none)) else (none)))))))=some r:=by rw [if_neg (show ¬ (false=true) by decide)] at H;exact H
     clear H
     have H:=H1
     clear H1
     replace H:=Option.bind_eq_some_iff.mp H
     obtain ⟨t237,A150,H⟩:=H
     replace H:((transhumanceref7_Write.f kj9 t237).bind fun t240 => ((transhumancelaw7_within.f a4 (wrap64 ((t240.size:Int)+1))).bind fun t241 => ((some (([(⟨#[10]⟩:ByteArray),(⟨#[32]⟩:ByteArray),(⟨#[35]⟩:ByteArray),(⟨#[35,32,120,10]⟩:ByteArray),(⟨#[45,32,114,111,111,116,58,32,113,10]⟩:ByteArray),(⟨#[32,32,114,111,111,116,58,32,113,10]⟩:ByteArray),(⟨#[32,32,118,101,114,115,105,111,110,58,32,118,49,46,48,46,48,10]⟩:ByteArray),(⟨#[58]⟩:ByteArray),(⟨#[34]⟩:ByteArray),(⟨#[45]⟩:ByteArray),(⟨#[32,32,119,105,116,104,105,110,58,32,34,34,10]⟩:ByteArray),(⟨#[32,32,120,58,32,121,10]⟩:ByteArray),(⟨#[9]⟩:ByteArray),(⟨#[108,111,99,107,115,58,10]⟩:ByteArray),(⟨#[32,32,115,111,117,114,99,101,58,32,34,34,10]⟩:ByteArray),(⟨#[32,32,32]⟩:ByteArray)]:List ByteArray):List ByteArray)).bind fun y242 => ((transhumancelaw7_within.f a2 16).bind fun t245 => (if 0≤t245 then (if t245<(y242.length:Int) then ((transhumancelaw7_turned.f t240 a2 a3).bind fun t247 => (if 0≤t241 then (if t241≤(t240.size:Int) then (if (t240.extract 0 (t241:Int).toNat).size+a5.size≤9223372036854775807 then (if ((t240.extract 0 (t241:Int).toNat)++a5).size+(t240.extract (t241:Int).toNat t240.size).size≤9223372036854775807 then (if (t240.extract 0 (t241:Int).toNat).size+(rdOf ByteArray.empty y242 t245).size≤9223372036854775807 then (if ((t240.extract 0 (t241:Int).toNat)++(rdOf ByteArray.empty y242 t245)).size+(t240.extract (t241:Int).toNat t240.size).size≤9223372036854775807 then (if t240.size+(rdOf ByteArray.empty y242 t245).size≤9223372036854775807 then (if 9+a6.size≤9223372036854775807 then (if (rdOf ByteArray.empty y242 t245).size+t240.size≤9223372036854775807 then (if t240.size+t240.size≤9223372036854775807 then (if 15+a6.size≤9223372036854775807 then (transhumancelaw7_DentReads.l0 kj9 (([t247,t240.extract 0 (t241:Int).toNat,((t240.extract 0 (t241:Int).toNat)++a5)++(t240.extract (t241:Int).toNat t240.size),a6,((t240.extract 0 (t241:Int).toNat)++(rdOf ByteArray.empty y242 t245))++(t240.extract (t241:Int).toNat t240.size),t240++(rdOf ByteArray.empty y242 t245),(⟨#[108,111,99,107,115,58,10,45,32]⟩:ByteArray)++a6,(rdOf ByteArray.empty y242 t245)++t240,t240++t240,(⟨#[108,111,99,107,115,58,10,45,32,114,111,111,116,58,32]⟩:ByteArray)++a6]:List ByteArray)) 0) else (none)) else (none)) else (none)) else (none)) else (none)) else (none)) else (none)) else (none)) else (none)) else (none)) else (none))) else (none)) else (none))))))=some r:=H
     have A15:=Aside0.mk A150
     clear A150
     replace H:=Option.bind_eq_some_iff.mp H
     obtain ⟨t240,A160,H⟩:=H
     replace H:((transhumancelaw7_within.f a4 (wrap64 ((t240.size:Int)+1))).bind fun t241 => ((some (([(⟨#[10]⟩:ByteArray),(⟨#[32]⟩:ByteArray),(⟨#[35]⟩:ByteArray),(⟨#[35,32,120,10]⟩:ByteArray),(⟨#[45,32,114,111,111,116,58,32,113,10]⟩:ByteArray),(⟨#[32,32,114,111,111,116,58,32,113,10]⟩:ByteArray),(⟨#[32,32,118,101,114,115,105,111,110,58,32,118,49,46,48,46,48,10]⟩:ByteArray),(⟨#[58]⟩:ByteArray),(⟨#[34]⟩:ByteArray),(⟨#[45]⟩:ByteArray),(⟨#[32,32,119,105,116,104,105,110,58,32,34,34,10]⟩:ByteArray),(⟨#[32,32,120,58,32,121,10]⟩:ByteArray),(⟨#[9]⟩:ByteArray),(⟨#[108,111,99,107,115,58,10]⟩:ByteArray),(⟨#[32,32,115,111,117,114,99,101,58,32,34,34,10]⟩:ByteArray),(⟨#[32,32,32]⟩:ByteArray)]:List ByteArray):List ByteArray)).bind fun y242 => ((transhumancelaw7_within.f a2 16).bind fun t245 => (if 0≤t245 then (if t245<(y242.length:Int) then ((transhumancelaw7_turned.f t240 a2 a3).bind fun t247 => (if 0≤t241 then (if t241≤(t240.size:Int) then (if (t240.extract 0 (t241:Int).toNat).size+a5.size≤9223372036854775807 then (if ((t240.extract 0 (t241:Int).toNat)++a5).size+(t240.extract (t241:Int).toNat t240.size).size≤9223372036854775807 then (if (t240.extract 0 (t241:Int).toNat).size+(rdOf ByteArray.empty y242 t245).size≤9223372036854775807 then (if ((t240.extract 0 (t241:Int).toNat)++(rdOf ByteArray.empty y242 t245)).size+(t240.extract (t241:Int).toNat t240.size).size≤9223372036854775807 then (if t240.size+(rdOf ByteArray.empty y242 t245).size≤9223372036854775807 then (if 9+a6.size≤9223372036854775807 then (if (rdOf ByteArray.empty y242 t245).size+t240.size≤9223372036854775807 then (if t240.size+t240.size≤9223372036854775807 then (if 15+a6.size≤9223372036854775807 then (transhumancelaw7_DentReads.l0 kj9 (([t247,t240.extract 0 (t241:Int).toNat,((t240.extract 0 (t241:Int).toNat)++a5)++(t240.extract (t241:Int).toNat t240.size),a6,((t240.extract 0 (t241:Int).toNat)++(rdOf ByteArray.empty y242 t245))++(t240.extract (t241:Int).toNat t240.size),t240++(rdOf ByteArray.empty y242 t245),(⟨#[108,111,99,107,115,58,10,45,32]⟩:ByteArray)++a6,(rdOf ByteArray.empty y242 t245)++t240,t240++t240,(⟨#[108,111,99,107,115,58,10,45,32,114,111,111,116,58,32]⟩:ByteArray)++a6]:List ByteArray)) 0) else (none)) else (none)) else (none)) else (none)) else (none)) else (none)) else (none)) else (none)) else (none)) else (none)) else (none))) else (none)) else (none)))))=some r:=H
     have A16:=Aside0.mk A160
     clear A160
     replace H:=Option.bind_eq_some_iff.mp H
     obtain ⟨t241,A170,H⟩:=H
     replace H:((some (([(⟨#[10]⟩:ByteArray),(⟨#[32]⟩:ByteArray),(⟨#[35]⟩:ByteArray),(⟨#[35,32,120,10]⟩:ByteArray),(⟨#[45,32,114,111,111,116,58,32,113,10]⟩:ByteArray),(⟨#[32,32,114,111,111,116,58,32,113,10]⟩:ByteArray),(⟨#[32,32,118,101,114,115,105,111,110,58,32,118,49,46,48,46,48,10]⟩:ByteArray),(⟨#[58]⟩:ByteArray),(⟨#[34]⟩:ByteArray),(⟨#[45]⟩:ByteArray),(⟨#[32,32,119,105,116,104,105,110,58,32,34,34,10]⟩:ByteArray),(⟨#[32,32,120,58,32,121,10]⟩:ByteArray),(⟨#[9]⟩:ByteArray),(⟨#[108,111,99,107,115,58,10]⟩:ByteArray),(⟨#[32,32,115,111,117,114,99,101,58,32,34,34,10]⟩:ByteArray),(⟨#[32,32,32]⟩:ByteArray)]:List ByteArray):List ByteArray)).bind fun y242 => ((transhumancelaw7_within.f a2 16).bind fun t245 => (if 0≤t245 then (if t245<(y242.length:Int) then ((transhumancelaw7_turned.f t240 a2 a3).bind fun t247 => (if 0≤t241 then (if t241≤(t240.size:Int) then (if (t240.extract 0 (t241:Int).toNat).size+a5.size≤9223372036854775807 then (if ((t240.extract 0 (t241:Int).toNat)++a5).size+(t240.extract (t241:Int).toNat t240.size).size≤9223372036854775807 then (if (t240.extract 0 (t241:Int).toNat).size+(rdOf ByteArray.empty y242 t245).size≤9223372036854775807 then (if ((t240.extract 0 (t241:Int).toNat)++(rdOf ByteArray.empty y242 t245)).size+(t240.extract (t241:Int).toNat t240.size).size≤9223372036854775807 then (if t240.size+(rdOf ByteArray.empty y242 t245).size≤9223372036854775807 then (if 9+a6.size≤9223372036854775807 then (if (rdOf ByteArray.empty y242 t245).size+t240.size≤9223372036854775807 then (if t240.size+t240.size≤9223372036854775807 then (if 15+a6.size≤9223372036854775807 then (transhumancelaw7_DentReads.l0 kj9 (([t247,t240.extract 0 (t241:Int).toNat,((t240.extract 0 (t241:Int).toNat)++a5)++(t240.extract (t241:Int).toNat t240.size),a6,((t240.extract 0 (t241:Int).toNat)++(rdOf ByteArray.empty y242 t245))++(t240.extract (t241:Int).toNat t240.size),t240++(rdOf ByteArray.empty y242 t245),(⟨#[108,111,99,107,115,58,10,45,32]⟩:ByteArray)++a6,(rdOf ByteArray.empty y242 t245)++t240,t240++t240,(⟨#[108,111,99,107,115,58,10,45,32,114,111,111,116,58,32]⟩:ByteArray)++a6]:List ByteArray)) 0) else (none)) else (none)) else (none)) else (none)) else (none)) else (none)) else (none)) else (none)) else (none)) else (none)) else (none))) else (none)) else (none))))=some r:=H
     have A17:=Aside0.mk A170
     clear A170
     obtain ⟨y242,hy242⟩:∃ y_:List ByteArray,y_=(([(⟨#[10]⟩:ByteArray),(⟨#[32]⟩:ByteArray),(⟨#[35]⟩:ByteArray),(⟨#[35,32,120,10]⟩:ByteArray),(⟨#[45,32,114,111,111,116,58,32,113,10]⟩:ByteArray),(⟨#[32,32,114,111,111,116,58,32,113,10]⟩:ByteArray),(⟨#[32,32,118,101,114,115,105,111,110,58,32,118,49,46,48,46,48,10]⟩:ByteArray),(⟨#[58]⟩:ByteArray),(⟨#[34]⟩:ByteArray),(⟨#[45]⟩:ByteArray),(⟨#[32,32,119,105,116,104,105,110,58,32,34,34,10]⟩:ByteArray),(⟨#[32,32,120,58,32,121,10]⟩:ByteArray),(⟨#[9]⟩:ByteArray),(⟨#[108,111,99,107,115,58,10]⟩:ByteArray),(⟨#[32,32,115,111,117,114,99,101,58,32,34,34,10]⟩:ByteArray),(⟨#[32,32,32]⟩:ByteArray)]:List ByteArray)):=⟨_,rfl⟩
     replace H:((transhumancelaw7_within.f a2 16).bind fun t245 => (if 0≤t245 then (if t245<(y242.length:Int) then ((transhumancelaw7_turned.f t240 a2 a3).bind fun t247 => (if 0≤t241 then (if t241≤(t240.size:Int) then (if (t240.extract 0 (t241:Int).toNat).size+a5.size≤9223372036854775807 then (if ((t240.extract 0 (t241:Int).toNat)++a5).size+(t240.extract (t241:Int).toNat t240.size).size≤9223372036854775807 then (if (t240.extract 0 (t241:Int).toNat).size+(rdOf ByteArray.empty y242 t245).size≤9223372036854775807 then (if ((t240.extract 0 (t241:Int).toNat)++(rdOf ByteArray.empty y242 t245)).size+(t240.extract (t241:Int).toNat t240.size).size≤9223372036854775807 then (if t240.size+(rdOf ByteArray.empty y242 t245).size≤9223372036854775807 then (if 9+a6.size≤9223372036854775807 then (if (rdOf ByteArray.empty y242 t245).size+t240.size≤9223372036854775807 then (if t240.size+t240.size≤9223372036854775807 then (if 15+a6.size≤9223372036854775807 then (transhumancelaw7_DentReads.l0 kj9 (([t247,t240.extract 0 (t241:Int).toNat,((t240.extract 0 (t241:Int).toNat)++a5)++(t240.extract (t241:Int).toNat t240.size),a6,((t240.extract 0 (t241:Int).toNat)++(rdOf ByteArray.empty y242 t245))++(t240.extract (t241:Int).toNat t240.size),t240++(rdOf ByteArray.empty y242 t245),(⟨#[108,111,99,107,115,58,10,45,32]⟩:ByteArray)++a6,(rdOf ByteArray.empty y242 t245)++t240,t240++t240,(⟨#[108,111,99,107,115,58,10,45,32,114,111,111,116,58,32]⟩:ByteArray)++a6]:List ByteArray)) 0) else (none)) else (none)) else (none)) else (none)) else (none)) else (none)) else (none)) else (none)) else (none)) else (none)) else (none))) else (none)) else (none)))=some r:=by first|(rw [hy242];with_reducible exact H)|(have H2_:=(Option.bind_some _ _).symm.trans H;rw [hy242];with_reducible exact H2_)|(have H2_:=(Option.bind_some _ _).symm.trans H;with_reducible exact H2_)|with_reducible exact H|(rw [hy242];exact H)|exact H
     have Ny242:=Aside0.mk hy242
     clear hy242
     replace H:=Option.bind_eq_some_iff.mp H
     obtain ⟨t245,A180,H⟩:=H
     replace H:(if 0≤t245 then (if t245<(y242.length:Int) then ((transhumancelaw7_turned.f t240 a2 a3).bind fun t247 => (if 0≤t241 then (if t241≤(t240.size:Int) then (if (t240.extract 0 (t241:Int).toNat).size+a5.size≤9223372036854775807 then (if ((t240.extract 0 (t241:Int).toNat)++a5).size+(t240.extract (t241:Int).toNat t240.size).size≤9223372036854775807 then (if (t240.extract 0 (t241:Int).toNat).size+(rdOf ByteArray.empty y242 t245).size≤9223372036854775807 then (if ((t240.extract 0 (t241:Int).toNat)++(rdOf ByteArray.empty y242 t245)).size+(t240.extract (t241:Int).toNat t240.size).size≤9223372036854775807 then (if t240.size+(rdOf ByteArray.empty y242 t245).size≤9223372036854775807 then (if 9+a6.size≤9223372036854775807 then (if (rdOf ByteArray.empty y242 t245).size+t240.size≤9223372036854775807 then (if t240.size+t240.size≤9223372036854775807 then (if 15+a6.size≤9223372036854775807 then (transhumancelaw7_DentReads.l0 kj9 (([t247,t240.extract 0 (t241:Int).toNat,((t240.extract 0 (t241:Int).toNat)++a5)++(t240.extract (t241:Int).toNat t240.size),a6,((t240.extract 0 (t241:Int).toNat)++(rdOf ByteArray.empty y242 t245))++(t240.extract (t241:Int).toNat t240.size),t240++(rdOf ByteArray.empty y242 t245),(⟨#[108,111,99,107,115,58,10,45,32]⟩:ByteArray)++a6,(rdOf ByteArray.empty y242 t245)++t240,t240++t240,(⟨#[108,111,99,107,115,58,10,45,32,114,111,111,116,58,32]⟩:ByteArray)++a6]:List ByteArray)) 0) else (none)) else (none)) else (none)) else (none)) else (none)) else (none)) else (none)) else (none)) else (none)) else (none)) else (none))) else (none)) else (none))=some r:=H
     have A18:=Aside0.mk A180
     clear A180
     by_cases c19:0≤t245
     ·rw [if_pos c19] at H
      have c19b0:decide (0≤t245)=true:=decide_eq_true c19
      clear c19
      by_cases c20:t245<(y242.length:Int)
      ·rw [if_pos c20] at H
       have c20b0:decide (t245<(y242.length:Int))=true:=decide_eq_true c20
       clear c20
       replace H:=Option.bind_eq_some_iff.mp H
       obtain ⟨t247,A210,H⟩:=H
       replace H:(if 0≤t241 then (if t241≤(t240.size:Int) then (if (t240.extract 0 (t241:Int).toNat).size+a5.size≤9223372036854775807 then (if ((t240.extract 0 (t241:Int).toNat)++a5).size+(t240.extract (t241:Int).toNat t240.size).size≤9223372036854775807 then (if (t240.extract 0 (t241:Int).toNat).size+(rdOf ByteArray.empty y242 t245).size≤9223372036854775807 then (if ((t240.extract 0 (t241:Int).toNat)++(rdOf ByteArray.empty y242 t245)).size+(t240.extract (t241:Int).toNat t240.size).size≤9223372036854775807 then (if t240.size+(rdOf ByteArray.empty y242 t245).size≤9223372036854775807 then (if 9+a6.size≤9223372036854775807 then (if (rdOf ByteArray.empty y242 t245).size+t240.size≤9223372036854775807 then (if t240.size+t240.size≤9223372036854775807 then (if 15+a6.size≤9223372036854775807 then (transhumancelaw7_DentReads.l0 kj9 (([t247,t240.extract 0 (t241:Int).toNat,((t240.extract 0 (t241:Int).toNat)++a5)++(t240.extract (t241:Int).toNat t240.size),a6,((t240.extract 0 (t241:Int).toNat)++(rdOf ByteArray.empty y242 t245))++(t240.extract (t241:Int).toNat t240.size),t240++(rdOf ByteArray.empty y242 t245),(⟨#[108,111,99,107,115,58,10,45,32]⟩:ByteArray)++a6,(rdOf ByteArray.empty y242 t245)++t240,t240++t240,(⟨#[108,111,99,107,115,58,10,45,32,114,111,111,116,58,32]⟩:ByteArray)++a6]:List ByteArray)) 0) else (none)) else (none)) else (none)) else (none)) else (none)) else (none)) else (none)) else (none)) else (none)) else (none)) else (none))=some r:=H
       have A21:=Aside0.mk A210
       clear A210
       by_cases c22:0≤t241
       ·rw [if_pos c22] at H
        have c22b0:=eq_true c22
        have c22b1:decide (0≤t241)=true:=decide_eq_true c22
        clear c22
        by_cases c23:t241≤(t240.size:Int)
        ·rw [if_pos c23] at H
         have c23b0:=eq_true c23
         have c23b1:decide (t241≤(t240.size:Int))=true:=decide_eq_true c23
         clear c23
         have c24b0:=eq_true (of_decide_eq_true (by first|(with_reducible assumption)|assumption):0≤t241)
         have c25b0:=eq_true (of_decide_eq_true (by first|(with_reducible assumption)|assumption):t241≤(t240.size:Int))
         by_cases c26:(t240.extract 0 (t241:Int).toNat).size+a5.size≤9223372036854775807
         ·rw [if_pos c26] at H
          have c26b9:(9223372036854775807<t241.toNat+a5.size)=False:=eq_false (by have h_:=c26;have g0_:t241≤(t240.size:Int):=(by first|assumption|exact of_eq_true (by assumption));(try simp only [ByteArray.size_append,ByteArray.size_extract] at h_);omega)
          have c26b0:=eq_true c26
          have c26b1:decide ((t240.extract 0 (t241:Int).toNat).size+a5.size≤9223372036854775807)=true:=decide_eq_true c26
          try have c26b2:(9223372036854775807<(t240.extract 0 (t241:Int).toNat).size+a5.size)=False:=eq_false (Nat.not_lt.2 c26)
          have c27b0:=eq_true (of_decide_eq_true (by first|(with_reducible assumption)|assumption):0≤t241)
          have c28b0:=eq_true (of_decide_eq_true (by first|(with_reducible assumption)|assumption):t241≤(t240.size:Int))
          by_cases c29:((t240.extract 0 (t241:Int).toNat)++a5).size+(t240.extract (t241:Int).toNat t240.size).size≤9223372036854775807
          ·rw [if_pos c29] at H
           have c29b9:(9223372036854775807<t241.toNat+a5.size+(t240.size - t241.toNat))=False:=eq_false (by have h_:=c29;have g0_:t241≤(t240.size:Int):=(by first|assumption|exact of_eq_true (by assumption));(try simp only [ByteArray.size_append,ByteArray.size_extract] at h_);omega)
           have c29b0:=eq_true c29
           have c29b1:decide (((t240.extract 0 (t241:Int).toNat)++a5).size+(t240.extract (t241:Int).toNat t240.size).size≤9223372036854775807)=true:=decide_eq_true c29
           try have c29b4:(9223372036854775807<(t240.extract 0 (t241:Int).toNat).size+a5.size+(t240.extract (t241:Int).toNat t240.size).size)=False:=eq_false (by have h_:=c29;(try simp only [ByteArray.size_append] at h_);first|omega|(simp [go_sem] at h_;omega))
           try have c29b2:(9223372036854775807<((t240.extract 0 (t241:Int).toNat)++a5).size+(t240.extract (t241:Int).toNat t240.size).size)=False:=eq_false (Nat.not_lt.2 c29)
           have c30b0:=eq_true (of_decide_eq_true (by first|(with_reducible assumption)|assumption):0≤t241)
           have c31b0:=eq_true (of_decide_eq_true (by first|(with_reducible assumption)|assumption):t241≤(t240.size:Int))
           by_cases c32:(t240.extract 0 (t241:Int).toNat).size+(rdOf ByteArray.empty y242 t245).size≤9223372036854775807
           ·rw [if_pos c32] at H
            have c32b9:(9223372036854775807<t241.toNat+(rdOf ByteArray.empty y242 t245).size)=False:=eq_false (by have h_:=c32;have g0_:t241≤(t240.size:Int):=(by first|assumption|exact of_eq_true (by assumption));(try simp only [ByteArray.size_append,ByteArray.size_extract] at h_);omega)
            have c32b0:=eq_true c32
            have c32b1:decide ((t240.extract 0 (t241:Int).toNat).size+(rdOf ByteArray.empty y242 t245).size≤9223372036854775807)=true:=decide_eq_true c32
            try have c32b2:(9223372036854775807<(t240.extract 0 (t241:Int).toNat).size+(rdOf ByteArray.empty y242 t245).size)=False:=eq_false (Nat.not_lt.2 c32)
            have c33b0:=eq_true (of_decide_eq_true (by first|(with_reducible assumption)|assumption):0≤t241)
            have c34b0:=eq_true (of_decide_eq_true (by first|(with_reducible assumption)|assumption):t241≤(t240.size:Int))
            by_cases c35:((t240.extract 0 (t241:Int).toNat)++(rdOf ByteArray.empty y242 t245)).size+(t240.extract (t241:Int).toNat t240.size).size≤9223372036854775807
            ·rw [if_pos c35] at H
             have c35b9:(9223372036854775807<t241.toNat+(rdOf ByteArray.empty y242 t245).size+(t240.size - t241.toNat))=False:=eq_false (by have h_:=c35;have g0_:t241≤(t240.size:Int):=(by first|assumption|exact of_eq_true (by assumption));(try simp only [ByteArray.size_append,ByteArray.size_extract] at h_);omega)
             have c35b0:=eq_true c35
             have c35b1:decide (((t240.extract 0 (t241:Int).toNat)++(rdOf ByteArray.empty y242 t245)).size+(t240.extract (t241:Int).toNat t240.size).size≤9223372036854775807)=true:=decide_eq_true c35
             try have c35b4:(9223372036854775807<(t240.extract 0 (t241:Int).toNat).size+(rdOf ByteArray.empty y242 t245).size+(t240.extract (t241:Int).toNat t240.size).size)=False:=eq_false (by have h_:=c35;(try simp only [ByteArray.size_append] at h_);first|omega|(simp [go_sem] at h_;omega))
             try have c35b2:(9223372036854775807<((t240.extract 0 (t241:Int).toNat)++(rdOf ByteArray.empty y242 t245)).size+(t240.extract (t241:Int).toNat t240.size).size)=False:=eq_false (Nat.not_lt.2 c35)
             by_cases c36:t240.size+(rdOf ByteArray.empty y242 t245).size≤9223372036854775807
             ·rw [if_pos c36] at H
              have c36b0:=eq_true c36
              have c36b1:decide (t240.size+(rdOf ByteArray.empty y242 t245).size≤9223372036854775807)=true:=decide_eq_true c36
              try have c36b2:(9223372036854775807<t240.size+(rdOf ByteArray.empty y242 t245).size)=False:=eq_false (Nat.not_lt.2 c36)
              by_cases c37:9+a6.size≤9223372036854775807
              ·rw [if_pos c37] at H
               have c37b0:=eq_true c37
               have c37b1:decide (9+a6.size≤9223372036854775807)=true:=decide_eq_true c37
               try have c37b2:(9223372036854775807<9+a6.size)=False:=eq_false (Nat.not_lt.2 c37)
               by_cases c38:(rdOf ByteArray.empty y242 t245).size+t240.size≤9223372036854775807
               ·rw [if_pos c38] at H
                have c38b0:=eq_true c38
                have c38b1:decide ((rdOf ByteArray.empty y242 t245).size+t240.size≤9223372036854775807)=true:=decide_eq_true c38
                try have c38b2:(9223372036854775807<(rdOf ByteArray.empty y242 t245).size+t240.size)=False:=eq_false (Nat.not_lt.2 c38)
                by_cases c39:t240.size+t240.size≤9223372036854775807
                ·rw [if_pos c39] at H
                 have c39b0:=eq_true c39
                 have c39b1:decide (t240.size+t240.size≤9223372036854775807)=true:=decide_eq_true c39
                 try have c39b2:(9223372036854775807<t240.size+t240.size)=False:=eq_false (Nat.not_lt.2 c39)
                 by_cases c40:15+a6.size≤9223372036854775807
                 ·rw [if_pos c40] at H
                  have c40b0:=eq_true c40
                  have c40b1:decide (15+a6.size≤9223372036854775807)=true:=decide_eq_true c40
                  try have c40b2:(9223372036854775807<15+a6.size)=False:=eq_false (Nat.not_lt.2 c40)
                  obtain ⟨y248,hy248⟩:∃ y_:List ByteArray,y_=(([t247,t240.extract 0 (t241:Int).toNat,((t240.extract 0 (t241:Int).toNat)++a5)++(t240.extract (t241:Int).toNat t240.size),a6,((t240.extract 0 (t241:Int).toNat)++(rdOf ByteArray.empty y242 t245))++(t240.extract (t241:Int).toNat t240.size),t240++(rdOf ByteArray.empty y242 t245),(⟨#[108,111,99,107,115,58,10,45,32]⟩:ByteArray)++a6,(rdOf ByteArray.empty y242 t245)++t240,t240++t240,(⟨#[108,111,99,107,115,58,10,45,32,114,111,111,116,58,32]⟩:ByteArray)++a6]:List ByteArray)):=⟨_,rfl⟩
                  replace H:(transhumancelaw7_DentReads.l0 kj9 y248 0)=some r:=by first|(rw [hy248];with_reducible exact H)|(have H2_:=(Option.bind_some _ _).symm.trans H;rw [hy248];with_reducible exact H2_)|(have H2_:=(Option.bind_some _ _).symm.trans H;with_reducible exact H2_)|with_reducible exact H|(rw [hy248];exact H)|exact H
                  have Ny248:=Aside0.mk hy248
                  clear hy248
                  have H':=Aside0.mk H
                  clear H
                  have HW9_:Aside0 (transhumancelaw7_within.f a4 ((t240.size:Int)+1)=some t241):=Aside0.mk (by have h_:=A17.out;rwa [show wrap64 ((t240.size:Int)+1)=(t240.size:Int)+1 from by unfold wrap64;omega] at h_)
                  try go_wp2_with (first|((with_reducible refine gate_callee (f:=9) rfl ?_);refine goesL_ (some 43) rfl rfl Tryz.func9 (by kernel_rfl) rfl #[.slice A0 l0.length c0,.slice A1 l1.length c1,.int .i64 6] rfl (by (try simp only [List.map_toArray,List.map_cons,List.map_nil]);first|done|rfl|(simp only [List.length_drop,List.length_take];rfl)) ?_;(with_reducible refine (transhumancelaw5_Locks.calls kj9 _ _ l0 _ _ l1 6 t237 _ ?side1 ?side2 ?side3 ?side4 A15.out).mono ?_);(case side1 => repeat (first|exact (Kd.C_below HR0.out HB.out)|(with_reducible refine Kd.C_alloc ?_ _)|(with_reducible refine Kd.C_drewN ?_ _)|(with_reducible refine Kd.C_drew ?_)));(case side2 => exact HC0.out);(case side3 => repeat (first|exact (Kd.C_below HR1.out HB.out)|(with_reducible refine Kd.C_alloc ?_ _)|(with_reducible refine Kd.C_drewN ?_ _)|(with_reducible refine Kd.C_drew ?_)));(case side4 => exact HC1.out);rintro e w41 ⟨v238,rfl,ho0,hb⟩;refine ⟨_,rfl,?_⟩;have n0_:=Aside0.mk (Kd.R_lower ho0 (below_size (by repeat (first|(with_reducible first|exact HB.out|apply below_alloc|apply pw_below_drewN|apply below_drew1)|exact HB.out))));have n1_:=Aside0.mk (below_step (by repeat (first|(with_reducible first|exact HB.out|apply below_alloc|apply pw_below_drewN|apply below_drew1)|exact HB.out)) hb);clear HB;have HO239:=n0_;have HB:=n1_;clear n0_ n1_;(try clear hb);(try clear hb2);(try clear hk);(try clear hi);(try clear ho0);obtain ⟨Ao42,co42,eo42⟩:=Kd.R_slice HO239.out;subst eo42)|((with_reducible refine gate_callee (f:=12) rfl ?_);refine goesL_ (some 44) rfl rfl Tryz.func12 (by kernel_rfl) rfl #[.slice Ao42 t237.length co42] rfl (by (try simp only [List.map_toArray,List.map_cons,List.map_nil]);first|done|rfl|(simp only [List.length_drop,List.length_take];rfl)) ?_;(with_reducible refine (transhumanceref7_Write.calls kj9 _ _ t237 t240 _ ?side1 ?side2 A16.out).mono ?_);(case side1 => repeat (first|exact (Kd.R_reads' HO239.out).2.2|(with_reducible refine Kd.C_alloc ?_ _)|(with_reducible refine Kd.C_drewN ?_ _)|(with_reducible refine Kd.C_drew ?_)));(case side2 => exact (Kd.R_reads' HO239.out).2.1);rintro e w43 ⟨rfl,hb⟩;refine ⟨_,rfl,?_⟩;have n0_:=Aside0.mk (Kd.R_below (by (with_reducible repeat (first|apply Kd.R_alloc|apply Kd.R_drewN|apply Kd.R_drew));exact HO239.out) hb);have n1_:=Aside0.mk (below_step (by repeat (first|(with_reducible first|exact HB.out|apply below_alloc|apply pw_below_drewN|apply below_drew1)|exact HB.out)) hb);clear HO239;clear HB;have HO239:=n0_;have HB:=n1_;clear n0_ n1_;(try clear hb);(try clear hb2);(try clear hk);(try clear hi))|((with_reducible refine gate_callee (f:=14) rfl ?_);refine goesL_ (some 49) rfl rfl Tryz.func14 (by kernel_rfl) rfl #[.int .i64 a4,.int .i64 ((t240.size:Int)+1)] rfl (by (try simp only [List.map_toArray,List.map_cons,List.map_nil]);first|done|rfl|(simp only [List.length_drop,List.length_take];rfl)) ?_;(with_reducible refine (transhumancelaw7_within.calls a4 ((t240.size:Int)+1) t241 _ HW9_.out).mono ?_);rintro e w' ⟨rfl,⟨nd,rfl⟩⟩;refine ⟨_,rfl,?_⟩)|((with_reducible refine gate_dst (N:=50) rfl ?_);(try (refine gate_guard (by rfl) ?_;dsimp only));refine Kd.R_lit Kd.string _ 9 ?hg (N:=50) ?hd (xs:=([(⟨#[10]⟩:ByteArray),(⟨#[32]⟩:ByteArray),(⟨#[35]⟩:ByteArray),(⟨#[35,32,120,10]⟩:ByteArray),(⟨#[45,32,114,111,111,116,58,32,113,10]⟩:ByteArray),(⟨#[32,32,114,111,111,116,58,32,113,10]⟩:ByteArray),(⟨#[32,32,118,101,114,115,105,111,110,58,32,118,49,46,48,46,48,10]⟩:ByteArray),(⟨#[58]⟩:ByteArray),(⟨#[34]⟩:ByteArray),(⟨#[45]⟩:ByteArray),(⟨#[32,32,119,105,116,104,105,110,58,32,34,34,10]⟩:ByteArray),(⟨#[32,32,120,58,32,121,10]⟩:ByteArray),(⟨#[9]⟩:ByteArray),(⟨#[108,111,99,107,115,58,10]⟩:ByteArray),(⟨#[32,32,115,111,117,114,99,101,58,32,34,34,10]⟩:ByteArray),(⟨#[32,32,32]⟩:ByteArray)]:List ByteArray)) (inner:=[.string (⟨#[10]⟩:ByteArray),.string (⟨#[32]⟩:ByteArray),.string (⟨#[35]⟩:ByteArray),.string (⟨#[35,32,120,10]⟩:ByteArray),.string (⟨#[45,32,114,111,111,116,58,32,113,10]⟩:ByteArray),.string (⟨#[32,32,114,111,111,116,58,32,113,10]⟩:ByteArray),.string (⟨#[32,32,118,101,114,115,105,111,110,58,32,118,49,46,48,46,48,10]⟩:ByteArray),.string (⟨#[58]⟩:ByteArray),.string (⟨#[34]⟩:ByteArray),.string (⟨#[45]⟩:ByteArray),.string (⟨#[32,32,119,105,116,104,105,110,58,32,34,34,10]⟩:ByteArray),.string (⟨#[32,32,120,58,32,121,10]⟩:ByteArray),.string (⟨#[9]⟩:ByteArray),.string (⟨#[108,111,99,107,115,58,10]⟩:ByteArray),.string (⟨#[32,32,115,111,117,114,99,101,58,32,34,34,10]⟩:ByteArray),.string (⟨#[32,32,32]⟩:ByteArray)]) (ok:=fun _ => True) (okp:=fun _ => True) ?hr ?hp (fun _ hk => hk) trivial (Below.refl _ _) (Nat.le_refl _) (by simp) ?_;(case hd => rfl);(case hg => rfl);(case hr => first|(go_simp;done)|(go_simp;rfl));(case hp => exact (Reps.one (show Kd.M Kd.string _ _ _ (⟨#[10]⟩:ByteArray) [.string (⟨#[10]⟩:ByteArray)] from rfl) (Reps.one (show Kd.M Kd.string _ _ _ (⟨#[32]⟩:ByteArray) [.string (⟨#[32]⟩:ByteArray)] from rfl) (Reps.one (show Kd.M Kd.string _ _ _ (⟨#[35]⟩:ByteArray) [.string (⟨#[35]⟩:ByteArray)] from rfl) (Reps.one (show Kd.M Kd.string _ _ _ (⟨#[35,32,120,10]⟩:ByteArray) [.string (⟨#[35,32,120,10]⟩:ByteArray)] from rfl) (Reps.one (show Kd.M Kd.string _ _ _ (⟨#[45,32,114,111,111,116,58,32,113,10]⟩:ByteArray) [.string (⟨#[45,32,114,111,111,116,58,32,113,10]⟩:ByteArray)] from rfl) (Reps.one (show Kd.M Kd.string _ _ _ (⟨#[32,32,114,111,111,116,58,32,113,10]⟩:ByteArray) [.string (⟨#[32,32,114,111,111,116,58,32,113,10]⟩:ByteArray)] from rfl) (Reps.one (show Kd.M Kd.string _ _ _ (⟨#[32,32,118,101,114,115,105,111,110,58,32,118,49,46,48,46,48,10]⟩:ByteArray) [.string (⟨#[32,32,118,101,114,115,105,111,110,58,32,118,49,46,48,46,48,10]⟩:ByteArray)] from rfl) (Reps.one (show Kd.M Kd.string _ _ _ (⟨#[58]⟩:ByteArray) [.string (⟨#[58]⟩:ByteArray)] from rfl) (Reps.one (show Kd.M Kd.string _ _ _ (⟨#[34]⟩:ByteArray) [.string (⟨#[34]⟩:ByteArray)] from rfl) (Reps.one (show Kd.M Kd.string _ _ _ (⟨#[45]⟩:ByteArray) [.string (⟨#[45]⟩:ByteArray)] from rfl) (Reps.one (show Kd.M Kd.string _ _ _ (⟨#[32,32,119,105,116,104,105,110,58,32,34,34,10]⟩:ByteArray) [.string (⟨#[32,32,119,105,116,104,105,110,58,32,34,34,10]⟩:ByteArray)] from rfl) (Reps.one (show Kd.M Kd.string _ _ _ (⟨#[32,32,120,58,32,121,10]⟩:ByteArray) [.string (⟨#[32,32,120,58,32,121,10]⟩:ByteArray)] from rfl) (Reps.one (show Kd.M Kd.string _ _ _ (⟨#[9]⟩:ByteArray) [.string (⟨#[9]⟩:ByteArray)] from rfl) (Reps.one (show Kd.M Kd.string _ _ _ (⟨#[108,111,99,107,115,58,10]⟩:ByteArray) [.string (⟨#[108,111,99,107,115,58,10]⟩:ByteArray)] from rfl) (Reps.one (show Kd.M Kd.string _ _ _ (⟨#[32,32,115,111,117,114,99,101,58,32,34,34,10]⟩:ByteArray) [.string (⟨#[32,32,115,111,117,114,99,101,58,32,34,34,10]⟩:ByteArray)] from rfl) (Reps.one (show Kd.M Kd.string _ _ _ (⟨#[32,32,32]⟩:ByteArray) [.string (⟨#[32,32,32]⟩:ByteArray)] from rfl) (Reps.none _ _))))))))))))))))));intro v243 w44 ho45 hb hg_ hnew_;clear hg_ hnew_;(first|rw [← Ny242.out] at ho45|(simp only [Int.reduceToNat] at ho45;rw [← Ny242.out] at ho45));have n0_:=Aside0.mk (Kd.R_below (by (with_reducible repeat (first|apply Kd.R_alloc|apply Kd.R_drewN|apply Kd.R_drew));exact HO239.out) hb);have n1_:=Aside0.mk (Kd.R_lower ho45 (below_size (by repeat (first|(with_reducible first|exact HB.out|apply below_alloc|apply pw_below_drewN|apply below_drew1)|exact HB.out))));have n2_:=Aside0.mk (below_step (by repeat (first|(with_reducible first|exact HB.out|apply below_alloc|apply pw_below_drewN|apply below_drew1)|exact HB.out)) hb);clear HO239;clear HB;have HO239:=n0_;have HO244:=n1_;have HB:=n2_;clear n0_ n1_ n2_;clear hb ho45)|((with_reducible refine gate_callee (f:=14) rfl ?_);refine goesL_ (some 52) rfl rfl Tryz.func14 (by kernel_rfl) rfl #[.int .i64 a2,.int .i64 16] rfl (by (try simp only [List.map_toArray,List.map_cons,List.map_nil]);first|done|rfl|(simp only [List.length_drop,List.length_take];rfl)) ?_;(with_reducible refine (transhumancelaw7_within.calls a2 16 t245 _ A18.out).mono ?_);rintro e w' ⟨rfl,⟨nd,rfl⟩⟩;refine ⟨_,rfl,?_⟩;obtain ⟨Ao46,co46,eo46⟩:=Kd.R_slice HO244.out;subst eo46;have p246:0≤(t245:Int):=of_decide_eq_true (by first|(with_reducible assumption)|assumption);have q246:t245<(y242.length:Int):=of_decide_eq_true (by first|(with_reducible assumption)|assumption);obtain ⟨ad246,e246,hx246_0⟩:=Kd.at_string (Kd.R_reads' HO244.out).2.2 t245 p246 q246;cases e246;replace p246:=eq_true p246;replace q246:=eq_true q246))
                  (try (rw [drewN_self w44];generalize hq_:World.drewN w44 _=w44;have n0_:Aside0 (Kd.R k43 43 w44 w.heap.size (fun _ => True) (.slice Ao42 t237.length co42) t237):=⟨by rw [← hq_];exact (by (with_reducible repeat (first|apply Kd.R_alloc|apply Kd.R_drewN|apply Kd.R_drew));exact HO239.out)⟩;have n1_:Aside0 (Kd.R Kd.string 9 w44 w.heap.size (fun _ => True) (.slice (some ad246) y242.length co46) y242):=⟨by rw [← hq_];exact (by (with_reducible repeat (first|apply Kd.R_alloc|apply Kd.R_drewN|apply Kd.R_drew));exact HO244.out)⟩;have n2_:Aside0 (Below w.heap.size w w44):=⟨by rw [← hq_];exact (by repeat (first|(with_reducible first|exact HB.out|apply below_alloc|apply pw_below_drewN|apply below_drew1)|exact HB.out))⟩;clear HO239 HO244 HB hq_;have HO239:=n0_;have HO244:=n1_;have HB:=n2_;clear n0_ n1_ n2_))
                  have n0_:=Aside0.mk (Kd.R_drew HO239.out)
                  have n1_:=Aside0.mk (Kd.R_drew HO244.out)
                  have n2_:=Aside0.mk (below_drew1 HB.out)
                  clear HO239
                  clear HO244
                  clear HB
                  have HO239:=n0_
                  have HO244:=n1_
                  have HB:=n2_
                  clear n0_ n1_ n2_
                  refine start_ (n:=41) (S:=fun w' => True) (ds:=[]) #[false,false,false,false,false,false,false,false,false,false,false,false,false,false,false,false,false,false,false,false,false,false,false,false,false,false,false,false,false,false,false,false,false,false,false,false,false,false,false,false,false] (by kernel_rfl) rfl rfl trivial (fun hHeld => ?_);refine with_tabW transhumancelaw7_DentReads.tab8 transhumancelaw7_DentReads.bits8 (fun HT_ HW_ => ?_)
                  generalize w44.drew=w47 at HO239 HO244 HB hHeld ⊢
                  refine pure_ (i:=0) (N:=some 55) (v:=?_) (a':=?_) #[true,false,false,false,false,false,false,false,false,false,false,false,false,false,false,false,false,false,false,false,false,false,false,false,false,false,false,false,false,false,false,false,false,false,false,false,false,false,false,false,false] rfl rfl (any_of HT_.out (by kernel_rfl)) (fun _ _ _ h => h) (Or.inl ⟨by rfl,?_⟩) ?_ ?_
                  rotate_left
                  ·intro w'
                   go_simp
                   with_reducible rfl
                  rotate_left
                  ·simp only [Act.put,List.setIfInBounds_toArray,List.set_cons_zero,List.set_cons_succ,i64_w,i32_w]
                   rfl
                  refine pure_ (i:=1) (N:=some 56) (v:=?_) (a':=?_) #[true,true,false,false,false,false,false,false,false,false,false,false,false,false,false,false,false,false,false,false,false,false,false,false,false,false,false,false,false,false,false,false,false,false,false,false,false,false,false,false,false] rfl rfl (any_of HT_.out (by kernel_rfl)) (fun _ _ _ h => h) (Or.inl ⟨by rfl,?_⟩) ?_ ?_
                  rotate_left
                  ·intro w'
                   go_simp
                   with_reducible rfl
                  rotate_left
                  ·simp only [Act.put,List.setIfInBounds_toArray,List.set_cons_zero,List.set_cons_succ,i64_w,i32_w]
                   rfl
                  refine pure_ (i:=2) (N:=some 57) (v:=?_) (a':=?_) #[true,true,true,false,false,false,false,false,false,false,false,false,false,false,false,false,false,false,false,false,false,false,false,false,false,false,false,false,false,false,false,false,false,false,false,false,false,false,false,false,false] rfl rfl (any_of HT_.out (by kernel_rfl)) (fun _ _ _ h => h) (Or.inl ⟨by rfl,?_⟩) ?_ ?_
                  rotate_left
                  ·intro w'
                   go_simp
                   with_reducible rfl
                  rotate_left
                  ·simp only [Act.put,List.setIfInBounds_toArray,List.set_cons_zero,List.set_cons_succ,i64_w,i32_w]
                   rfl
                  refine pure_ (i:=4) (N:=some 59) (v:=?_) (a':=?_) #[true,true,true,false,true,false,false,false,false,false,false,false,false,false,false,false,false,false,false,false,false,false,false,false,false,false,false,false,false,false,false,false,false,false,false,false,false,false,false,false,false] rfl rfl (any_of HT_.out (by kernel_rfl)) (fun _ _ _ h => h) (Or.inl ⟨by rfl,?_⟩) ?_ ?_
                  rotate_left
                  ·intro w'
                   go_simp
                   with_reducible rfl
                  rotate_left
                  ·simp only [Act.put,List.setIfInBounds_toArray,List.set_cons_zero,List.set_cons_succ,i64_w,i32_w]
                   rfl
                  refine pure_ (i:=5) (N:=some 60) (v:=?_) (a':=?_) #[true,true,true,false,true,true,false,false,false,false,false,false,false,false,false,false,false,false,false,false,false,false,false,false,false,false,false,false,false,false,false,false,false,false,false,false,false,false,false,false,false] rfl rfl (any_of HT_.out (by kernel_rfl)) (fun _ _ _ h => h) (Or.inl ⟨by rfl,?_⟩) ?_ ?_
                  rotate_left
                  ·intro w'
                   go_simp
                   with_reducible rfl
                  rotate_left
                  ·simp only [Act.put,List.setIfInBounds_toArray,List.set_cons_zero,List.set_cons_succ,i64_w,i32_w]
                   rfl
                  refine pure_ (i:=6) (N:=some 61) (v:=?_) (a':=?_) #[true,true,true,false,true,true,true,false,false,false,false,false,false,false,false,false,false,false,false,false,false,false,false,false,false,false,false,false,false,false,false,false,false,false,false,false,false,false,false,false,false] rfl rfl (any_of HT_.out (by kernel_rfl)) (fun _ _ _ h => h) (Or.inl ⟨by rfl,?_⟩) ?_ ?_
                  rotate_left
                  ·intro w'
                   go_simp
                   with_reducible rfl
                  rotate_left
                  ·simp only [Act.put,List.setIfInBounds_toArray,List.set_cons_zero,List.set_cons_succ,i64_w,i32_w]
                   rfl
                  refine pure_ (i:=7) (N:=some 62) (v:=?_) (a':=?_) #[true,true,true,false,true,true,true,true,false,false,false,false,false,false,false,false,false,false,false,false,false,false,false,false,false,false,false,false,false,false,false,false,false,false,false,false,false,false,false,false,false] rfl rfl (any_of HT_.out (by kernel_rfl)) (fun _ _ _ h => h) (Or.inl ⟨by rfl,?_⟩) ?_ ?_
                  rotate_left
                  ·intro w'
                   go_simp
                   with_reducible rfl
                  rotate_left
                  ·simp only [Act.put,List.setIfInBounds_toArray,List.set_cons_zero,List.set_cons_succ,i64_w,i32_w]
                   rfl
                  refine pure_ (i:=8) (N:=some 63) (v:=?_) (a':=?_) #[true,true,true,false,true,true,true,true,true,false,false,false,false,false,false,false,false,false,false,false,false,false,false,false,false,false,false,false,false,false,false,false,false,false,false,false,false,false,false,false,false] rfl rfl (any_of HT_.out (by kernel_rfl)) (fun _ _ _ h => h) (Or.inl ⟨by rfl,?_⟩) ?_ ?_
                  rotate_left
                  ·intro w'
                   go_simp
                   with_reducible rfl
                  rotate_left
                  ·simp only [Act.put,List.setIfInBounds_toArray,List.set_cons_zero,List.set_cons_succ,i64_w,i32_w]
                   rfl
                  refine pure_ (i:=9) (N:=some 64) (v:=?_) (a':=?_) #[true,true,true,false,true,true,true,true,true,true,false,false,false,false,false,false,false,false,false,false,false,false,false,false,false,false,false,false,false,false,false,false,false,false,false,false,false,false,false,false,false] rfl rfl (any_of HT_.out (by kernel_rfl)) (fun _ _ _ h => h) (Or.inl ⟨by rfl,?_⟩) ?_ ?_
                  rotate_left
                  ·intro w'
                   go_simp
                   with_reducible rfl
                  rotate_left
                  ·simp only [Act.put,List.setIfInBounds_toArray,List.set_cons_zero,List.set_cons_succ,i64_w,i32_w]
                   rfl
                  refine pure_ (i:=10) (N:=some 65) (v:=?_) (a':=?_) #[true,true,true,false,true,true,true,true,true,true,true,false,false,false,false,false,false,false,false,false,false,false,false,false,false,false,false,false,false,false,false,false,false,false,false,false,false,false,false,false,false] rfl rfl (any_of HT_.out (by kernel_rfl)) (fun _ _ _ h => h) (Or.inl ⟨by rfl,?_⟩) ?_ ?_
                  rotate_left
                  ·intro w'
                   go_simp
                   with_reducible rfl
                  rotate_left
                  ·simp only [Act.put,List.setIfInBounds_toArray,List.set_cons_zero,List.set_cons_succ,i64_w,i32_w]
                   rfl
                  refine pure_ (i:=11) (N:=some 66) (v:=?_) (a':=?_) #[true,true,true,false,true,true,true,true,true,true,true,true,false,false,false,false,false,false,false,false,false,false,false,false,false,false,false,false,false,false,false,false,false,false,false,false,false,false,false,false,false] rfl rfl (any_of HT_.out (by kernel_rfl)) (fun _ _ _ h => h) (Or.inl ⟨by rfl,?_⟩) ?_ ?_
                  rotate_left
                  ·intro w'
                   go_simp
                   with_reducible rfl
                  rotate_left
                  ·simp only [Act.put,List.setIfInBounds_toArray,List.set_cons_zero,List.set_cons_succ,i64_w,i32_w]
                   rfl
                  refine pure_ (i:=12) (N:=some 67) (v:=?_) (a':=?_) #[true,true,true,false,true,true,true,true,true,true,true,true,true,false,false,false,false,false,false,false,false,false,false,false,false,false,false,false,false,false,false,false,false,false,false,false,false,false,false,false,false] rfl rfl (any_of HT_.out (by kernel_rfl)) (fun _ _ _ h => h) (Or.inl ⟨by rfl,?_⟩) ?_ ?_
                  rotate_left
                  ·intro w'
                   go_simp
                   with_reducible rfl
                  rotate_left
                  ·simp only [Act.put,List.setIfInBounds_toArray,List.set_cons_zero,List.set_cons_succ,i64_w,i32_w]
                   rfl
                  refine pure_ (i:=13) (N:=some 68) (v:=?_) (a':=?_) #[true,true,true,false,true,true,true,true,true,true,true,true,true,true,false,false,false,false,false,false,false,false,false,false,false,false,false,false,false,false,false,false,false,false,false,false,false,false,false,false,false] rfl rfl (any_of HT_.out (by kernel_rfl)) (fun _ _ _ h => h) (Or.inl ⟨by rfl,?_⟩) ?_ ?_
                  rotate_left
                  ·intro w'
                   go_simp
                   with_reducible rfl
                  rotate_left
                  ·simp only [Act.put,List.setIfInBounds_toArray,List.set_cons_zero,List.set_cons_succ,i64_w,i32_w]
                   rfl
                  refine pure_ (i:=14) (N:=some 69) (v:=?_) (a':=?_) #[true,true,true,false,true,true,true,true,true,true,true,true,true,true,true,false,false,false,false,false,false,false,false,false,false,false,false,false,false,false,false,false,false,false,false,false,false,false,false,false,false] rfl rfl (any_of HT_.out (by kernel_rfl)) (fun _ _ _ h => h) (Or.inl ⟨by rfl,?_⟩) ?_ ?_
                  rotate_left
                  ·intro w'
                   go_simp
                   with_reducible rfl
                  rotate_left
                  ·simp only [Act.put,List.setIfInBounds_toArray,List.set_cons_zero,List.set_cons_succ,i64_w,i32_w]
                   rfl
                  refine pure_ (i:=15) (N:=some 70) (v:=?_) (a':=?_) #[true,true,true,false,true,true,true,true,true,true,true,true,true,true,true,true,false,false,false,false,false,false,false,false,false,false,false,false,false,false,false,false,false,false,false,false,false,false,false,false,false] rfl rfl (any_of HT_.out (by kernel_rfl)) (fun _ _ _ h => h) (Or.inl ⟨by rfl,?_⟩) ?_ ?_
                  rotate_left
                  ·intro w'
                   go_simp
                   with_reducible rfl
                  rotate_left
                  ·simp only [Act.put,List.setIfInBounds_toArray,List.set_cons_zero,List.set_cons_succ,i64_w,i32_w]
                   rfl
                  refine pure_ (i:=16) (N:=some 71) (v:=?_) (a':=?_) #[true,true,true,false,true,true,true,true,true,true,true,true,true,true,true,true,true,false,false,false,false,false,false,false,false,false,false,false,false,false,false,false,false,false,false,false,false,false,false,false,false] rfl rfl (any_of HT_.out (by kernel_rfl)) (fun _ _ _ h => h) (Or.inl ⟨by rfl,?_⟩) ?_ ?_
                  rotate_left
                  ·intro w'
                   go_simp
                   with_reducible rfl
                  rotate_left
                  ·simp only [Act.put,List.setIfInBounds_toArray,List.set_cons_zero,List.set_cons_succ,i64_w,i32_w]
                   rfl
                  refine pure_ (i:=17) (N:=some 72) (v:=?_) (a':=?_) #[true,true,true,false,true,true,true,true,true,true,true,true,true,true,true,true,true,true,false,false,false,false,false,false,false,false,false,false,false,false,false,false,false,false,false,false,false,false,false,false,false] rfl rfl (any_of HT_.out (by kernel_rfl)) (fun _ _ _ h => h) (Or.inl ⟨by rfl,?_⟩) ?_ ?_
                  rotate_left
                  ·intro w'
                   go_simp
                   with_reducible rfl
                  rotate_left
                  ·simp only [Act.put,List.setIfInBounds_toArray,List.set_cons_zero,List.set_cons_succ,i64_w,i32_w]
                   rfl
                  refine pure_ (i:=18) (N:=some 73) (v:=?_) (a':=?_) #[true,true,true,false,true,true,true,true,true,true,true,true,true,true,true,true,true,true,true,false,false,false,false,false,false,false,false,false,false,false,false,false,false,false,false,false,false,false,false,false,false] rfl rfl (any_of HT_.out (by kernel_rfl)) (fun _ _ _ h => h) (Or.inl ⟨by rfl,?_⟩) ?_ ?_
                  rotate_left
                  ·intro w'
                   go_simp
                   with_reducible rfl
                  rotate_left
                  ·simp only [Act.put,List.setIfInBounds_toArray,List.set_cons_zero,List.set_cons_succ,i64_w,i32_w]
                   rfl
                  refine pure_ (i:=19) (N:=some 74) (v:=?_) (a':=?_) #[true,true,true,false,true,true,true,true,true,true,true,true,true,true,true,true,true,true,true,true,false,false,false,false,false,false,false,false,false,false,false,false,false,false,false,false,false,false,false,false,false] rfl rfl (any_of HT_.out (by kernel_rfl)) (fun _ _ _ h => h) (Or.inl ⟨by rfl,?_⟩) ?_ ?_
                  rotate_left
                  ·intro w'
                   go_simp
                   with_reducible rfl
                  rotate_left
                  ·simp only [Act.put,List.setIfInBounds_toArray,List.set_cons_zero,List.set_cons_succ,i64_w,i32_w]
                   rfl
                  refine pure_ (i:=20) (N:=some 75) (v:=?_) (a':=?_) #[true,true,true,false,true,true,true,true,true,true,true,true,true,true,true,true,true,true,true,true,true,false,false,false,false,false,false,false,false,false,false,false,false,false,false,false,false,false,false,false,false] rfl rfl (any_of HT_.out (by kernel_rfl)) (fun _ _ _ h => h) (Or.inl ⟨by rfl,?_⟩) ?_ ?_
                  rotate_left
                  ·intro w'
                   go_simp
                   with_reducible rfl
                  rotate_left
                  ·simp only [Act.put,List.setIfInBounds_toArray,List.set_cons_zero,List.set_cons_succ,i64_w,i32_w]
                   rfl
                  refine pure_ (i:=21) (N:=some 76) (v:=?_) (a':=?_) #[true,true,true,false,true,true,true,true,true,true,true,true,true,true,true,true,true,true,true,true,true,true,false,false,false,false,false,false,false,false,false,false,false,false,false,false,false,false,false,false,false] rfl rfl (any_of HT_.out (by kernel_rfl)) (fun _ _ _ h => h) (Or.inl ⟨by rfl,?_⟩) ?_ ?_
                  rotate_left
                  ·intro w'
                   go_simp
                   with_reducible rfl
                  rotate_left
                  ·simp only [Act.put,List.setIfInBounds_toArray,List.set_cons_zero,List.set_cons_succ,i64_w,i32_w]
                   rfl
                  refine pure_ (i:=22) (N:=some 77) (v:=?_) (a':=?_) #[true,true,true,false,true,true,true,true,true,true,true,true,true,true,true,true,true,true,true,true,true,true,true,false,false,false,false,false,false,false,false,false,false,false,false,false,false,false,false,false,false] rfl rfl (any_of HT_.out (by kernel_rfl)) (fun _ _ _ h => h) (Or.inl ⟨by rfl,?_⟩) ?_ ?_
                  rotate_left
                  ·intro w'
                   go_simp
                   with_reducible rfl
                  rotate_left
                  ·simp only [Act.put,List.setIfInBounds_toArray,List.set_cons_zero,List.set_cons_succ,i64_w,i32_w]
                   rfl
                  refine pure_ (i:=23) (N:=some 78) (v:=?_) (a':=?_) #[true,true,true,false,true,true,true,true,true,true,true,true,true,true,true,true,true,true,true,true,true,true,true,true,false,false,false,false,false,false,false,false,false,false,false,false,false,false,false,false,false] rfl rfl (any_of HT_.out (by kernel_rfl)) (fun _ _ _ h => h) (Or.inl ⟨by rfl,?_⟩) ?_ ?_
                  rotate_left
                  ·intro w'
                   go_simp
                   with_reducible rfl
                  rotate_left
                  ·simp only [Act.put,List.setIfInBounds_toArray,List.set_cons_zero,List.set_cons_succ,i64_w,i32_w]
                   rfl
                  refine pure_ (i:=24) (N:=some 79) (v:=?_) (a':=?_) #[true,true,true,false,true,true,true,true,true,true,true,true,true,true,true,true,true,true,true,true,true,true,true,true,true,false,false,false,false,false,false,false,false,false,false,false,false,false,false,false,false] rfl rfl (any_of HT_.out (by kernel_rfl)) (fun _ _ _ h => h) (Or.inl ⟨by rfl,?_⟩) ?_ ?_
                  rotate_left
                  ·intro w'
                   go_simp
                   with_reducible rfl
                  rotate_left
                  ·simp only [Act.put,List.setIfInBounds_toArray,List.set_cons_zero,List.set_cons_succ,i64_w,i32_w]
                   rfl
                  refine pure_ (i:=25) (N:=some 80) (v:=?_) (a':=?_) #[true,true,true,false,true,true,true,true,true,true,true,true,true,true,true,true,true,true,true,true,true,true,true,true,true,true,false,false,false,false,false,false,false,false,false,false,false,false,false,false,false] rfl rfl (any_of HT_.out (by kernel_rfl)) (fun _ _ _ h => h) (Or.inl ⟨by rfl,?_⟩) ?_ ?_
                  rotate_left
                  ·intro w'
                   go_simp
                   with_reducible rfl
                  rotate_left
                  ·simp only [Act.put,List.setIfInBounds_toArray,List.set_cons_zero,List.set_cons_succ,i64_w,i32_w]
                   rfl
                  refine pure_ (i:=26) (N:=some 81) (v:=?_) (a':=?_) #[true,true,true,false,true,true,true,true,true,true,true,true,true,true,true,true,true,true,true,true,true,true,true,true,true,true,true,false,false,false,false,false,false,false,false,false,false,false,false,false,false] rfl rfl (any_of HT_.out (by kernel_rfl)) (fun _ _ _ h => h) (Or.inl ⟨by rfl,?_⟩) ?_ ?_
                  rotate_left
                  ·intro w'
                   go_simp
                   with_reducible rfl
                  rotate_left
                  ·simp only [Act.put,List.setIfInBounds_toArray,List.set_cons_zero,List.set_cons_succ,i64_w,i32_w]
                   rfl
                  refine pure_ (i:=27) (N:=some 82) (v:=?_) (a':=?_) #[true,true,true,false,true,true,true,true,true,true,true,true,true,true,true,true,true,true,true,true,true,true,true,true,true,true,true,true,false,false,false,false,false,false,false,false,false,false,false,false,false] rfl rfl (any_of HT_.out (by kernel_rfl)) (fun _ _ _ h => h) (Or.inl ⟨by rfl,?_⟩) ?_ ?_
                  rotate_left
                  ·intro w'
                   go_simp
                   with_reducible rfl
                  rotate_left
                  ·simp only [Act.put,List.setIfInBounds_toArray,List.set_cons_zero,List.set_cons_succ,i64_w,i32_w]
                   rfl
                  refine pure_ (i:=28) (N:=some 83) (v:=?_) (a':=?_) #[true,true,true,false,true,true,true,true,true,true,true,true,true,true,true,true,true,true,true,true,true,true,true,true,true,true,true,true,true,false,false,false,false,false,false,false,false,false,false,false,false] rfl rfl (any_of HT_.out (by kernel_rfl)) (fun _ _ _ h => h) (Or.inl ⟨by rfl,?_⟩) ?_ ?_
                  rotate_left
                  ·intro w'
                   go_simp
                   with_reducible rfl
                  rotate_left
                  ·simp only [Act.put,List.setIfInBounds_toArray,List.set_cons_zero,List.set_cons_succ,i64_w,i32_w]
                   rfl
                  refine pure_ (i:=29) (N:=some 84) (v:=?_) (a':=?_) #[true,true,true,false,true,true,true,true,true,true,true,true,true,true,true,true,true,true,true,true,true,true,true,true,true,true,true,true,true,true,false,false,false,false,false,false,false,false,false,false,false] rfl rfl (any_of HT_.out (by kernel_rfl)) (fun _ _ _ h => h) (Or.inl ⟨by rfl,?_⟩) ?_ ?_
                  rotate_left
                  ·intro w'
                   go_simp
                   with_reducible rfl
                  rotate_left
                  ·simp only [Act.put,List.setIfInBounds_toArray,List.set_cons_zero,List.set_cons_succ,i64_w,i32_w]
                   rfl
                  refine pure_ (i:=30) (N:=some 85) (v:=?_) (a':=?_) #[true,true,true,false,true,true,true,true,true,true,true,true,true,true,true,true,true,true,true,true,true,true,true,true,true,true,true,true,true,true,true,false,false,false,false,false,false,false,false,false,false] rfl rfl (any_of HT_.out (by kernel_rfl)) (fun _ _ _ h => h) (Or.inl ⟨by rfl,?_⟩) ?_ ?_
                  rotate_left
                  ·intro w'
                   go_simp
                   with_reducible rfl
                  rotate_left
                  ·simp only [Act.put,List.setIfInBounds_toArray,List.set_cons_zero,List.set_cons_succ,i64_w,i32_w]
                   rfl
                  refine pure_ (i:=31) (N:=some 86) (v:=?_) (a':=?_) #[true,true,true,false,true,true,true,true,true,true,true,true,true,true,true,true,true,true,true,true,true,true,true,true,true,true,true,true,true,true,true,true,false,false,false,false,false,false,false,false,false] rfl rfl (any_of HT_.out (by kernel_rfl)) (fun _ _ _ h => h) (Or.inl ⟨by rfl,?_⟩) ?_ ?_
                  rotate_left
                  ·intro w'
                   go_simp
                   with_reducible rfl
                  rotate_left
                  ·simp only [Act.put,List.setIfInBounds_toArray,List.set_cons_zero,List.set_cons_succ,i64_w,i32_w]
                   rfl
                  refine pure_ (i:=32) (N:=some 87) (v:=?_) (a':=?_) #[true,true,true,false,true,true,true,true,true,true,true,true,true,true,true,true,true,true,true,true,true,true,true,true,true,true,true,true,true,true,true,true,true,false,false,false,false,false,false,false,false] rfl rfl (any_of HT_.out (by kernel_rfl)) (fun _ _ _ h => h) (Or.inl ⟨by rfl,?_⟩) ?_ ?_
                  rotate_left
                  ·intro w'
                   go_simp
                   with_reducible rfl
                  rotate_left
                  ·simp only [Act.put,List.setIfInBounds_toArray,List.set_cons_zero,List.set_cons_succ,i64_w,i32_w]
                   rfl
                  refine pure_ (i:=33) (N:=some 88) (v:=?_) (a':=?_) #[true,true,true,false,true,true,true,true,true,true,true,true,true,true,true,true,true,true,true,true,true,true,true,true,true,true,true,true,true,true,true,true,true,true,false,false,false,false,false,false,false] rfl rfl (any_of HT_.out (by kernel_rfl)) (fun _ _ _ h => h) (Or.inl ⟨by rfl,?_⟩) ?_ ?_
                  rotate_left
                  ·intro w'
                   go_simp
                   with_reducible rfl
                  rotate_left
                  ·simp only [Act.put,List.setIfInBounds_toArray,List.set_cons_zero,List.set_cons_succ,i64_w,i32_w]
                   rfl
                  refine pure_ (i:=34) (N:=some 89) (v:=?_) (a':=?_) #[true,true,true,false,true,true,true,true,true,true,true,true,true,true,true,true,true,true,true,true,true,true,true,true,true,true,true,true,true,true,true,true,true,true,true,false,false,false,false,false,false] rfl rfl (any_of HT_.out (by kernel_rfl)) (fun _ _ _ h => h) (Or.inl ⟨by rfl,?_⟩) ?_ ?_
                  rotate_left
                  ·intro w'
                   go_simp
                   with_reducible rfl
                  rotate_left
                  ·simp only [Act.put,List.setIfInBounds_toArray,List.set_cons_zero,List.set_cons_succ,i64_w,i32_w]
                   rfl
                  refine pure_ (i:=35) (N:=some 90) (v:=?_) (a':=?_) #[true,true,true,false,true,true,true,true,true,true,true,true,true,true,true,true,true,true,true,true,true,true,true,true,true,true,true,true,true,true,true,true,true,true,true,true,false,false,false,false,false] rfl rfl (any_of HT_.out (by kernel_rfl)) (fun _ _ _ h => h) (Or.inl ⟨by rfl,?_⟩) ?_ ?_
                  rotate_left
                  ·intro w'
                   go_simp
                   with_reducible rfl
                  rotate_left
                  ·simp only [Act.put,List.setIfInBounds_toArray,List.set_cons_zero,List.set_cons_succ,i64_w,i32_w]
                   rfl
                  refine pure_ (i:=36) (N:=some 91) (v:=?_) (a':=?_) #[true,true,true,false,true,true,true,true,true,true,true,true,true,true,true,true,true,true,true,true,true,true,true,true,true,true,true,true,true,true,true,true,true,true,true,true,true,false,false,false,false] rfl rfl (any_of HT_.out (by kernel_rfl)) (fun _ _ _ h => h) (Or.inl ⟨by rfl,?_⟩) ?_ ?_
                  rotate_left
                  ·intro w'
                   go_simp
                   with_reducible rfl
                  rotate_left
                  ·simp only [Act.put,List.setIfInBounds_toArray,List.set_cons_zero,List.set_cons_succ,i64_w,i32_w]
                   rfl
                  refine pure_ (i:=37) (N:=some 92) (v:=?_) (a':=?_) #[true,true,true,false,true,true,true,true,true,true,true,true,true,true,true,true,true,true,true,true,true,true,true,true,true,true,true,true,true,true,true,true,true,true,true,true,true,true,false,false,false] rfl rfl (any_of HT_.out (by kernel_rfl)) (fun _ _ _ h => h) (Or.inl ⟨by rfl,?_⟩) ?_ ?_
                  rotate_left
                  ·intro w'
                   go_simp
                   with_reducible rfl
                  rotate_left
                  ·simp only [Act.put,List.setIfInBounds_toArray,List.set_cons_zero,List.set_cons_succ,i64_w,i32_w]
                   rfl
                  refine pure_ (i:=38) (N:=some 93) (v:=?_) (a':=?_) #[true,true,true,false,true,true,true,true,true,true,true,true,true,true,true,true,true,true,true,true,true,true,true,true,true,true,true,true,true,true,true,true,true,true,true,true,true,true,true,false,false] rfl rfl (any_of HT_.out (by kernel_rfl)) (fun _ _ _ h => h) (Or.inl ⟨by rfl,?_⟩) ?_ ?_
                  rotate_left
                  ·intro w'
                   go_simp
                   with_reducible rfl
                  rotate_left
                  ·simp only [Act.put,List.setIfInBounds_toArray,List.set_cons_zero,List.set_cons_succ,i64_w,i32_w]
                   rfl
                  refine one_ (i:=3) (N:=some 58) #[true,true,true,true,true,true,true,true,true,true,true,true,true,true,true,true,true,true,true,true,true,true,true,true,true,true,true,true,true,true,true,true,true,true,true,true,true,true,true,false,false] rfl rfl (one_of HT_.out (by kernel_rfl)) (by decide) (fun K hK => ?_)
                  refine goes_ Tryz.func15 (by kernel_rfl) rfl #[.string t240,.int .i64 a2,.int .u8 a3] (by rfl) rfl rfl (by (try simp only [List.map_toArray,List.map_cons,List.map_nil]);first|done|rfl|(simp only [List.length_drop,List.length_take];rfl)) ?_
                  with_reducible refine (transhumancelaw7_turned.calls t240 a2 a3 t247 _ A21.out).mono ?_
                  rintro e w48 ⟨rfl,hb⟩
                  refine ⟨_,rfl,?_⟩
                  have n0_:=Aside0.mk (Kd.R_below (by (with_reducible repeat (first|apply Kd.R_alloc|apply Kd.R_drewN|apply Kd.R_drew));exact HO239.out) hb)
                  have n1_:=Aside0.mk (Kd.R_below (by (with_reducible repeat (first|apply Kd.R_alloc|apply Kd.R_drewN|apply Kd.R_drew));exact HO244.out) hb)
                  have n2_:=Aside0.mk (below_step (by repeat (first|(with_reducible first|exact HB.out|apply below_alloc|apply pw_below_drewN|apply below_drew1)|exact HB.out)) hb)
                  clear HO239
                  clear HO244
                  clear HB
                  have HO239:=n0_
                  have HO244:=n1_
                  have HB:=n2_
                  clear n0_ n1_ n2_
                  (try clear hb)
                  (try clear hb2)
                  (try clear hk)
                  (try clear hi)
                  refine hK.out _ _ trivial (fun hHeld => ?_)
                  clear hK K
                  refine norm_ (a':=?_) ?_ ?_
                  rotate_left
                  ·show Act.put _ (some 58) _=_
                   simp only [Act.put,List.setIfInBounds_toArray,List.set_cons_zero,List.set_cons_succ,i64_w,i32_w]
                   rfl
                  refine one_ (i:=39) (N:=some 94) #[true,true,true,true,true,true,true,true,true,true,true,true,true,true,true,true,true,true,true,true,true,true,true,true,true,true,true,true,true,true,true,true,true,true,true,true,true,true,true,true,false] rfl rfl (one_of HT_.out (by kernel_rfl)) (by decide) (fun K hK => ?_)
                  refine Kd.R_lit_step Kd.string _ 9 ?hg (N:=94) ?hd (xs:=([t247,t240.extract 0 (t241:Int).toNat,((t240.extract 0 (t241:Int).toNat)++a5)++(t240.extract (t241:Int).toNat t240.size),a6,((t240.extract 0 (t241:Int).toNat)++(rdOf ByteArray.empty y242 t245))++(t240.extract (t241:Int).toNat t240.size),t240++(rdOf ByteArray.empty y242 t245),(⟨#[108,111,99,107,115,58,10,45,32]⟩:ByteArray)++a6,(rdOf ByteArray.empty y242 t245)++t240,t240++t240,(⟨#[108,111,99,107,115,58,10,45,32,114,111,111,116,58,32]⟩:ByteArray)++a6]:List ByteArray)) (inner:=[.string t247,.string (t240.extract 0 (t241:Int).toNat),.string (((t240.extract 0 (t241:Int).toNat)++a5)++(t240.extract (t241:Int).toNat t240.size)),.string a6,.string (((t240.extract 0 (t241:Int).toNat)++(rdOf ByteArray.empty y242 t245))++(t240.extract (t241:Int).toNat t240.size)),.string (t240++(rdOf ByteArray.empty y242 t245)),.string ((⟨#[108,111,99,107,115,58,10,45,32]⟩:ByteArray)++a6),.string ((rdOf ByteArray.empty y242 t245)++t240),.string (t240++t240),.string ((⟨#[108,111,99,107,115,58,10,45,32,114,111,111,116,58,32]⟩:ByteArray)++a6)]) (ok:=fun _ => True) (okp:=fun _ => True) ?hr ?hp (fun _ hk => hk) trivial (Below.refl _ _) (Nat.le_refl _) (by simp) ?_;(case hd => rfl);(case hg => rfl);(case hr => first|(go_simp;done)|(go_simp;rfl));(case hp => exact (Reps.one (show Kd.M Kd.string _ _ _ t247 [.string t247] from rfl) (Reps.one (show Kd.M Kd.string _ _ _ (t240.extract 0 (t241:Int).toNat) [.string (t240.extract 0 (t241:Int).toNat)] from rfl) (Reps.one (show Kd.M Kd.string _ _ _ (((t240.extract 0 (t241:Int).toNat)++a5)++(t240.extract (t241:Int).toNat t240.size)) [.string (((t240.extract 0 (t241:Int).toNat)++a5)++(t240.extract (t241:Int).toNat t240.size))] from rfl) (Reps.one (show Kd.M Kd.string _ _ _ a6 [.string a6] from rfl) (Reps.one (show Kd.M Kd.string _ _ _ (((t240.extract 0 (t241:Int).toNat)++(rdOf ByteArray.empty y242 t245))++(t240.extract (t241:Int).toNat t240.size)) [.string (((t240.extract 0 (t241:Int).toNat)++(rdOf ByteArray.empty y242 t245))++(t240.extract (t241:Int).toNat t240.size))] from rfl) (Reps.one (show Kd.M Kd.string _ _ _ (t240++(rdOf ByteArray.empty y242 t245)) [.string (t240++(rdOf ByteArray.empty y242 t245))] from rfl) (Reps.one (show Kd.M Kd.string _ _ _ ((⟨#[108,111,99,107,115,58,10,45,32]⟩:ByteArray)++a6) [.string ((⟨#[108,111,99,107,115,58,10,45,32]⟩:ByteArray)++a6)] from rfl) (Reps.one (show Kd.M Kd.string _ _ _ ((rdOf ByteArray.empty y242 t245)++t240) [.string ((rdOf ByteArray.empty y242 t245)++t240)] from rfl) (Reps.one (show Kd.M Kd.string _ _ _ (t240++t240) [.string (t240++t240)] from rfl) (Reps.one (show Kd.M Kd.string _ _ _ ((⟨#[108,111,99,107,115,58,10,45,32,114,111,111,116,58,32]⟩:ByteArray)++a6) [.string ((⟨#[108,111,99,107,115,58,10,45,32,114,111,111,116,58,32]⟩:ByteArray)++a6)] from rfl) (Reps.none _ _))))))))))))
                  intro v249 w49 ho50 hb hg_ hnew_
                  clear hg_ hnew_
                  (first|rw [← Ny248.out] at ho50|(simp only [Int.reduceToNat] at ho50;rw [← Ny248.out] at ho50))
                  have n0_:=Aside0.mk (Kd.R_below (by (with_reducible repeat (first|apply Kd.R_alloc|apply Kd.R_drewN|apply Kd.R_drew));exact HO239.out) hb)
                  have n1_:=Aside0.mk (Kd.R_elder' (by (with_reducible repeat (first|apply Kd.R_alloc|apply Kd.R_drewN|apply Kd.R_drew));exact HO244.out) (Kd.R_base ho50) hb)
                  have n2_:=Aside0.mk (Kd.R_lower (Kd.R_new' ho50 (Kd.R_lt (by (with_reducible repeat (first|apply Kd.R_alloc|apply Kd.R_drewN|apply Kd.R_drew));exact HO244.out))) (below_size (by repeat (first|(with_reducible first|exact HB.out|apply below_alloc|apply pw_below_drewN|apply below_drew1)|exact HB.out))))
                  have n3_:=Aside0.mk (below_step (by repeat (first|(with_reducible first|exact HB.out|apply below_alloc|apply pw_below_drewN|apply below_drew1)|exact HB.out)) hb)
                  clear HO239
                  clear HO244
                  clear HB
                  have HO239:=n0_
                  have HO244:=n1_
                  have HO250:=n2_
                  have HB:=n3_
                  clear n0_ n1_ n2_ n3_
                  clear hb ho50
                  refine hK.out _ _ trivial (fun hHeld => ?_)
                  clear hK K
                  refine norm_ (a':=?_) ?_ ?_
                  rotate_left
                  ·show Act.put _ (some 94) _=_
                   simp only [Act.put,List.setIfInBounds_toArray,List.set_cons_zero,List.set_cons_succ,i64_w,i32_w]
                   rfl
                  refine pure_ (i:=40) (N:=some 18) (v:=?_) (a':=?_) #[true,true,true,true,true,true,true,true,true,true,true,true,true,true,true,true,true,true,true,true,true,true,true,true,true,true,true,true,true,true,true,true,true,true,true,true,true,true,true,true,true] rfl rfl (any_of HT_.out (by kernel_rfl)) (fun _ _ _ h => h) (Or.inl ⟨by rfl,?_⟩) ?_ ?_
                  rotate_left
                  ·intro w'
                   go_simp
                   with_reducible rfl
                  rotate_left
                  ·simp only [Act.put,List.setIfInBounds_toArray,List.set_cons_zero,List.set_cons_succ,i64_w,i32_w]
                   rfl
                  refine done_ (done_of HT_.out (by kernel_rfl)) ?_
                  try go_wp2
                  go_loopg [19] kj9 (fun kq v19 w' => ∃ (x19_2:Int),v19=.int .i64 x19_2∧Aside0 (transhumancelaw7_DentReads.l0 kq y248 x19_2=some r)∧Aside0 (kq≤kj9)∧Aside0 (Kd.R Kd.string 9 w' w.heap.size (fun _ => True) v249 y248)∧Aside0 (Below w.heap.size w w'))
                  case atStart => exact ⟨(0),(by first|rfl|(simp;done)|(simp [*];done)|(simp;exact (fun l_:List UInt8 => by cases l_ <;> rfl:∀ l_:List UInt8,l_.isEmpty=!(l_ != [])) _)),H',⟨Nat.le_refl _⟩,⟨by (with_reducible repeat (first|apply Kd.R_alloc|apply Kd.R_drewN|apply Kd.R_drew));exact Kd.R_mono HO250.out (fun _ hk => trivial)⟩,⟨by repeat (first|(with_reducible first|exact HB.out|apply below_alloc|apply pw_below_drewN|apply below_drew1)|exact HB.out)⟩⟩
                  case round =>
                   clear H'
                   try clear c1
                   try clear c2
                   try clear p2
                   try clear q2
                   try clear hx2
                   try clear c3
                   try clear c4
                   try clear p6
                   try clear c8
                   try clear c9
                   try clear c12
                   try clear c12b0
                   try clear c12b1
                   try clear c13
                   try clear c13b0
                   try clear c13b1
                   try clear c14
                   try clear c15
                   try clear c19
                   try clear c19b0
                   try clear c20
                   try clear c20b0
                   try clear c22
                   try clear c22b0
                   try clear c22b1
                   try clear c23
                   try clear c23b0
                   try clear c23b1
                   try clear c24
                   try clear c24b0
                   try clear p24
                   try clear q24
                   try clear hx24
                   try clear c25
                   try clear c25b0
                   try clear c26
                   try clear c26b0
                   try clear c26b1
                   try clear c26b2
                   try clear c27
                   try clear c27b0
                   try clear c28
                   try clear c28b0
                   try clear c29
                   try clear c29b0
                   try clear c29b1
                   try clear c29b2
                   try clear c30
                   try clear c30b0
                   try clear c31
                   try clear c31b0
                   try clear c32
                   try clear c32b0
                   try clear c32b1
                   try clear c32b2
                   try clear c33
                   try clear c33b0
                   try clear c34
                   try clear c34b0
                   try clear c35
                   try clear c35b0
                   try clear c35b1
                   try clear c35b2
                   try clear c36
                   try clear c36b0
                   try clear c36b1
                   try clear c36b2
                   try clear c37
                   try clear c37b0
                   try clear c37b1
                   try clear c37b2
                   try clear c38
                   try clear c38b0
                   try clear c38b1
                   try clear c38b2
                   try clear c39
                   try clear c39b0
                   try clear c39b1
                   try clear c39b2
                   try clear c40
                   try clear c40b0
                   try clear c40b1
                   try clear c40b2
                   try clear hx246_0
                   try clear p2
                   try clear p246
                   try clear q246
                   obtain ⟨x19_2,rfl,HA,HK2,HO_18,HB⟩:=hrel
                   cases gk with
                   | zero => exact absurd HA.out (by simp [transhumancelaw7_DentReads.l0])
                   | succ k2 =>
                    have H:=HA.out
                    clear HA
                    simp only [transhumancelaw7_DentReads.l0] at H
                    by_cases c51:x19_2<(y248.length:Int)
                    ·rw [if_pos c51] at H
                     have c51b0:decide (x19_2<(y248.length:Int))=true:=decide_eq_true c51
                     clear c51
                     by_cases c52:0≤x19_2
                     ·rw [if_pos c52] at H
                      have c52b0:decide (0≤x19_2)=true:=decide_eq_true c52
                      clear c52
                      replace H:=Option.bind_eq_some_iff.mp H
                      obtain ⟨⟨t252,t255,t256,t257⟩,A530,H⟩:=H
                      replace H:((transhumanceref7_Locks.f (rdOf ByteArray.empty y248 x19_2)).bind fun bt260 => (if t257=bt260.2.2.2 then (if (!(t255 == bt260.2.1) || (!(t256 == bt260.2.2.1)))=true then (some false) else ((transhumanceref5_Rows.f k2 t252 bt260.1).bind fun t267 => (if t267=true then (transhumancelaw7_DentReads.l0 k2 y248 (wrap64 (x19_2+1))) else (some false)))) else (some false)))=some r:=H
                      have A53:=Aside0.mk A530
                      clear A530
                      replace H:=Option.bind_eq_some_iff.mp H
                      obtain ⟨⟨t260,t263,t264,t265⟩,A540,H⟩:=H
                      replace H:(if t257=t265 then (if (!(t255 == t263) || (!(t256 == t264)))=true then (some false) else ((transhumanceref5_Rows.f k2 t252 t260).bind fun t267 => (if t267=true then (transhumancelaw7_DentReads.l0 k2 y248 (wrap64 (x19_2+1))) else (some false)))) else (some false))=some r:=H
                      have A54:=Aside0.mk A540
                      clear A540
                      by_cases c55:t257=t265
                      ·rw [if_pos c55] at H
                       have c55b0:(t257 == t265)=true:=beq_iff_eq.mpr c55
                       have c55b1:(t257 != t265)=false:=bne_eq_false_iff_eq.mpr c55
                       clear c55
                       by_cases c56:(!(t255 == t263) || (!(t256 == t264)))=true
                       ·rw [if_pos c56] at H
                        have c56b0:(!(t255 == t263) || (!(t256 == t264)))=true:=c56
                        clear c56
                        obtain rfl:=Option.some.inj H
                        obtain ⟨Ao57,co57,eo57⟩:=Kd.R_slice HO_18.out
                        subst eo57
                        have p251:0≤(x19_2:Int):=of_decide_eq_true (by first|(with_reducible assumption)|assumption)
                        have q251:x19_2<(y248.length:Int):=of_decide_eq_true (by first|(with_reducible assumption)|assumption)
                        obtain ⟨ad251,e251,hx251_0⟩:=Kd.at_string (Kd.R_reads' HO_18.out).2.2 x19_2 p251 q251
                        cases e251
                        replace p251:=eq_true p251
                        replace q251:=eq_true q251
                        go_wp2_with (first|((with_reducible refine gate_callee (f:=11) rfl ?_);refine goesL_ (some 106) rfl rfl Tryz.func11 (by kernel_rfl) rfl #[.string (rdOf ByteArray.empty y248 x19_2)] rfl (by (try simp only [List.map_toArray,List.map_cons,List.map_nil]);first|done|rfl|(simp only [List.length_drop,List.length_take];rfl)) ?_;(with_reducible refine (dent_Locks.calls (rdOf ByteArray.empty y248 x19_2) t252 t255 t256 t257 _ ?side1 A53.out).mono ?_);(case side1 => exact GL.below0 hG (by repeat (first|(with_reducible first|exact HB.out|apply below_alloc|apply pw_below_drewN|apply below_drew1)|exact HB.out)));rintro e w58 ⟨v253,rfl,ho0,hb⟩;refine ⟨_,rfl,?_⟩;have n0_:=Aside0.mk (Kd.R_below (by (with_reducible repeat (first|apply Kd.R_alloc|apply Kd.R_drewN|apply Kd.R_drew));exact HO_18.out) hb);have n1_:=Aside0.mk (Kd.R_lower ho0 (below_size (by repeat (first|(with_reducible first|exact HB.out|apply below_alloc|apply pw_below_drewN|apply below_drew1)|exact HB.out))));have n2_:=Aside0.mk (below_step (by repeat (first|(with_reducible first|exact HB.out|apply below_alloc|apply pw_below_drewN|apply below_drew1)|exact HB.out)) hb);clear HO_18;clear HB;have HO_18:=n0_;have HO254:=n1_;have HB:=n2_;clear n0_ n1_ n2_;(try clear hb);(try clear hb2);(try clear hk);(try clear hi);(try clear ho0))|((with_reducible refine gate_dst (N:=21) rfl ?_);(try (refine gate_guard (by rfl) ?_;dsimp only));refine box_event ?hg (N:=21) ?hd (cs:=#[.int .i64 0,.int .i64 0]) (t:=29) ?hr ?_;(case hd => rfl);(case hg => rfl);(case hr => first|(go_simp;done)|(go_simp;rfl));intro gb258 hg w59 hbox hb;have n0_:=Aside0.mk (Kd.R_below (by (with_reducible repeat (first|apply Kd.R_alloc|apply Kd.R_drewN|apply Kd.R_drew));exact HO_18.out) hb);have n1_:=Aside0.mk (Kd.R_below (by (with_reducible repeat (first|apply Kd.R_alloc|apply Kd.R_drewN|apply Kd.R_drew));exact HO254.out) hb);have n2_:=Aside0.mk (below_step (by repeat (first|(with_reducible first|exact HB.out|apply below_alloc|apply pw_below_drewN|apply below_drew1)|exact HB.out)) hb);have n3_:=Aside0.mk (hbox);have n4_:=Aside0.mk ((by rw [hg];exact (below_size (by repeat (first|(with_reducible first|exact HB.out|apply below_alloc|apply pw_below_drewN|apply below_drew1)|exact HB.out))):w.heap.size≤gb258));have n5_:=Aside0.mk ((by rw [hg];exact (below_size (by repeat (first|(with_reducible first|exact HB.out|apply below_alloc|apply pw_below_drewN|apply below_drew1)|exact HB.out))):w.heap.size≤gb258));clear HO_18;clear HO254;clear HB;have HO_18:=n0_;have HO254:=n1_;have HB:=n2_;have BK258:=n3_;have GW258:=n4_;have GE258:=n5_;clear n0_ n1_ n2_ n3_ n4_ n5_;clear hb hbox hg;have hcz60_0:w59.cell? ⟨gb258,0,none⟩=some (.int .i64 0):=(blk_cell BK258.out 0).trans rfl;have hcz60_1:w59.cell? ⟨gb258,1,none⟩=some (.int .i64 0):=(blk_cell BK258.out 1).trans rfl;have hfz60_0:=blk_frozen BK258.out 0;have hfz60_1:=blk_frozen BK258.out 1;have p259:0≤(x19_2:Int):=of_decide_eq_true (by first|(with_reducible assumption)|assumption);have q259:x19_2<(y248.length:Int):=of_decide_eq_true (by first|(with_reducible assumption)|assumption);obtain ⟨ad259,e259,hx259_0⟩:=Kd.at_string (Kd.R_reads' HO_18.out).2.2 x19_2 p259 q259;obtain rfl:ad251=ad259:=(by injection e259);have hn259_0:ad251.block≠gb258:=Kd.own_blk (Kd.R_ne HO_18.out BK258.out (by decide));have hn259_1:ad251.block≠gb258:=Kd.own_blk (Kd.R_ne HO_18.out BK258.out (by decide));replace hx259_0:=(cell_far (p:=⟨gb258,0,none⟩) (by first|(rw [add_block];exact hn259_0)|(show (Addr.add _ _).block≠_;rw [add_block];exact hn259_0)|exact hn259_0) (.int .i64 t255)).trans hx259_0;replace hx259_0:=(cell_far (p:=⟨gb258,1,none⟩) (by first|(rw [add_block];exact hn259_1)|(show (Addr.add _ _).block≠_;rw [add_block];exact hn259_1)|exact hn259_1) (.int .i64 t256)).trans hx259_0;clear hn259_0;clear hn259_1;replace p259:=eq_true p259;replace q259:=eq_true q259)|((with_reducible refine gate_callee (f:=16) rfl ?_);refine goesL_ (some 115) rfl rfl Tryz.func16 (by kernel_rfl) rfl #[.string (rdOf ByteArray.empty y248 x19_2)] rfl (by (try simp only [List.map_toArray,List.map_cons,List.map_nil]);first|done|rfl|(simp only [List.length_drop,List.length_take];rfl)) ?_;(with_reducible refine (transhumanceref7_Locks.calls (rdOf ByteArray.empty y248 x19_2) t260 t263 t264 t265 _ A54.out).mono ?_);rintro e w61 ⟨v261,rfl,ho0,hb⟩;refine ⟨_,rfl,?_⟩;have n0_:=Aside0.mk (Kd.R_below (by (with_reducible repeat (first|apply Kd.R_alloc|apply Kd.R_drewN|apply Kd.R_drew));exact (Kd.R_mono (Kd.R_far (p:=⟨gb258,1,none⟩) (Kd.R_far (p:=⟨gb258,0,none⟩) (Kd.R_types HO_18.out BK258.out (by decide)) (fun _ hk => hk.2) (.int .i64 t255)) (fun _ hk => hk.2) (.int .i64 t256)) (fun _ h_ => h_.1))) hb);have n1_:=Aside0.mk (Kd.R_elder' (by (with_reducible repeat (first|apply Kd.R_alloc|apply Kd.R_drewN|apply Kd.R_drew));exact (Kd.R_mono (Kd.R_far (p:=⟨gb258,1,none⟩) (Kd.R_far (p:=⟨gb258,0,none⟩) (Kd.R_types HO254.out BK258.out (by decide)) (fun _ hk => hk.2) (.int .i64 t255)) (fun _ hk => hk.2) (.int .i64 t256)) (fun _ h_ => h_.1))) (Kd.R_base ho0) hb);have n2_:=Aside0.mk (Kd.R_lower (Kd.R_new' ho0 (Kd.R_lt (by (with_reducible repeat (first|apply Kd.R_alloc|apply Kd.R_drewN|apply Kd.R_drew));exact (Kd.R_mono (Kd.R_far (p:=⟨gb258,1,none⟩) (Kd.R_far (p:=⟨gb258,0,none⟩) (Kd.R_types HO254.out BK258.out (by decide)) (fun _ hk => hk.2) (.int .i64 t255)) (fun _ hk => hk.2) (.int .i64 t256)) (fun _ h_ => h_.1))))) (below_size (by repeat (first|(with_reducible first|exact HB.out|apply below_alloc|apply pw_below_drewN|apply below_drew1|refine below_set ?_ GE258.out)|exact HB.out))));have n3_:=Aside0.mk (blk_below (g:=gb258) (o:=.cells #[.int .i64 t255,.int .i64 t256] 29 (0,0)) (by (with_reducible repeat (first|refine blk_drewN ?_ _|refine blk_drew ?_|refine blk_alloc ?_ _));refine blk_put (cs:=#[.int .i64 t255,.int .i64 0]) ?_ 1 _ rfl;(with_reducible repeat (first|refine blk_drewN ?_ _|refine blk_drew ?_|refine blk_alloc ?_ _));refine blk_put (cs:=#[.int .i64 0,.int .i64 0]) ?_ 0 _ rfl;(with_reducible repeat (first|refine blk_drewN ?_ _|refine blk_drew ?_|refine blk_alloc ?_ _));exact BK258.out) hb);have n4_:=Aside0.mk (below_step (by repeat (first|(with_reducible first|exact HB.out|apply below_alloc|apply pw_below_drewN|apply below_drew1|refine below_set ?_ GE258.out)|exact HB.out)) hb);clear HO_18;clear HO254;clear BK258;clear HB;have HO_18:=n0_;have HO254:=n1_;have HO262:=n2_;have BK258:=n3_;have HB:=n4_;clear n0_ n1_ n2_ n3_ n4_;(try clear hb);(try clear hb2);(try clear hk);(try clear hi);(try clear ho0))|((with_reducible refine gate_dst (N:=24) rfl ?_);(try (refine gate_guard (by rfl) ?_;dsimp only));refine box_event ?hg (N:=24) ?hd (cs:=#[.int .i64 0,.int .i64 0]) (t:=29) ?hr ?_;(case hd => rfl);(case hg => rfl);(case hr => first|(go_simp;done)|(go_simp;rfl));intro gb266 hg w62 hbox hb;have n0_:=Aside0.mk (Kd.R_below (by (with_reducible repeat (first|apply Kd.R_alloc|apply Kd.R_drewN|apply Kd.R_drew));exact HO_18.out) hb);have n1_:=Aside0.mk (Kd.R_below (by (with_reducible repeat (first|apply Kd.R_alloc|apply Kd.R_drewN|apply Kd.R_drew));exact HO254.out) hb);have n2_:=Aside0.mk (Kd.R_below (by (with_reducible repeat (first|apply Kd.R_alloc|apply Kd.R_drewN|apply Kd.R_drew));exact HO262.out) hb);have n3_:=Aside0.mk (blk_below (g:=gb258) (o:=.cells #[.int .i64 t255,.int .i64 t256] 29 (0,0)) (by (with_reducible repeat (first|refine blk_drewN ?_ _|refine blk_drew ?_|refine blk_alloc ?_ _));exact BK258.out) hb);have n4_:=Aside0.mk (below_step (by repeat (first|(with_reducible first|exact HB.out|apply below_alloc|apply pw_below_drewN|apply below_drew1|refine below_set ?_ GE258.out)|exact HB.out)) hb);have n5_:=Aside0.mk (hbox);have n6_:=Aside0.mk ((by rw [hg];exact (below_size (by repeat (first|(with_reducible first|exact HB.out|apply below_alloc|apply pw_below_drewN|apply below_drew1|refine below_set ?_ GE258.out)|exact HB.out))):w.heap.size≤gb266));have n7_:=Aside0.mk ((by rw [hg];exact (below_size (by repeat (first|(with_reducible first|exact HB.out|apply below_alloc|apply pw_below_drewN|apply below_drew1|refine below_set ?_ GE258.out)|exact HB.out))):w.heap.size≤gb266));have n8_:=Aside0.mk ((by rw [hg];exact Nat.ne_of_lt (blk_lt (g:=gb258) (o:=.cells #[.int .i64 t255,.int .i64 t256] 29 (0,0)) (by (with_reducible repeat (first|refine blk_drewN ?_ _|refine blk_drew ?_|refine blk_alloc ?_ _));exact BK258.out)):gb258≠gb266));have n9_:=Aside0.mk ((by rw [hg];exact Nat.ne_of_gt (blk_lt (g:=gb258) (o:=.cells #[.int .i64 t255,.int .i64 t256] 29 (0,0)) (by (with_reducible repeat (first|refine blk_drewN ?_ _|refine blk_drew ?_|refine blk_alloc ?_ _));exact BK258.out)):gb266≠gb258));clear HO_18;clear HO254;clear HO262;clear BK258;clear HB;have HO_18:=n0_;have HO254:=n1_;have HO262:=n2_;have BK258:=n3_;have HB:=n4_;have BK266:=n5_;have GW266:=n6_;have GE266:=n7_;have NB258_266:=n8_;have NB266_258:=n9_;clear n0_ n1_ n2_ n3_ n4_ n5_ n6_ n7_ n8_ n9_;clear hb hbox hg;have hnb63:=NB266_258.out;have hnc63:=NB258_266.out;have hcz64_0:w62.cell? ⟨gb266,0,none⟩=some (.int .i64 0):=(blk_cell BK266.out 0).trans rfl;have hcz64_1:w62.cell? ⟨gb266,1,none⟩=some (.int .i64 0):=(blk_cell BK266.out 1).trans rfl;have hfz64_0:=blk_frozen BK266.out 0;have hfz64_1:=blk_frozen BK266.out 1;have hcz65_0:w62.cell? ⟨gb258,0,none⟩=some (.int .i64 t255):=(blk_cell BK258.out 0).trans rfl;have hcz65_1:w62.cell? ⟨gb258,1,none⟩=some (.int .i64 t256):=(blk_cell BK258.out 1).trans rfl;have hfz65_0:=blk_frozen BK258.out 0;have hfz65_1:=blk_frozen BK258.out 1))
                        go_ret
                        exact ⟨by first|rfl|(simp [errW_none,errW_some] <;> rfl)|(simp [*,errW_none,errW_some] <;> rfl),by repeat (first|(with_reducible first|exact HB.out|apply below_alloc|apply pw_below_drewN|apply below_drew1|refine below_set ?_ GE258.out|refine below_set ?_ GE266.out)|exact HB.out)⟩
                       ·rw [if_neg c56] at H
                        have c56b0:(!(t255 == t263) || (!(t256 == t264)))=false:=by simpa using c56
                        clear c56
                        replace H:=Option.bind_eq_some_iff.mp H
                        obtain ⟨t267,A660,H⟩:=H
                        replace H:(if t267=true then (transhumancelaw7_DentReads.l0 k2 y248 (wrap64 (x19_2+1))) else (some false))=some r:=H
                        have A66:=Aside0.mk A660
                        clear A660
                        by_cases c67:t267=true
                        ·subst c67
                         have H1:(transhumancelaw7_DentReads.l0 k2 y248 (wrap64 (x19_2+1)))=some r:=by rw [if_pos rfl] at H;exact H
                         clear H
                         have H:=H1
                         clear H1
                         have H':=Aside0.mk H
                         clear H
                         obtain ⟨Ao68,co68,eo68⟩:=Kd.R_slice HO_18.out
                         subst eo68
                         have p251:0≤(x19_2:Int):=of_decide_eq_true (by first|(with_reducible assumption)|assumption)
                         have q251:x19_2<(y248.length:Int):=of_decide_eq_true (by first|(with_reducible assumption)|assumption)
                         obtain ⟨ad251,e251,hx251_0⟩:=Kd.at_string (Kd.R_reads' HO_18.out).2.2 x19_2 p251 q251
                         cases e251
                         replace p251:=eq_true p251
                         replace q251:=eq_true q251
                         go_wp2_with (first|((with_reducible refine gate_callee (f:=11) rfl ?_);refine goesL_ (some 106) rfl rfl Tryz.func11 (by kernel_rfl) rfl #[.string (rdOf ByteArray.empty y248 x19_2)] rfl (by (try simp only [List.map_toArray,List.map_cons,List.map_nil]);first|done|rfl|(simp only [List.length_drop,List.length_take];rfl)) ?_;(with_reducible refine (dent_Locks.calls (rdOf ByteArray.empty y248 x19_2) t252 t255 t256 t257 _ ?side1 A53.out).mono ?_);(case side1 => exact GL.below0 hG (by repeat (first|(with_reducible first|exact HB.out|apply below_alloc|apply pw_below_drewN|apply below_drew1)|exact HB.out)));rintro e w69 ⟨v253,rfl,ho0,hb⟩;refine ⟨_,rfl,?_⟩;have n0_:=Aside0.mk (Kd.R_below (by (with_reducible repeat (first|apply Kd.R_alloc|apply Kd.R_drewN|apply Kd.R_drew));exact HO_18.out) hb);have n1_:=Aside0.mk (Kd.R_lower ho0 (below_size (by repeat (first|(with_reducible first|exact HB.out|apply below_alloc|apply pw_below_drewN|apply below_drew1)|exact HB.out))));have n2_:=Aside0.mk (below_step (by repeat (first|(with_reducible first|exact HB.out|apply below_alloc|apply pw_below_drewN|apply below_drew1)|exact HB.out)) hb);clear HO_18;clear HB;have HO_18:=n0_;have HO254:=n1_;have HB:=n2_;clear n0_ n1_ n2_;(try clear hb);(try clear hb2);(try clear hk);(try clear hi);(try clear ho0))|((with_reducible refine gate_dst (N:=21) rfl ?_);(try (refine gate_guard (by rfl) ?_;dsimp only));refine box_event ?hg (N:=21) ?hd (cs:=#[.int .i64 0,.int .i64 0]) (t:=29) ?hr ?_;(case hd => rfl);(case hg => rfl);(case hr => first|(go_simp;done)|(go_simp;rfl));intro gb258 hg w70 hbox hb;have n0_:=Aside0.mk (Kd.R_below (by (with_reducible repeat (first|apply Kd.R_alloc|apply Kd.R_drewN|apply Kd.R_drew));exact HO_18.out) hb);have n1_:=Aside0.mk (Kd.R_below (by (with_reducible repeat (first|apply Kd.R_alloc|apply Kd.R_drewN|apply Kd.R_drew));exact HO254.out) hb);have n2_:=Aside0.mk (below_step (by repeat (first|(with_reducible first|exact HB.out|apply below_alloc|apply pw_below_drewN|apply below_drew1)|exact HB.out)) hb);have n3_:=Aside0.mk (hbox);have n4_:=Aside0.mk ((by rw [hg];exact (below_size (by repeat (first|(with_reducible first|exact HB.out|apply below_alloc|apply pw_below_drewN|apply below_drew1)|exact HB.out))):w.heap.size≤gb258));have n5_:=Aside0.mk ((by rw [hg];exact (below_size (by repeat (first|(with_reducible first|exact HB.out|apply below_alloc|apply pw_below_drewN|apply below_drew1)|exact HB.out))):w.heap.size≤gb258));clear HO_18;clear HO254;clear HB;have HO_18:=n0_;have HO254:=n1_;have HB:=n2_;have BK258:=n3_;have GW258:=n4_;have GE258:=n5_;clear n0_ n1_ n2_ n3_ n4_ n5_;clear hb hbox hg;have hcz71_0:w70.cell? ⟨gb258,0,none⟩=some (.int .i64 0):=(blk_cell BK258.out 0).trans rfl;have hcz71_1:w70.cell? ⟨gb258,1,none⟩=some (.int .i64 0):=(blk_cell BK258.out 1).trans rfl;have hfz71_0:=blk_frozen BK258.out 0;have hfz71_1:=blk_frozen BK258.out 1;have p259:0≤(x19_2:Int):=of_decide_eq_true (by first|(with_reducible assumption)|assumption);have q259:x19_2<(y248.length:Int):=of_decide_eq_true (by first|(with_reducible assumption)|assumption);obtain ⟨ad259,e259,hx259_0⟩:=Kd.at_string (Kd.R_reads' HO_18.out).2.2 x19_2 p259 q259;obtain rfl:ad251=ad259:=(by injection e259);have hn259_0:ad251.block≠gb258:=Kd.own_blk (Kd.R_ne HO_18.out BK258.out (by decide));have hn259_1:ad251.block≠gb258:=Kd.own_blk (Kd.R_ne HO_18.out BK258.out (by decide));replace hx259_0:=(cell_far (p:=⟨gb258,0,none⟩) (by first|(rw [add_block];exact hn259_0)|(show (Addr.add _ _).block≠_;rw [add_block];exact hn259_0)|exact hn259_0) (.int .i64 t255)).trans hx259_0;replace hx259_0:=(cell_far (p:=⟨gb258,1,none⟩) (by first|(rw [add_block];exact hn259_1)|(show (Addr.add _ _).block≠_;rw [add_block];exact hn259_1)|exact hn259_1) (.int .i64 t256)).trans hx259_0;clear hn259_0;clear hn259_1;replace p259:=eq_true p259;replace q259:=eq_true q259)|((with_reducible refine gate_callee (f:=16) rfl ?_);refine goesL_ (some 115) rfl rfl Tryz.func16 (by kernel_rfl) rfl #[.string (rdOf ByteArray.empty y248 x19_2)] rfl (by (try simp only [List.map_toArray,List.map_cons,List.map_nil]);first|done|rfl|(simp only [List.length_drop,List.length_take];rfl)) ?_;(with_reducible refine (transhumanceref7_Locks.calls (rdOf ByteArray.empty y248 x19_2) t260 t263 t264 t265 _ A54.out).mono ?_);rintro e w72 ⟨v261,rfl,ho0,hb⟩;refine ⟨_,rfl,?_⟩;have n0_:=Aside0.mk (Kd.R_below (by (with_reducible repeat (first|apply Kd.R_alloc|apply Kd.R_drewN|apply Kd.R_drew));exact (Kd.R_mono (Kd.R_far (p:=⟨gb258,1,none⟩) (Kd.R_far (p:=⟨gb258,0,none⟩) (Kd.R_types HO_18.out BK258.out (by decide)) (fun _ hk => hk.2) (.int .i64 t255)) (fun _ hk => hk.2) (.int .i64 t256)) (fun _ h_ => h_.1))) hb);have n1_:=Aside0.mk (Kd.R_elder' (by (with_reducible repeat (first|apply Kd.R_alloc|apply Kd.R_drewN|apply Kd.R_drew));exact (Kd.R_mono (Kd.R_far (p:=⟨gb258,1,none⟩) (Kd.R_far (p:=⟨gb258,0,none⟩) (Kd.R_types HO254.out BK258.out (by decide)) (fun _ hk => hk.2) (.int .i64 t255)) (fun _ hk => hk.2) (.int .i64 t256)) (fun _ h_ => h_.1))) (Kd.R_base ho0) hb);have n2_:=Aside0.mk (Kd.R_lower (Kd.R_new' ho0 (Kd.R_lt (by (with_reducible repeat (first|apply Kd.R_alloc|apply Kd.R_drewN|apply Kd.R_drew));exact (Kd.R_mono (Kd.R_far (p:=⟨gb258,1,none⟩) (Kd.R_far (p:=⟨gb258,0,none⟩) (Kd.R_types HO254.out BK258.out (by decide)) (fun _ hk => hk.2) (.int .i64 t255)) (fun _ hk => hk.2) (.int .i64 t256)) (fun _ h_ => h_.1))))) (below_size (by repeat (first|(with_reducible first|exact HB.out|apply below_alloc|apply pw_below_drewN|apply below_drew1|refine below_set ?_ GE258.out)|exact HB.out))));have n3_:=Aside0.mk (blk_below (g:=gb258) (o:=.cells #[.int .i64 t255,.int .i64 t256] 29 (0,0)) (by (with_reducible repeat (first|refine blk_drewN ?_ _|refine blk_drew ?_|refine blk_alloc ?_ _));refine blk_put (cs:=#[.int .i64 t255,.int .i64 0]) ?_ 1 _ rfl;(with_reducible repeat (first|refine blk_drewN ?_ _|refine blk_drew ?_|refine blk_alloc ?_ _));refine blk_put (cs:=#[.int .i64 0,.int .i64 0]) ?_ 0 _ rfl;(with_reducible repeat (first|refine blk_drewN ?_ _|refine blk_drew ?_|refine blk_alloc ?_ _));exact BK258.out) hb);have n4_:=Aside0.mk (below_step (by repeat (first|(with_reducible first|exact HB.out|apply below_alloc|apply pw_below_drewN|apply below_drew1|refine below_set ?_ GE258.out)|exact HB.out)) hb);clear HO_18;clear HO254;clear BK258;clear HB;have HO_18:=n0_;have HO254:=n1_;have HO262:=n2_;have BK258:=n3_;have HB:=n4_;clear n0_ n1_ n2_ n3_ n4_;(try clear hb);(try clear hb2);(try clear hk);(try clear hi);(try clear ho0))|((with_reducible refine gate_dst (N:=24) rfl ?_);(try (refine gate_guard (by rfl) ?_;dsimp only));refine box_event ?hg (N:=24) ?hd (cs:=#[.int .i64 0,.int .i64 0]) (t:=29) ?hr ?_;(case hd => rfl);(case hg => rfl);(case hr => first|(go_simp;done)|(go_simp;rfl));intro gb266 hg w73 hbox hb;have n0_:=Aside0.mk (Kd.R_below (by (with_reducible repeat (first|apply Kd.R_alloc|apply Kd.R_drewN|apply Kd.R_drew));exact HO_18.out) hb);have n1_:=Aside0.mk (Kd.R_below (by (with_reducible repeat (first|apply Kd.R_alloc|apply Kd.R_drewN|apply Kd.R_drew));exact HO254.out) hb);have n2_:=Aside0.mk (Kd.R_below (by (with_reducible repeat (first|apply Kd.R_alloc|apply Kd.R_drewN|apply Kd.R_drew));exact HO262.out) hb);have n3_:=Aside0.mk (blk_below (g:=gb258) (o:=.cells #[.int .i64 t255,.int .i64 t256] 29 (0,0)) (by (with_reducible repeat (first|refine blk_drewN ?_ _|refine blk_drew ?_|refine blk_alloc ?_ _));exact BK258.out) hb);have n4_:=Aside0.mk (below_step (by repeat (first|(with_reducible first|exact HB.out|apply below_alloc|apply pw_below_drewN|apply below_drew1|refine below_set ?_ GE258.out)|exact HB.out)) hb);have n5_:=Aside0.mk (hbox);have n6_:=Aside0.mk ((by rw [hg];exact (below_size (by repeat (first|(with_reducible first|exact HB.out|apply below_alloc|apply pw_below_drewN|apply below_drew1|refine below_set ?_ GE258.out)|exact HB.out))):w.heap.size≤gb266));have n7_:=Aside0.mk ((by rw [hg];exact (below_size (by repeat (first|(with_reducible first|exact HB.out|apply below_alloc|apply pw_below_drewN|apply below_drew1|refine below_set ?_ GE258.out)|exact HB.out))):w.heap.size≤gb266));have n8_:=Aside0.mk ((by rw [hg];exact Nat.ne_of_lt (blk_lt (g:=gb258) (o:=.cells #[.int .i64 t255,.int .i64 t256] 29 (0,0)) (by (with_reducible repeat (first|refine blk_drewN ?_ _|refine blk_drew ?_|refine blk_alloc ?_ _));exact BK258.out)):gb258≠gb266));have n9_:=Aside0.mk ((by rw [hg];exact Nat.ne_of_gt (blk_lt (g:=gb258) (o:=.cells #[.int .i64 t255,.int .i64 t256] 29 (0,0)) (by (with_reducible repeat (first|refine blk_drewN ?_ _|refine blk_drew ?_|refine blk_alloc ?_ _));exact BK258.out)):gb266≠gb258));clear HO_18;clear HO254;clear HO262;clear BK258;clear HB;have HO_18:=n0_;have HO254:=n1_;have HO262:=n2_;have BK258:=n3_;have HB:=n4_;have BK266:=n5_;have GW266:=n6_;have GE266:=n7_;have NB258_266:=n8_;have NB266_258:=n9_;clear n0_ n1_ n2_ n3_ n4_ n5_ n6_ n7_ n8_ n9_;clear hb hbox hg;have hnb74:=NB266_258.out;have hnc74:=NB258_266.out;have hcz75_0:w73.cell? ⟨gb266,0,none⟩=some (.int .i64 0):=(blk_cell BK266.out 0).trans rfl;have hcz75_1:w73.cell? ⟨gb266,1,none⟩=some (.int .i64 0):=(blk_cell BK266.out 1).trans rfl;have hfz75_0:=blk_frozen BK266.out 0;have hfz75_1:=blk_frozen BK266.out 1;have hcz76_0:w73.cell? ⟨gb258,0,none⟩=some (.int .i64 t255):=(blk_cell BK258.out 0).trans rfl;have hcz76_1:w73.cell? ⟨gb258,1,none⟩=some (.int .i64 t256):=(blk_cell BK258.out 1).trans rfl;have hfz76_0:=blk_frozen BK258.out 0;have hfz76_1:=blk_frozen BK258.out 1;obtain ⟨Ao77,co77,eo77⟩:=Kd.R_slice HO254.out;subst eo77;obtain ⟨Ao78,co78,eo78⟩:=Kd.R_slice HO262.out;subst eo78)|(go_at_call 13;(with_reducible refine (transhumanceref5_Rows.calls k2 _ _ t252 _ _ t260 true _ ?side1 ?side2 ?side3 ?side4 A66.out).mono ?_);(case side1 => refine (Kd.R_reads' (e:=43) (base:=w.heap.size) (ok:=fun k_ => (True∧some k_≠(.slice Ao78 t260.length co78:Value).ownBlock)) (n:=t252.length) (c:=co77) ?_).2.2;exact (by (with_reducible repeat (first|apply Kd.R_alloc|apply Kd.R_drewN|apply Kd.R_drew));exact (Kd.R_mono (Kd.R_far (p:=⟨gb266,1,none⟩) (Kd.R_far (p:=⟨gb266,0,none⟩) (Kd.R_types HO254.out BK266.out (by decide)) (fun _ hk => hk.2) (.int .i64 t263)) (fun _ hk => hk.2) (.int .i64 t264)) (fun _ h_ => h_.1))));(case side2 => exact (Kd.R_reads' HO254.out).2.1);(case side3 => refine (Kd.R_reads' (e:=43) (base:=w.heap.size) (ok:=fun k_ => (True∧some k_≠(.slice Ao77 t252.length co77:Value).ownBlock)) (n:=t260.length) (c:=co78) ?_).2.2;exact (by (with_reducible repeat (first|apply Kd.R_alloc|apply Kd.R_drewN|apply Kd.R_drew));exact (Kd.R_mono (Kd.R_far (p:=⟨gb266,1,none⟩) (Kd.R_far (p:=⟨gb266,0,none⟩) (Kd.R_types HO262.out BK266.out (by decide)) (fun _ hk => hk.2) (.int .i64 t263)) (fun _ hk => hk.2) (.int .i64 t264)) (fun _ h_ => h_.1))));(case side4 => exact (Kd.R_reads' HO262.out).2.1);rintro e w' ⟨rfl,⟨nd,rfl⟩⟩))
                         go_roundg k2
                         case measure => have:=HJ9.out;have:=HK2.out;omega
                         case rel => exact ⟨(wrap64 (x19_2+1)),(by first|rfl|(simp;done)|(simp [*];done)|(simp;exact (fun l_:List UInt8 => by cases l_ <;> rfl:∀ l_:List UInt8,l_.isEmpty=!(l_ != [])) _)),H',⟨by have:=HJ9.out;have:=HK2.out;omega⟩,⟨by (with_reducible repeat (first|apply Kd.R_alloc|apply Kd.R_drewN|apply Kd.R_drew));exact Kd.R_mono (Kd.R_far (p:=⟨gb266,1,none⟩) (Kd.R_far (p:=⟨gb266,0,none⟩) (Kd.R_types HO_18.out BK266.out (by decide)) (fun _ hk => hk.2) (.int .i64 t263)) (fun _ hk => hk.2) (.int .i64 t264)) (fun _ hk => trivial)⟩,⟨by repeat (first|(with_reducible first|exact HB.out|apply below_alloc|apply pw_below_drewN|apply below_drew1|refine below_set ?_ GE258.out|refine below_set ?_ GE266.out)|exact HB.out)⟩⟩
                        ·replace c67:=Bool.eq_false_iff.mpr c67
                         subst c67
                         have H1:(some false)=some r:=by rw [if_neg (show ¬ (false=true) by decide)] at H;exact H
                         clear H
                         have H:=H1
                         clear H1
                         obtain rfl:=Option.some.inj H
                         obtain ⟨Ao79,co79,eo79⟩:=Kd.R_slice HO_18.out
                         subst eo79
                         have p251:0≤(x19_2:Int):=of_decide_eq_true (by first|(with_reducible assumption)|assumption)
                         have q251:x19_2<(y248.length:Int):=of_decide_eq_true (by first|(with_reducible assumption)|assumption)
                         obtain ⟨ad251,e251,hx251_0⟩:=Kd.at_string (Kd.R_reads' HO_18.out).2.2 x19_2 p251 q251
                         cases e251
                         replace p251:=eq_true p251
                         replace q251:=eq_true q251
                         go_wp2_with (first|((with_reducible refine gate_callee (f:=11) rfl ?_);refine goesL_ (some 106) rfl rfl Tryz.func11 (by kernel_rfl) rfl #[.string (rdOf ByteArray.empty y248 x19_2)] rfl (by (try simp only [List.map_toArray,List.map_cons,List.map_nil]);first|done|rfl|(simp only [List.length_drop,List.length_take];rfl)) ?_;(with_reducible refine (dent_Locks.calls (rdOf ByteArray.empty y248 x19_2) t252 t255 t256 t257 _ ?side1 A53.out).mono ?_);(case side1 => exact GL.below0 hG (by repeat (first|(with_reducible first|exact HB.out|apply below_alloc|apply pw_below_drewN|apply below_drew1)|exact HB.out)));rintro e w80 ⟨v253,rfl,ho0,hb⟩;refine ⟨_,rfl,?_⟩;have n0_:=Aside0.mk (Kd.R_below (by (with_reducible repeat (first|apply Kd.R_alloc|apply Kd.R_drewN|apply Kd.R_drew));exact HO_18.out) hb);have n1_:=Aside0.mk (Kd.R_lower ho0 (below_size (by repeat (first|(with_reducible first|exact HB.out|apply below_alloc|apply pw_below_drewN|apply below_drew1)|exact HB.out))));have n2_:=Aside0.mk (below_step (by repeat (first|(with_reducible first|exact HB.out|apply below_alloc|apply pw_below_drewN|apply below_drew1)|exact HB.out)) hb);clear HO_18;clear HB;have HO_18:=n0_;have HO254:=n1_;have HB:=n2_;clear n0_ n1_ n2_;(try clear hb);(try clear hb2);(try clear hk);(try clear hi);(try clear ho0))|((with_reducible refine gate_dst (N:=21) rfl ?_);(try (refine gate_guard (by rfl) ?_;dsimp only));refine box_event ?hg (N:=21) ?hd (cs:=#[.int .i64 0,.int .i64 0]) (t:=29) ?hr ?_;(case hd => rfl);(case hg => rfl);(case hr => first|(go_simp;done)|(go_simp;rfl));intro gb258 hg w81 hbox hb;have n0_:=Aside0.mk (Kd.R_below (by (with_reducible repeat (first|apply Kd.R_alloc|apply Kd.R_drewN|apply Kd.R_drew));exact HO_18.out) hb);have n1_:=Aside0.mk (Kd.R_below (by (with_reducible repeat (first|apply Kd.R_alloc|apply Kd.R_drewN|apply Kd.R_drew));exact HO254.out) hb);have n2_:=Aside0.mk (below_step (by repeat (first|(with_reducible first|exact HB.out|apply below_alloc|apply pw_below_drewN|apply below_drew1)|exact HB.out)) hb);have n3_:=Aside0.mk (hbox);have n4_:=Aside0.mk ((by rw [hg];exact (below_size (by repeat (first|(with_reducible first|exact HB.out|apply below_alloc|apply pw_below_drewN|apply below_drew1)|exact HB.out))):w.heap.size≤gb258));have n5_:=Aside0.mk ((by rw [hg];exact (below_size (by repeat (first|(with_reducible first|exact HB.out|apply below_alloc|apply pw_below_drewN|apply below_drew1)|exact HB.out))):w.heap.size≤gb258));clear HO_18;clear HO254;clear HB;have HO_18:=n0_;have HO254:=n1_;have HB:=n2_;have BK258:=n3_;have GW258:=n4_;have GE258:=n5_;clear n0_ n1_ n2_ n3_ n4_ n5_;clear hb hbox hg;have hcz82_0:w81.cell? ⟨gb258,0,none⟩=some (.int .i64 0):=(blk_cell BK258.out 0).trans rfl;have hcz82_1:w81.cell? ⟨gb258,1,none⟩=some (.int .i64 0):=(blk_cell BK258.out 1).trans rfl;have hfz82_0:=blk_frozen BK258.out 0;have hfz82_1:=blk_frozen BK258.out 1;have p259:0≤(x19_2:Int):=of_decide_eq_true (by first|(with_reducible assumption)|assumption);have q259:x19_2<(y248.length:Int):=of_decide_eq_true (by first|(with_reducible assumption)|assumption);obtain ⟨ad259,e259,hx259_0⟩:=Kd.at_string (Kd.R_reads' HO_18.out).2.2 x19_2 p259 q259;obtain rfl:ad251=ad259:=(by injection e259);have hn259_0:ad251.block≠gb258:=Kd.own_blk (Kd.R_ne HO_18.out BK258.out (by decide));have hn259_1:ad251.block≠gb258:=Kd.own_blk (Kd.R_ne HO_18.out BK258.out (by decide));replace hx259_0:=(cell_far (p:=⟨gb258,0,none⟩) (by first|(rw [add_block];exact hn259_0)|(show (Addr.add _ _).block≠_;rw [add_block];exact hn259_0)|exact hn259_0) (.int .i64 t255)).trans hx259_0;replace hx259_0:=(cell_far (p:=⟨gb258,1,none⟩) (by first|(rw [add_block];exact hn259_1)|(show (Addr.add _ _).block≠_;rw [add_block];exact hn259_1)|exact hn259_1) (.int .i64 t256)).trans hx259_0;clear hn259_0;clear hn259_1;replace p259:=eq_true p259;replace q259:=eq_true q259)|((with_reducible refine gate_callee (f:=16) rfl ?_);refine goesL_ (some 115) rfl rfl Tryz.func16 (by kernel_rfl) rfl #[.string (rdOf ByteArray.empty y248 x19_2)] rfl (by (try simp only [List.map_toArray,List.map_cons,List.map_nil]);first|done|rfl|(simp only [List.length_drop,List.length_take];rfl)) ?_;(with_reducible refine (transhumanceref7_Locks.calls (rdOf ByteArray.empty y248 x19_2) t260 t263 t264 t265 _ A54.out).mono ?_);rintro e w83 ⟨v261,rfl,ho0,hb⟩;refine ⟨_,rfl,?_⟩;have n0_:=Aside0.mk (Kd.R_below (by (with_reducible repeat (first|apply Kd.R_alloc|apply Kd.R_drewN|apply Kd.R_drew));exact (Kd.R_mono (Kd.R_far (p:=⟨gb258,1,none⟩) (Kd.R_far (p:=⟨gb258,0,none⟩) (Kd.R_types HO_18.out BK258.out (by decide)) (fun _ hk => hk.2) (.int .i64 t255)) (fun _ hk => hk.2) (.int .i64 t256)) (fun _ h_ => h_.1))) hb);have n1_:=Aside0.mk (Kd.R_elder' (by (with_reducible repeat (first|apply Kd.R_alloc|apply Kd.R_drewN|apply Kd.R_drew));exact (Kd.R_mono (Kd.R_far (p:=⟨gb258,1,none⟩) (Kd.R_far (p:=⟨gb258,0,none⟩) (Kd.R_types HO254.out BK258.out (by decide)) (fun _ hk => hk.2) (.int .i64 t255)) (fun _ hk => hk.2) (.int .i64 t256)) (fun _ h_ => h_.1))) (Kd.R_base ho0) hb);have n2_:=Aside0.mk (Kd.R_lower (Kd.R_new' ho0 (Kd.R_lt (by (with_reducible repeat (first|apply Kd.R_alloc|apply Kd.R_drewN|apply Kd.R_drew));exact (Kd.R_mono (Kd.R_far (p:=⟨gb258,1,none⟩) (Kd.R_far (p:=⟨gb258,0,none⟩) (Kd.R_types HO254.out BK258.out (by decide)) (fun _ hk => hk.2) (.int .i64 t255)) (fun _ hk => hk.2) (.int .i64 t256)) (fun _ h_ => h_.1))))) (below_size (by repeat (first|(with_reducible first|exact HB.out|apply below_alloc|apply pw_below_drewN|apply below_drew1|refine below_set ?_ GE258.out)|exact HB.out))));have n3_:=Aside0.mk (blk_below (g:=gb258) (o:=.cells #[.int .i64 t255,.int .i64 t256] 29 (0,0)) (by (with_reducible repeat (first|refine blk_drewN ?_ _|refine blk_drew ?_|refine blk_alloc ?_ _));refine blk_put (cs:=#[.int .i64 t255,.int .i64 0]) ?_ 1 _ rfl;(with_reducible repeat (first|refine blk_drewN ?_ _|refine blk_drew ?_|refine blk_alloc ?_ _));refine blk_put (cs:=#[.int .i64 0,.int .i64 0]) ?_ 0 _ rfl;(with_reducible repeat (first|refine blk_drewN ?_ _|refine blk_drew ?_|refine blk_alloc ?_ _));exact BK258.out) hb);have n4_:=Aside0.mk (below_step (by repeat (first|(with_reducible first|exact HB.out|apply below_alloc|apply pw_below_drewN|apply below_drew1|refine below_set ?_ GE258.out)|exact HB.out)) hb);clear HO_18;clear HO254;clear BK258;clear HB;have HO_18:=n0_;have HO254:=n1_;have HO262:=n2_;have BK258:=n3_;have HB:=n4_;clear n0_ n1_ n2_ n3_ n4_;(try clear hb);(try clear hb2);(try clear hk);(try clear hi);(try clear ho0))|((with_reducible refine gate_dst (N:=24) rfl ?_);(try (refine gate_guard (by rfl) ?_;dsimp only));refine box_event ?hg (N:=24) ?hd (cs:=#[.int .i64 0,.int .i64 0]) (t:=29) ?hr ?_;(case hd => rfl);(case hg => rfl);(case hr => first|(go_simp;done)|(go_simp;rfl));intro gb266 hg w84 hbox hb;have n0_:=Aside0.mk (Kd.R_below (by (with_reducible repeat (first|apply Kd.R_alloc|apply Kd.R_drewN|apply Kd.R_drew));exact HO_18.out) hb);have n1_:=Aside0.mk (Kd.R_below (by (with_reducible repeat (first|apply Kd.R_alloc|apply Kd.R_drewN|apply Kd.R_drew));exact HO254.out) hb);have n2_:=Aside0.mk (Kd.R_below (by (with_reducible repeat (first|apply Kd.R_alloc|apply Kd.R_drewN|apply Kd.R_drew));exact HO262.out) hb);have n3_:=Aside0.mk (blk_below (g:=gb258) (o:=.cells #[.int .i64 t255,.int .i64 t256] 29 (0,0)) (by (with_reducible repeat (first|refine blk_drewN ?_ _|refine blk_drew ?_|refine blk_alloc ?_ _));exact BK258.out) hb);have n4_:=Aside0.mk (below_step (by repeat (first|(with_reducible first|exact HB.out|apply below_alloc|apply pw_below_drewN|apply below_drew1|refine below_set ?_ GE258.out)|exact HB.out)) hb);have n5_:=Aside0.mk (hbox);have n6_:=Aside0.mk ((by rw [hg];exact (below_size (by repeat (first|(with_reducible first|exact HB.out|apply below_alloc|apply pw_below_drewN|apply below_drew1|refine below_set ?_ GE258.out)|exact HB.out))):w.heap.size≤gb266));have n7_:=Aside0.mk ((by rw [hg];exact (below_size (by repeat (first|(with_reducible first|exact HB.out|apply below_alloc|apply pw_below_drewN|apply below_drew1|refine below_set ?_ GE258.out)|exact HB.out))):w.heap.size≤gb266));have n8_:=Aside0.mk ((by rw [hg];exact Nat.ne_of_lt (blk_lt (g:=gb258) (o:=.cells #[.int .i64 t255,.int .i64 t256] 29 (0,0)) (by (with_reducible repeat (first|refine blk_drewN ?_ _|refine blk_drew ?_|refine blk_alloc ?_ _));exact BK258.out)):gb258≠gb266));have n9_:=Aside0.mk ((by rw [hg];exact Nat.ne_of_gt (blk_lt (g:=gb258) (o:=.cells #[.int .i64 t255,.int .i64 t256] 29 (0,0)) (by (with_reducible repeat (first|refine blk_drewN ?_ _|refine blk_drew ?_|refine blk_alloc ?_ _));exact BK258.out)):gb266≠gb258));clear HO_18;clear HO254;clear HO262;clear BK258;clear HB;have HO_18:=n0_;have HO254:=n1_;have HO262:=n2_;have BK258:=n3_;have HB:=n4_;have BK266:=n5_;have GW266:=n6_;have GE266:=n7_;have NB258_266:=n8_;have NB266_258:=n9_;clear n0_ n1_ n2_ n3_ n4_ n5_ n6_ n7_ n8_ n9_;clear hb hbox hg;have hnb85:=NB266_258.out;have hnc85:=NB258_266.out;have hcz86_0:w84.cell? ⟨gb266,0,none⟩=some (.int .i64 0):=(blk_cell BK266.out 0).trans rfl;have hcz86_1:w84.cell? ⟨gb266,1,none⟩=some (.int .i64 0):=(blk_cell BK266.out 1).trans rfl;have hfz86_0:=blk_frozen BK266.out 0;have hfz86_1:=blk_frozen BK266.out 1;have hcz87_0:w84.cell? ⟨gb258,0,none⟩=some (.int .i64 t255):=(blk_cell BK258.out 0).trans rfl;have hcz87_1:w84.cell? ⟨gb258,1,none⟩=some (.int .i64 t256):=(blk_cell BK258.out 1).trans rfl;have hfz87_0:=blk_frozen BK258.out 0;have hfz87_1:=blk_frozen BK258.out 1;obtain ⟨Ao88,co88,eo88⟩:=Kd.R_slice HO254.out;subst eo88;obtain ⟨Ao89,co89,eo89⟩:=Kd.R_slice HO262.out;subst eo89)|(go_at_call 13;(with_reducible refine (transhumanceref5_Rows.calls k2 _ _ t252 _ _ t260 false _ ?side1 ?side2 ?side3 ?side4 A66.out).mono ?_);(case side1 => refine (Kd.R_reads' (e:=43) (base:=w.heap.size) (ok:=fun k_ => (True∧some k_≠(.slice Ao89 t260.length co89:Value).ownBlock)) (n:=t252.length) (c:=co88) ?_).2.2;exact (by (with_reducible repeat (first|apply Kd.R_alloc|apply Kd.R_drewN|apply Kd.R_drew));exact (Kd.R_mono (Kd.R_far (p:=⟨gb266,1,none⟩) (Kd.R_far (p:=⟨gb266,0,none⟩) (Kd.R_types HO254.out BK266.out (by decide)) (fun _ hk => hk.2) (.int .i64 t263)) (fun _ hk => hk.2) (.int .i64 t264)) (fun _ h_ => h_.1))));(case side2 => exact (Kd.R_reads' HO254.out).2.1);(case side3 => refine (Kd.R_reads' (e:=43) (base:=w.heap.size) (ok:=fun k_ => (True∧some k_≠(.slice Ao88 t252.length co88:Value).ownBlock)) (n:=t260.length) (c:=co89) ?_).2.2;exact (by (with_reducible repeat (first|apply Kd.R_alloc|apply Kd.R_drewN|apply Kd.R_drew));exact (Kd.R_mono (Kd.R_far (p:=⟨gb266,1,none⟩) (Kd.R_far (p:=⟨gb266,0,none⟩) (Kd.R_types HO262.out BK266.out (by decide)) (fun _ hk => hk.2) (.int .i64 t263)) (fun _ hk => hk.2) (.int .i64 t264)) (fun _ h_ => h_.1))));(case side4 => exact (Kd.R_reads' HO262.out).2.1);rintro e w' ⟨rfl,⟨nd,rfl⟩⟩))
                         go_ret
                         exact ⟨by first|rfl|(simp [errW_none,errW_some] <;> rfl)|(simp [*,errW_none,errW_some] <;> rfl),by repeat (first|(with_reducible first|exact HB.out|apply below_alloc|apply pw_below_drewN|apply below_drew1|refine below_set ?_ GE258.out|refine below_set ?_ GE266.out)|exact HB.out)⟩
                      ·rw [if_neg c55] at H
                       have c55b0:(t257 == t265)=false:=beq_eq_false_iff_ne.mpr c55
                       have c55b1:(t257 != t265)=true:=bne_iff_ne.mpr c55
                       obtain rfl:=Option.some.inj H
                       obtain ⟨Ao90,co90,eo90⟩:=Kd.R_slice HO_18.out
                       subst eo90
                       have p251:0≤(x19_2:Int):=of_decide_eq_true (by first|(with_reducible assumption)|assumption)
                       have q251:x19_2<(y248.length:Int):=of_decide_eq_true (by first|(with_reducible assumption)|assumption)
                       obtain ⟨ad251,e251,hx251_0⟩:=Kd.at_string (Kd.R_reads' HO_18.out).2.2 x19_2 p251 q251
                       cases e251
                       replace p251:=eq_true p251
                       replace q251:=eq_true q251
                       go_wp2_with (first|((with_reducible refine gate_callee (f:=11) rfl ?_);refine goesL_ (some 106) rfl rfl Tryz.func11 (by kernel_rfl) rfl #[.string (rdOf ByteArray.empty y248 x19_2)] rfl (by (try simp only [List.map_toArray,List.map_cons,List.map_nil]);first|done|rfl|(simp only [List.length_drop,List.length_take];rfl)) ?_;(with_reducible refine (dent_Locks.calls (rdOf ByteArray.empty y248 x19_2) t252 t255 t256 t257 _ ?side1 A53.out).mono ?_);(case side1 => exact GL.below0 hG (by repeat (first|(with_reducible first|exact HB.out|apply below_alloc|apply pw_below_drewN|apply below_drew1)|exact HB.out)));rintro e w91 ⟨v253,rfl,ho0,hb⟩;refine ⟨_,rfl,?_⟩;have n0_:=Aside0.mk (Kd.R_below (by (with_reducible repeat (first|apply Kd.R_alloc|apply Kd.R_drewN|apply Kd.R_drew));exact HO_18.out) hb);have n1_:=Aside0.mk (Kd.R_lower ho0 (below_size (by repeat (first|(with_reducible first|exact HB.out|apply below_alloc|apply pw_below_drewN|apply below_drew1)|exact HB.out))));have n2_:=Aside0.mk (below_step (by repeat (first|(with_reducible first|exact HB.out|apply below_alloc|apply pw_below_drewN|apply below_drew1)|exact HB.out)) hb);clear HO_18;clear HB;have HO_18:=n0_;have HO254:=n1_;have HB:=n2_;clear n0_ n1_ n2_;(try clear hb);(try clear hb2);(try clear hk);(try clear hi);(try clear ho0))|((with_reducible refine gate_dst (N:=21) rfl ?_);(try (refine gate_guard (by rfl) ?_;dsimp only));refine box_event ?hg (N:=21) ?hd (cs:=#[.int .i64 0,.int .i64 0]) (t:=29) ?hr ?_;(case hd => rfl);(case hg => rfl);(case hr => first|(go_simp;done)|(go_simp;rfl));intro gb258 hg w92 hbox hb;have n0_:=Aside0.mk (Kd.R_below (by (with_reducible repeat (first|apply Kd.R_alloc|apply Kd.R_drewN|apply Kd.R_drew));exact HO_18.out) hb);have n1_:=Aside0.mk (Kd.R_below (by (with_reducible repeat (first|apply Kd.R_alloc|apply Kd.R_drewN|apply Kd.R_drew));exact HO254.out) hb);have n2_:=Aside0.mk (below_step (by repeat (first|(with_reducible first|exact HB.out|apply below_alloc|apply pw_below_drewN|apply below_drew1)|exact HB.out)) hb);have n3_:=Aside0.mk (hbox);have n4_:=Aside0.mk ((by rw [hg];exact (below_size (by repeat (first|(with_reducible first|exact HB.out|apply below_alloc|apply pw_below_drewN|apply below_drew1)|exact HB.out))):w.heap.size≤gb258));have n5_:=Aside0.mk ((by rw [hg];exact (below_size (by repeat (first|(with_reducible first|exact HB.out|apply below_alloc|apply pw_below_drewN|apply below_drew1)|exact HB.out))):w.heap.size≤gb258));clear HO_18;clear HO254;clear HB;have HO_18:=n0_;have HO254:=n1_;have HB:=n2_;have BK258:=n3_;have GW258:=n4_;have GE258:=n5_;clear n0_ n1_ n2_ n3_ n4_ n5_;clear hb hbox hg;have hcz93_0:w92.cell? ⟨gb258,0,none⟩=some (.int .i64 0):=(blk_cell BK258.out 0).trans rfl;have hcz93_1:w92.cell? ⟨gb258,1,none⟩=some (.int .i64 0):=(blk_cell BK258.out 1).trans rfl;have hfz93_0:=blk_frozen BK258.out 0;have hfz93_1:=blk_frozen BK258.out 1;have p259:0≤(x19_2:Int):=of_decide_eq_true (by first|(with_reducible assumption)|assumption);have q259:x19_2<(y248.length:Int):=of_decide_eq_true (by first|(with_reducible assumption)|assumption);obtain ⟨ad259,e259,hx259_0⟩:=Kd.at_string (Kd.R_reads' HO_18.out).2.2 x19_2 p259 q259;obtain rfl:ad251=ad259:=(by injection e259);have hn259_0:ad251.block≠gb258:=Kd.own_blk (Kd.R_ne HO_18.out BK258.out (by decide));have hn259_1:ad251.block≠gb258:=Kd.own_blk (Kd.R_ne HO_18.out BK258.out (by decide));replace hx259_0:=(cell_far (p:=⟨gb258,0,none⟩) (by first|(rw [add_block];exact hn259_0)|(show (Addr.add _ _).block≠_;rw [add_block];exact hn259_0)|exact hn259_0) (.int .i64 t255)).trans hx259_0;replace hx259_0:=(cell_far (p:=⟨gb258,1,none⟩) (by first|(rw [add_block];exact hn259_1)|(show (Addr.add _ _).block≠_;rw [add_block];exact hn259_1)|exact hn259_1) (.int .i64 t256)).trans hx259_0;clear hn259_0;clear hn259_1;replace p259:=eq_true p259;replace q259:=eq_true q259)|((with_reducible refine gate_callee (f:=16) rfl ?_);refine goesL_ (some 115) rfl rfl Tryz.func16 (by kernel_rfl) rfl #[.string (rdOf ByteArray.empty y248 x19_2)] rfl (by (try simp only [List.map_toArray,List.map_cons,List.map_nil]);first|done|rfl|(simp only [List.length_drop,List.length_take];rfl)) ?_;(with_reducible refine (transhumanceref7_Locks.calls (rdOf ByteArray.empty y248 x19_2) t260 t263 t264 t265 _ A54.out).mono ?_);rintro e w94 ⟨v261,rfl,ho0,hb⟩;refine ⟨_,rfl,?_⟩;have n0_:=Aside0.mk (Kd.R_below (by (with_reducible repeat (first|apply Kd.R_alloc|apply Kd.R_drewN|apply Kd.R_drew));exact (Kd.R_mono (Kd.R_far (p:=⟨gb258,1,none⟩) (Kd.R_far (p:=⟨gb258,0,none⟩) (Kd.R_types HO_18.out BK258.out (by decide)) (fun _ hk => hk.2) (.int .i64 t255)) (fun _ hk => hk.2) (.int .i64 t256)) (fun _ h_ => h_.1))) hb);have n1_:=Aside0.mk (Kd.R_elder' (by (with_reducible repeat (first|apply Kd.R_alloc|apply Kd.R_drewN|apply Kd.R_drew));exact (Kd.R_mono (Kd.R_far (p:=⟨gb258,1,none⟩) (Kd.R_far (p:=⟨gb258,0,none⟩) (Kd.R_types HO254.out BK258.out (by decide)) (fun _ hk => hk.2) (.int .i64 t255)) (fun _ hk => hk.2) (.int .i64 t256)) (fun _ h_ => h_.1))) (Kd.R_base ho0) hb);have n2_:=Aside0.mk (Kd.R_lower (Kd.R_new' ho0 (Kd.R_lt (by (with_reducible repeat (first|apply Kd.R_alloc|apply Kd.R_drewN|apply Kd.R_drew));exact (Kd.R_mono (Kd.R_far (p:=⟨gb258,1,none⟩) (Kd.R_far (p:=⟨gb258,0,none⟩) (Kd.R_types HO254.out BK258.out (by decide)) (fun _ hk => hk.2) (.int .i64 t255)) (fun _ hk => hk.2) (.int .i64 t256)) (fun _ h_ => h_.1))))) (below_size (by repeat (first|(with_reducible first|exact HB.out|apply below_alloc|apply pw_below_drewN|apply below_drew1|refine below_set ?_ GE258.out)|exact HB.out))));have n3_:=Aside0.mk (blk_below (g:=gb258) (o:=.cells #[.int .i64 t255,.int .i64 t256] 29 (0,0)) (by (with_reducible repeat (first|refine blk_drewN ?_ _|refine blk_drew ?_|refine blk_alloc ?_ _));refine blk_put (cs:=#[.int .i64 t255,.int .i64 0]) ?_ 1 _ rfl;(with_reducible repeat (first|refine blk_drewN ?_ _|refine blk_drew ?_|refine blk_alloc ?_ _));refine blk_put (cs:=#[.int .i64 0,.int .i64 0]) ?_ 0 _ rfl;(with_reducible repeat (first|refine blk_drewN ?_ _|refine blk_drew ?_|refine blk_alloc ?_ _));exact BK258.out) hb);have n4_:=Aside0.mk (below_step (by repeat (first|(with_reducible first|exact HB.out|apply below_alloc|apply pw_below_drewN|apply below_drew1|refine below_set ?_ GE258.out)|exact HB.out)) hb);clear HO_18;clear HO254;clear BK258;clear HB;have HO_18:=n0_;have HO254:=n1_;have HO262:=n2_;have BK258:=n3_;have HB:=n4_;clear n0_ n1_ n2_ n3_ n4_;(try clear hb);(try clear hb2);(try clear hk);(try clear hi);(try clear ho0))|((with_reducible refine gate_dst (N:=24) rfl ?_);(try (refine gate_guard (by rfl) ?_;dsimp only));refine box_event ?hg (N:=24) ?hd (cs:=#[.int .i64 0,.int .i64 0]) (t:=29) ?hr ?_;(case hd => rfl);(case hg => rfl);(case hr => first|(go_simp;done)|(go_simp;rfl));intro gb266 hg w95 hbox hb;have n0_:=Aside0.mk (Kd.R_below (by (with_reducible repeat (first|apply Kd.R_alloc|apply Kd.R_drewN|apply Kd.R_drew));exact HO_18.out) hb);have n1_:=Aside0.mk (Kd.R_below (by (with_reducible repeat (first|apply Kd.R_alloc|apply Kd.R_drewN|apply Kd.R_drew));exact HO254.out) hb);have n2_:=Aside0.mk (Kd.R_below (by (with_reducible repeat (first|apply Kd.R_alloc|apply Kd.R_drewN|apply Kd.R_drew));exact HO262.out) hb);have n3_:=Aside0.mk (blk_below (g:=gb258) (o:=.cells #[.int .i64 t255,.int .i64 t256] 29 (0,0)) (by (with_reducible repeat (first|refine blk_drewN ?_ _|refine blk_drew ?_|refine blk_alloc ?_ _));exact BK258.out) hb);have n4_:=Aside0.mk (below_step (by repeat (first|(with_reducible first|exact HB.out|apply below_alloc|apply pw_below_drewN|apply below_drew1|refine below_set ?_ GE258.out)|exact HB.out)) hb);have n5_:=Aside0.mk (hbox);have n6_:=Aside0.mk ((by rw [hg];exact (below_size (by repeat (first|(with_reducible first|exact HB.out|apply below_alloc|apply pw_below_drewN|apply below_drew1|refine below_set ?_ GE258.out)|exact HB.out))):w.heap.size≤gb266));have n7_:=Aside0.mk ((by rw [hg];exact (below_size (by repeat (first|(with_reducible first|exact HB.out|apply below_alloc|apply pw_below_drewN|apply below_drew1|refine below_set ?_ GE258.out)|exact HB.out))):w.heap.size≤gb266));have n8_:=Aside0.mk ((by rw [hg];exact Nat.ne_of_lt (blk_lt (g:=gb258) (o:=.cells #[.int .i64 t255,.int .i64 t256] 29 (0,0)) (by (with_reducible repeat (first|refine blk_drewN ?_ _|refine blk_drew ?_|refine blk_alloc ?_ _));exact BK258.out)):gb258≠gb266));have n9_:=Aside0.mk ((by rw [hg];exact Nat.ne_of_gt (blk_lt (g:=gb258) (o:=.cells #[.int .i64 t255,.int .i64 t256] 29 (0,0)) (by (with_reducible repeat (first|refine blk_drewN ?_ _|refine blk_drew ?_|refine blk_alloc ?_ _));exact BK258.out)):gb266≠gb258));clear HO_18;clear HO254;clear HO262;clear BK258;clear HB;have HO_18:=n0_;have HO254:=n1_;have HO262:=n2_;have BK258:=n3_;have HB:=n4_;have BK266:=n5_;have GW266:=n6_;have GE266:=n7_;have NB258_266:=n8_;have NB266_258:=n9_;clear n0_ n1_ n2_ n3_ n4_ n5_ n6_ n7_ n8_ n9_;clear hb hbox hg;have hnb96:=NB266_258.out;have hnc96:=NB258_266.out;have hcz97_0:w95.cell? ⟨gb266,0,none⟩=some (.int .i64 0):=(blk_cell BK266.out 0).trans rfl;have hcz97_1:w95.cell? ⟨gb266,1,none⟩=some (.int .i64 0):=(blk_cell BK266.out 1).trans rfl;have hfz97_0:=blk_frozen BK266.out 0;have hfz97_1:=blk_frozen BK266.out 1))
                       go_ret
                       exact ⟨by first|rfl|(simp [errW_none,errW_some] <;> rfl)|(simp [*,errW_none,errW_some] <;> rfl),by repeat (first|(with_reducible first|exact HB.out|apply below_alloc|apply pw_below_drewN|apply below_drew1|refine below_set ?_ GE258.out|refine below_set ?_ GE266.out)|exact HB.out)⟩
                     ·rw [if_neg c52] at H
                      exact absurd H (by simp)
                    ·rw [if_neg c51] at H
                     have c51b0:decide (x19_2<(y248.length:Int))=false:=decide_eq_false c51
                     clear c51
                     obtain rfl:=Option.some.inj H
                     obtain ⟨Ao98,co98,eo98⟩:=Kd.R_slice HO_18.out
                     subst eo98
                     go_wp2
                     go_ret
                     exact ⟨by first|rfl|(simp [errW_none,errW_some] <;> rfl)|(simp [*,errW_none,errW_some] <;> rfl),by repeat (first|(with_reducible first|exact HB.out|apply below_alloc|apply pw_below_drewN|apply below_drew1)|exact HB.out)⟩
                 ·rw [if_neg c40] at H
                  exact absurd H (by simp)
                ·rw [if_neg c39] at H
                 exact absurd H (by simp)
               ·rw [if_neg c38] at H
                exact absurd H (by simp)
              ·rw [if_neg c37] at H
               exact absurd H (by simp)
             ·rw [if_neg c36] at H
              exact absurd H (by simp)
            ·rw [if_neg c35] at H
             exact absurd H (by simp)
           ·rw [if_neg c32] at H
            exact absurd H (by simp)
          ·rw [if_neg c29] at H
           exact absurd H (by simp)
         ·rw [if_neg c26] at H
          exact absurd H (by simp)
        ·rw [if_neg c23] at H
         exact absurd H (by simp)
       ·rw [if_neg c22] at H
        exact absurd H (by simp)
      ·rw [if_neg c20] at H
       exact absurd H (by simp)
     ·rw [if_neg c19] at H
      exact absurd H (by simp)
 ·replace c9:=Bool.eq_false_iff.mpr c9
  subst c9
  have H1:(some false)=some r:=by rw [if_neg (show ¬ (false=true) by decide)] at H;exact H
  clear H
  have H:=H1
  clear H1
  obtain rfl:=Option.some.inj H
  go_enter Tryz.func4,Tryz.ntmps4
  go_wp2_with (first|((with_reducible refine gate_callee (f:=8) rfl ?_);refine goesL_ (some 26) rfl rfl Tryz.func8 (by kernel_rfl) rfl #[] rfl (by (try simp only [List.map_toArray,List.map_cons,List.map_nil]);first|done|rfl|(simp only [List.length_drop,List.length_take];rfl)) ?_;(with_reducible refine (transhumancelaw7_known.calls  false _ ?side1 A8.out).mono ?_);(case side1 => exact GL.below0 hG (by repeat (first|(with_reducible first|exact HB.out|apply below_alloc|apply pw_below_drewN|apply below_drew1)|exact HB.out)));rintro e w99 ⟨rfl,hb⟩;refine ⟨_,rfl,?_⟩;have n0_:=Aside0.mk (below_step (by repeat (first|(with_reducible first|exact HB.out|apply below_alloc|apply pw_below_drewN|apply below_drew1)|exact HB.out)) hb);clear HB;have HB:=n0_;clear n0_;(try clear hb);(try clear hb2);(try clear hk);(try clear hi)))
  go_ret
  exact ⟨by first|rfl|(simp [errW_none,errW_some] <;> rfl)|(simp [*,errW_none,errW_some] <;> rfl),by repeat (first|(with_reducible first|exact HB.out|apply below_alloc|apply pw_below_drewN|apply below_drew1)|exact HB.out)⟩
def transhumancelaw7_DentReads.Pure:Prop:=∀ (l0:List Int) (l1:List Int) (a2:Int) (a3:Int) (a4:Int) (a5:ByteArray) (a6:ByteArray),l0.length≤maxLen→l0.length * 8≤140737488351232→(∀ x ∈ l0,(Lit.int .i64 x).wf=true)→l1.length≤maxLen→l1.length * 1≤140737488351232→(∀ x ∈ l1,(Lit.int .u8 x).wf=true)→(Lit.int .i64 a2).wf=true→(Lit.int .u8 a3).wf=true→(Lit.int .i64 a4).wf=true→a5.size≤140737488351232→a6.size≤140737488351232→∃ k,transhumancelaw7_DentReads.f k l0 l1 a2 a3 a4 a5 a6=some true
theorem transhumancelaw7_DentReads.walk (P:transhumancelaw7_DentReads.Pure) (a0:Option Addr) (len0 cap0:Nat) (z0:List Int) (a1:Option Addr) (len1 cap1:Nat) (z1:List Int) (a2:Int) (a3:Int) (a4:Int) (a5:ByteArray) (a6:ByteArray) (w:World) (w0:(a0=none∧len0=0∧cap0=0∧z0=[])∨∃ x,a0=some x∧len0≤cap0∧cap0≤maxLen∧z0.length=cap0∧(∀ i,i<z0.length→w.cell? (x.add i)=some (.int .i64 (z0.getD i 0)))∧∀ n ∈ z0,(Lit.int .i64 n).wf=true) (y0:len0 * 8≤140737488351232) (w1:(a1=none∧len1=0∧cap1=0∧z1=[])∨∃ x,a1=some x∧len1≤cap1∧cap1≤maxLen∧z1.length=cap1∧(∀ i,i<z1.length→w.cell? (x.add i)=some (.int .u8 (z1.getD i 0)))∧∀ n ∈ z1,(Lit.int .u8 n).wf=true) (y1:len1 * 1≤140737488351232) (w2:(Lit.int .i64 a2).wf=true) (w3:(Lit.int .u8 a3).wf=true) (w4:(Lit.int .i64 a4).wf=true) (w5:a5.size≤140737488351232) (w6:a6.size≤140737488351232) (hG:GL w) :
  Calls Tryz.prog 4 #[.slice a0 len0 cap0,.slice a1 len1 cap1,.int .i64 a2,.int .u8 a3,.int .i64 a4,.string a5,.string a6] w fun e w' => e=.returned (.bool true)∧Below w.heap.size w w':=by
 obtain ⟨l0,rfl,hr0,hm0,hw0,hc0⟩:=ReadsInt.ofRowC w0
 obtain ⟨l1,rfl,hr1,hm1,hw1,hc1⟩:=ReadsInt.ofRowC w1
 obtain ⟨k,h⟩:=P l0 l1 a2 a3 a4 a5 a6 hm0 y0 hw0 hm1 y1 hw1 w2 w3 w4 w5 w6
 refine (transhumancelaw7_DentReads.calls k _ _ l0 _ _ l1 a2 a3 a4 a5 a6 true w hG (Kd.C_of_reads (d:=(0:Int)) (h1:=fun _ => rfl) hr0) hc0 (Kd.C_of_reads (d:=(0:Int)) (h1:=fun _ => rfl) hr1) hc1 h).mono ?_
 rintro e w' ⟨rfl,hd⟩
 exact ⟨rfl,hd⟩
end Go.Proofs.YtjdjljgbfpkbdaaGreatDoor.Q
