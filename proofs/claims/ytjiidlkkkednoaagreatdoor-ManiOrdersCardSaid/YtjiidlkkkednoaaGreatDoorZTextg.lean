import Derived.Test.YtjiidlkkkednoaaGreatDoorZMri
import Derived.Test.YtjiidlkkkednoaaGreatDoorZMadd
import Derived.Test.YtjiidlkkkednoaaGreatDoorZMpmg
import Derived.Test.YtjiidlkkkednoaaGreatDoorZW0
set_option linter.unusedVariables false
set_option linter.unusedSimpArgs false
section
namespace Go.Proofs.YtjiidlkkkednoaaGreatDoor.Q
open Go.RowKit Go.Proofs.YtjiidlkkkednoaaGreatDoorW.PrintWords
def allI (p:Nat→Bool) (n:Nat):Bool:=(List.range n).all p
theorem allI_succ (p:Nat→Bool) (n:Nat):allI p (n+1)=(allI p n && p n):=by
 unfold allI
 rw [List.range_succ,List.all_append]
 simp
theorem allI_no (p:Nat→Bool) (n i:Nat) (h:i<n) (hp:p i=false):allI p n=false:=by
 unfold allI
 rw [List.all_eq_false]
 exact ⟨i,List.mem_range.2 h,by simp [hp]⟩
def okqM (okq:S45→Bool) (mo:ByteArray) (r:S45):Bool:=okq r && !(r.f0.toList == mo.toList)
def oksM (okq:S45→Bool) (mo:ByteArray) (r:S48):Bool:=rightL r.f0.data.toList && okq ⟨r.f1,r.f2⟩ && !(r.f0.toList == mo.toList)
def cmpPA (x y:S45):Int:=Lib.compareBytes x.f0.data.toList y.f0.data.toList
def cmpPB (x y:S48):Int:=Lib.compareBytes x.f0.data.toList y.f0.data.toList
def rightM (okq:S45→Bool) (cfA:S45→S45→Int) (mo:ByteArray) (l1 l2:List S45) (l3:List S48):Bool :=
 allI (fun i => okqM okq mo (rdIA l1 i)) l1.length && (allI (fun i => okq (rdIA l2 i)) l2.length && (allI (fun i => oksM okq mo (rdIB l3 i)) l3.length &&
  (rightL mo.data.toList && ((risesI (rdIA l1) cmpPA l1.length && decide (l1.length≤2000)) && ((risesI (rdIA l2) cfA l2.length && decide (l2.length≤2000)) && (risesI (rdIB l3) cmpPB l3.length && decide (l3.length≤2000)))))))
set_option maxHeartbeats 1000000 in
theorem cmpPA_calls (x y:S45) (w:World):Calls Tryz.prog 39 #[.agg #[.string x.f0,.int .i64 x.f1.f0,.int .i64 x.f1.f1,.int .i64 x.f1.f2,.string x.f1.f3],.agg #[.string y.f0,.int .i64 y.f1.f0,.int .i64 y.f1.f1,.int .i64 y.f1.f2,.string y.f1.f3]] w
  fun e w' => e=.returned (.int .i64 (cmpPA x y))∧Below w.heap.size w w':=by
 have HS:=fun W => Lib.hid (strings_Compare.calls x.f0 y.f0 (cmpPA x y) W rfl)
 go_enter Tryz.func39,Tryz.ntmps39
 go_wp2_with (fail)
 refine (HS _).out.mono ?_
 rintro e w1 ⟨rfl,hd⟩
 have HD:=Lib.hid hd
 clear hd
 go_wp2_with (fail)
 go_ret
 exact ⟨rfl,drawn_belowM (below_alloc (below_alloc (Below.refl _ _) _) _) HD.out⟩
set_option maxHeartbeats 1000000 in
theorem cmpPB_calls (x y:S48) (w:World):Calls Tryz.prog 43 #[.agg #[.string x.f0,.string x.f1,.int .i64 x.f2.f0,.int .i64 x.f2.f1,.int .i64 x.f2.f2,.string x.f2.f3],.agg #[.string y.f0,.string y.f1,.int .i64 y.f2.f0,.int .i64 y.f2.f1,.int .i64 y.f2.f2,.string y.f2.f3]] w
  fun e w' => e=.returned (.int .i64 (cmpPB x y))∧Below w.heap.size w w':=by
 have HS:=fun W => Lib.hid (strings_Compare.calls x.f0 y.f0 (cmpPB x y) W rfl)
 go_enter Tryz.func43,Tryz.ntmps43
 go_wp2_with (fail)
 refine (HS _).out.mono ?_
 rintro e w1 ⟨rfl,hd⟩
 have HD:=Lib.hid hd
 clear hd
 go_wp2_with (fail)
 go_ret
 exact ⟨rfl,drawn_belowM (below_alloc (below_alloc (Below.refl _ _) _) _) HD.out⟩
section
variable (w:World) {okq:S45→Bool} {cfA:S45→S45→Int} {OkR:S45→Prop}
set_option maxHeartbeats 4000000 in
set_option maxRecDepth 100000 in
theorem mright_calls (mo:ByteArray) (A1 A2 A3:Option Addr) (c1 c2 c3:Nat) (l1 l2:List S45) (l3:List S48)
  (hQ:∀ r,OkR r→∀ W,Below w.heap.size w W→Calls Tryz.prog 37 #[.agg #[.string r.f0,.int .i64 r.f1.f0,.int .i64 r.f1.f1,.int .i64 r.f1.f2,.string r.f1.f3]] W fun e w' => e=.returned (.bool (okq r))∧Below W.heap.size W w')
  (hC:CmpA w OkR cfA) (hmo:mo.size≤900000)
  (r1:Kd.C k45 w A1 l1.length l1) (n1:l1.length≤100000) (o1:∀ i,i<l1.length→OkR (rdIA l1 i))
  (r2:Kd.C k45 w A2 l2.length l2) (n2:l2.length≤100000) (o2:∀ i,i<l2.length→OkR (rdIA l2 i))
  (r3:Kd.C k48 w A3 l3.length l3) (n3:l3.length≤100000) (o3:∀ i,i<l3.length→OkR ⟨(rdIB l3 i).f1,(rdIB l3 i).f2⟩∧(rdIB l3 i).f0.size≤900000) :
  Calls Tryz.prog 14 #[.agg #[.string mo,.slice A1 l1.length c1,.slice A2 l2.length c2,.slice A3 l3.length c3]] w fun e w' =>
   e=.returned (.bool (rightM okq cfA mo l1 l2 l3))∧Below w.heap.size w w':=by
 have HQ:=Lib.hid hQ
 have HC:=Lib.hid hC
 have H1:=Lib.hid r1
 have H2:=Lib.hid r2
 have H3:=Lib.hid r3
 have O1:=Lib.hid o1
 have O2:=Lib.hid o2
 have O3:=Lib.hid o3
 clear hQ hC r1 r2 r3 o1 o2 o3
 obtain ⟨R,hR⟩:∃ R,R=rightM okq cfA mo l1 l2 l3:=⟨_,rfl⟩
 rw [← hR]
 unfold rightM at hR
 have HR:=Lib.hid hR
 clear hR
 have hblk:=Blk.new w 27 #[.string mo,.slice A1 l1.length c1,.slice A2 l2.length c2,.slice A3 l3.length c3]
 have hbl:=below_alloc (Below.refl _ w) (.cells #[.string mo,.slice A1 l1.length c1,.slice A2 l2.length c2,.slice A3 l3.length c3] 27)
 have HBK:=Lib.hid hblk
 have HBL:=Lib.hid hbl
 have hlt:w.heap.size<(w.alloc (.cells #[.string mo,.slice A1 l1.length c1,.slice A2 l2.length c2,.slice A3 l3.length c3] 27)).heap.size:=hblk.lt
 clear hblk hbl
 go_enter Tryz.func14,Tryz.ntmps14
 go_wp2_with (fail)
 generalize (w.alloc (.cells #[.string mo,.slice A1 l1.length c1,.slice A2 l2.length c2,.slice A3 l3.length c3] 27))=W0 at *
 have HLT:=Lib.hid hlt
 clear hlt
 go_loopg [12] (l1.length) (fun g s12 wr => ∃ i:Nat,s12=.int .i64 i∧i≤l1.length∧l1.length - i≤g∧Hid (allI (fun i => okqM okq mo (rdIA l1 i)) i=true)∧Hid (Blk wr w.heap.size 27 #[.string mo,.slice A1 l1.length c1,.slice A2 l2.length c2,.slice A3 l3.length c3])∧Hid (Below w.heap.size w wr))
 case atStart => exact ⟨0,rfl,Nat.zero_le _,by omega,Lib.hid rfl,HBK,HBL⟩
 case round =>
  obtain ⟨i,rfl,hi,hg,HA,HK,HB⟩:=hrel
  by_cases hlt:i<l1.length
  ·have hat:=at_T45 (Kd.C_below H1.out HB.out) (i:Int) (by omega) (by omega)
   simp only [Int.toNat_natCast] at hat
   have hx:rd_T45 l1 (i:Int)=rdIA l1 i:=rfl
   rw [hx] at hat
   have hox:=O1.out i hlt
   have HNO:=Lib.hid (allI_no (fun i => okqM okq mo (rdIA l1 i)) l1.length i hlt)
   have HSC:=Lib.hid (allI_succ (fun i => okqM okq mo (rdIA l1 i)) i)
   generalize rdIA l1 i=X at *
   obtain ⟨ad,rfl,p0,p1,p2,p3,p4⟩:=hat
   have jz:(i:Int)<(l1.length:Int):=by omega
   have hw2:IntKind.i64.wrap ((i:Int)+1)=(i:Int)+1:=by rw [IntWalk.i64_in _ ⟨by omega,by omega⟩]
   clear hx
   have hqx:=HQ.out X hox
   clear hox
   cases hq:okq X with
   | false =>
    rw [hq] at hqx
    have HQX:=Lib.hid hqx
    have HP:=Lib.hid (show okqM okq mo X=false from by unfold okqM;rw [hq];rfl)
    clear hqx hq
    go_wp2_with (go_at_call 37;refine (HQX.out _ (below_alloc HB.out _)).mono ?_;rintro e w1 ⟨rfl,hb1⟩;have HBX:=Lib.hid (below_then (below_alloc HB.out (.cells #[.string X.f0,.int .i64 X.f1.f0,.int .i64 X.f1.f1,.int .i64 X.f1.f2,.string X.f1.f3] 45)) (below_alloc HB.out (.cells #[.string X.f0,.int .i64 X.f1.f0,.int .i64 X.f1.f1,.int .i64 X.f1.f2,.string X.f1.f3] 45)).size hb1);have kk:=(Blk.new wr 45 #[.string X.f0,.int .i64 X.f1.f0,.int .i64 X.f1.f1,.int .i64 X.f1.f2,.string X.f1.f3]).below hb1;have k0:=kk.cell 0;have kp:=((HK.out.alloc (.cells #[.string X.f0,.int .i64 X.f1.f0,.int .i64 X.f1.f1,.int .i64 X.f1.f2,.string X.f1.f3] 45)).below hb1).cell 0;have HB1:=Lib.hid hb1;clear kk hb1)
    go_ret
    exact ⟨by rw [HR.out,HNO.out HP.out];rfl,HBX.out⟩
   | true =>
    rw [hq] at hqx
    have HQX:=Lib.hid hqx
    cases hm:(X.f0.toList == mo.toList) with
    | true =>
     have HP:=Lib.hid (show okqM okq mo X=false from by unfold okqM;rw [hq,hm];rfl)
     clear hqx hq
     go_wp2_with (go_at_call 37;refine (HQX.out _ (below_alloc HB.out _)).mono ?_;rintro e w1 ⟨rfl,hb1⟩;have HBX:=Lib.hid (below_then (below_alloc HB.out (.cells #[.string X.f0,.int .i64 X.f1.f0,.int .i64 X.f1.f1,.int .i64 X.f1.f2,.string X.f1.f3] 45)) (below_alloc HB.out (.cells #[.string X.f0,.int .i64 X.f1.f0,.int .i64 X.f1.f1,.int .i64 X.f1.f2,.string X.f1.f3] 45)).size hb1);have kk:=(Blk.new wr 45 #[.string X.f0,.int .i64 X.f1.f0,.int .i64 X.f1.f1,.int .i64 X.f1.f2,.string X.f1.f3]).below hb1;have k0:=kk.cell 0;have kp:=((HK.out.alloc (.cells #[.string X.f0,.int .i64 X.f1.f0,.int .i64 X.f1.f1,.int .i64 X.f1.f2,.string X.f1.f3] 45)).below hb1).cell 0;have HB1:=Lib.hid hb1;clear kk hb1)
     go_ret
     exact ⟨by rw [HR.out,HNO.out HP.out];rfl,HBX.out⟩
    | false =>
     have HP:=Lib.hid (show okqM okq mo X=true from by unfold okqM;rw [hq,hm];rfl)
     clear hqx hq
     go_wp2_with (go_at_call 37;refine (HQX.out _ (below_alloc HB.out _)).mono ?_;rintro e w1 ⟨rfl,hb1⟩;have HBX:=Lib.hid (below_then (below_alloc HB.out (.cells #[.string X.f0,.int .i64 X.f1.f0,.int .i64 X.f1.f1,.int .i64 X.f1.f2,.string X.f1.f3] 45)) (below_alloc HB.out (.cells #[.string X.f0,.int .i64 X.f1.f0,.int .i64 X.f1.f1,.int .i64 X.f1.f2,.string X.f1.f3] 45)).size hb1);have kk:=(Blk.new wr 45 #[.string X.f0,.int .i64 X.f1.f0,.int .i64 X.f1.f1,.int .i64 X.f1.f2,.string X.f1.f3]).below hb1;have k0:=kk.cell 0;have kp:=((HK.out.alloc (.cells #[.string X.f0,.int .i64 X.f1.f0,.int .i64 X.f1.f1,.int .i64 X.f1.f2,.string X.f1.f3] 45)).below hb1).cell 0;have HB1:=Lib.hid hb1;clear kk hb1)
     go_roundg (l1.length - (i+1))
     case measure => omega
     case rel => exact ⟨i+1,by go_num,by omega,Nat.le_refl _,Lib.hid (HSC.out.trans (by rw [HA.out,Bool.true_and];exact HP.out)),Lib.hid ((HK.out.alloc _).below (by first|exact HB1.out|exact below_drew1 HB1.out)),Lib.hid (by first|exact HBX.out|exact below_drew1 HBX.out)⟩
  ·obtain rfl:i=l1.length:=by omega
   have h1:¬ (l1.length:Int)<(l1.length:Int):=by omega
   have HR2:=Lib.hid (HR.out.trans (by rw [HA.out,Bool.true_and]))
   have m10:=HK.out.cell 0
   have m11:=HK.out.cell 1
   have m12:=HK.out.cell 2
   have m13:=HK.out.cell 3
   clear HA
   go_wp2_with (fail)
   go_loopg [30] (l2.length) (fun g s30 wr => ∃ i:Nat,s30=.int .i64 i∧i≤l2.length∧l2.length - i≤g∧Hid (allI (fun i => okq (rdIA l2 i)) i=true)∧Hid (Blk wr w.heap.size 27 #[.string mo,.slice A1 l1.length c1,.slice A2 l2.length c2,.slice A3 l3.length c3])∧Hid (Below w.heap.size w wr))
   case atStart => exact ⟨0,rfl,Nat.zero_le _,by omega,Lib.hid rfl,HK,HB⟩
   case round =>
    obtain ⟨i,rfl,hi,hg,HA,HK,HB⟩:=hrel
    by_cases hlt:i<l2.length
    ·have hat:=at_T45 (Kd.C_below H2.out HB.out) (i:Int) (by omega) (by omega)
     simp only [Int.toNat_natCast] at hat
     have hx:rd_T45 l2 (i:Int)=rdIA l2 i:=rfl
     rw [hx] at hat
     have hox:=O2.out i hlt
     have HNO:=Lib.hid (allI_no (fun i => okq (rdIA l2 i)) l2.length i hlt)
     have HSC:=Lib.hid (allI_succ (fun i => okq (rdIA l2 i)) i)
     generalize rdIA l2 i=X at *
     obtain ⟨ad,rfl,p0,p1,p2,p3,p4⟩:=hat
     have jz:(i:Int)<(l2.length:Int):=by omega
     have hw2:IntKind.i64.wrap ((i:Int)+1)=(i:Int)+1:=by rw [IntWalk.i64_in _ ⟨by omega,by omega⟩]
     clear hx
     have hqx:=HQ.out X hox
     clear hox
     cases hq:okq X with
     | false =>
      rw [hq] at hqx
      have HQX:=Lib.hid hqx
      have HP:=Lib.hid (show okq X=false from hq)
      clear hqx hq
      go_wp2_with (go_at_call 37;refine (HQX.out _ (below_alloc HB.out _)).mono ?_;rintro e w1 ⟨rfl,hb1⟩;have HBX:=Lib.hid (below_then (below_alloc HB.out (.cells #[.string X.f0,.int .i64 X.f1.f0,.int .i64 X.f1.f1,.int .i64 X.f1.f2,.string X.f1.f3] 45)) (below_alloc HB.out (.cells #[.string X.f0,.int .i64 X.f1.f0,.int .i64 X.f1.f1,.int .i64 X.f1.f2,.string X.f1.f3] 45)).size hb1);have kk:=(Blk.new wr 45 #[.string X.f0,.int .i64 X.f1.f0,.int .i64 X.f1.f1,.int .i64 X.f1.f2,.string X.f1.f3]).below hb1;have k0:=kk.cell 0;have kp:=((HK.out.alloc (.cells #[.string X.f0,.int .i64 X.f1.f0,.int .i64 X.f1.f1,.int .i64 X.f1.f2,.string X.f1.f3] 45)).below hb1).cell 0;have HB1:=Lib.hid hb1;clear kk hb1)
      go_ret
      exact ⟨by rw [HR2.out,HNO.out HP.out];rfl,HBX.out⟩
     | true =>
      rw [hq] at hqx
      have HQX:=Lib.hid hqx
      have HP:=Lib.hid (show okq X=true from hq)
      clear hqx hq
      go_wp2_with (go_at_call 37;refine (HQX.out _ (below_alloc HB.out _)).mono ?_;rintro e w1 ⟨rfl,hb1⟩;have HBX:=Lib.hid (below_then (below_alloc HB.out (.cells #[.string X.f0,.int .i64 X.f1.f0,.int .i64 X.f1.f1,.int .i64 X.f1.f2,.string X.f1.f3] 45)) (below_alloc HB.out (.cells #[.string X.f0,.int .i64 X.f1.f0,.int .i64 X.f1.f1,.int .i64 X.f1.f2,.string X.f1.f3] 45)).size hb1);have kk:=(Blk.new wr 45 #[.string X.f0,.int .i64 X.f1.f0,.int .i64 X.f1.f1,.int .i64 X.f1.f2,.string X.f1.f3]).below hb1;have k0:=kk.cell 0;have kp:=((HK.out.alloc (.cells #[.string X.f0,.int .i64 X.f1.f0,.int .i64 X.f1.f1,.int .i64 X.f1.f2,.string X.f1.f3] 45)).below hb1).cell 0;have HB1:=Lib.hid hb1;clear kk hb1)
      go_roundg (l2.length - (i+1))
      case measure => omega
      case rel => exact ⟨i+1,by go_num,by omega,Nat.le_refl _,Lib.hid (HSC.out.trans (by rw [HA.out,Bool.true_and];exact HP.out)),Lib.hid ((HK.out.alloc _).below (by first|exact HB1.out|exact below_drew1 HB1.out)),Lib.hid (by first|exact HBX.out|exact below_drew1 HBX.out)⟩
    ·obtain rfl:i=l2.length:=by omega
     have h1:¬ (l2.length:Int)<(l2.length:Int):=by omega
     have HR3:=Lib.hid (HR2.out.trans (by rw [HA.out,Bool.true_and]))
     have m20:=HK.out.cell 0
     have m21:=HK.out.cell 1
     have m22:=HK.out.cell 2
     have m23:=HK.out.cell 3
     clear HA
     go_wp2_with (fail)
     go_loopg [41] (l3.length) (fun g s41 wr => ∃ i:Nat,s41=.int .i64 i∧i≤l3.length∧l3.length - i≤g∧Hid (allI (fun i => oksM okq mo (rdIB l3 i)) i=true)∧Hid (Blk wr w.heap.size 27 #[.string mo,.slice A1 l1.length c1,.slice A2 l2.length c2,.slice A3 l3.length c3])∧Hid (Below w.heap.size w wr))
     case atStart => exact ⟨0,rfl,Nat.zero_le _,by omega,Lib.hid rfl,HK,HB⟩
     case round =>
      obtain ⟨i,rfl,hi,hg,HA,HK,HB⟩:=hrel
      by_cases hlt:i<l3.length
      ·have hat:=at_T48 (Kd.C_below H3.out HB.out) (i:Int) (by omega) (by omega)
       simp only [Int.toNat_natCast] at hat
       have hx:rd_T48 l3 (i:Int)=rdIB l3 i:=rfl
       rw [hx] at hat
       have hox:=O3.out i hlt
       have HNO:=Lib.hid (allI_no (fun i => oksM okq mo (rdIB l3 i)) l3.length i hlt)
       have HSC:=Lib.hid (allI_succ (fun i => oksM okq mo (rdIB l3 i)) i)
       generalize rdIB l3 i=X at *
       obtain ⟨ad,rfl,p0,p1,p2,p3,p4,p5⟩:=hat
       have jz:(i:Int)<(l3.length:Int):=by omega
       have hw2:IntKind.i64.wrap ((i:Int)+1)=(i:Int)+1:=by rw [IntWalk.i64_in _ ⟨by omega,by omega⟩]
       clear hx
       have hqx:=HQ.out ⟨X.f1,X.f2⟩ hox.1
       have hpx:=fun W => pright_calls X.f0.data.toList W (by rw [data_length];have:=hox.2;omega)
       rw [bs_data] at hpx
       clear hox
       cases hr:rightL X.f0.data.toList with
       | false =>
        rw [hr] at hpx
        have HPX:=fun W => Lib.hid (hpx W)
        have HP:=Lib.hid (show oksM okq mo X=false from by unfold oksM;rw [hr];rfl)
        clear hpx hqx hr
        go_wp2_with (go_at_call 35;refine (HPX _).out.mono ?_;rintro e w1 ⟨rfl,hd⟩;have hb1:=drawn_belowM (Below.refl (wr.alloc (.cells #[.string X.f0,.string X.f1,.int .i64 X.f2.f0,.int .i64 X.f2.f1,.int .i64 X.f2.f2,.string X.f2.f3] 48)).heap.size _) hd;have HBX:=Lib.hid (below_then (below_alloc HB.out (.cells #[.string X.f0,.string X.f1,.int .i64 X.f2.f0,.int .i64 X.f2.f1,.int .i64 X.f2.f2,.string X.f2.f3] 48)) (below_alloc HB.out (.cells #[.string X.f0,.string X.f1,.int .i64 X.f2.f0,.int .i64 X.f2.f1,.int .i64 X.f2.f2,.string X.f2.f3] 48)).size hb1);have kk:=(Blk.new wr 48 #[.string X.f0,.string X.f1,.int .i64 X.f2.f0,.int .i64 X.f2.f1,.int .i64 X.f2.f2,.string X.f2.f3]).below hb1;have k0:=kk.cell 0;have kp:=((HK.out.alloc (.cells #[.string X.f0,.string X.f1,.int .i64 X.f2.f0,.int .i64 X.f2.f1,.int .i64 X.f2.f2,.string X.f2.f3] 48)).below hb1).cell 0;have HB1:=Lib.hid hb1;clear kk hb1;have kk:=(Blk.new wr 48 #[.string X.f0,.string X.f1,.int .i64 X.f2.f0,.int .i64 X.f2.f1,.int .i64 X.f2.f2,.string X.f2.f3]).below HB1.out;have k1:=kk.cell 1;have k2:=kk.cell 2;have k3:=kk.cell 3;have k4:=kk.cell 4;have k5:=kk.cell 5;clear kk hd)
        go_ret
        exact ⟨by rw [HR3.out,HNO.out HP.out];rfl,HBX.out⟩
       | true =>
        rw [hr] at hpx
        have HPX:=fun W => Lib.hid (hpx W)
        clear hpx
        cases hq:okq ⟨X.f1,X.f2⟩ with
        | false =>
         rw [hq] at hqx
         have HQX:=Lib.hid hqx
         have HP:=Lib.hid (show oksM okq mo X=false from by unfold oksM;rw [hr,hq];rfl)
         clear hqx hq hr
         go_wp2_with (first|(go_at_call 35;refine (HPX _).out.mono ?_;rintro e w1 ⟨rfl,hd⟩;have hb1:=drawn_belowM (Below.refl (wr.alloc (.cells #[.string X.f0,.string X.f1,.int .i64 X.f2.f0,.int .i64 X.f2.f1,.int .i64 X.f2.f2,.string X.f2.f3] 48)).heap.size _) hd;have HBX:=Lib.hid (below_then (below_alloc HB.out (.cells #[.string X.f0,.string X.f1,.int .i64 X.f2.f0,.int .i64 X.f2.f1,.int .i64 X.f2.f2,.string X.f2.f3] 48)) (below_alloc HB.out (.cells #[.string X.f0,.string X.f1,.int .i64 X.f2.f0,.int .i64 X.f2.f1,.int .i64 X.f2.f2,.string X.f2.f3] 48)).size hb1);have kk:=(Blk.new wr 48 #[.string X.f0,.string X.f1,.int .i64 X.f2.f0,.int .i64 X.f2.f1,.int .i64 X.f2.f2,.string X.f2.f3]).below hb1;have k0:=kk.cell 0;have kp:=((HK.out.alloc (.cells #[.string X.f0,.string X.f1,.int .i64 X.f2.f0,.int .i64 X.f2.f1,.int .i64 X.f2.f2,.string X.f2.f3] 48)).below hb1).cell 0;have HB1:=Lib.hid hb1;clear kk hb1;have kk:=(Blk.new wr 48 #[.string X.f0,.string X.f1,.int .i64 X.f2.f0,.int .i64 X.f2.f1,.int .i64 X.f2.f2,.string X.f2.f3]).below HB1.out;have k1:=kk.cell 1;have k2:=kk.cell 2;have k3:=kk.cell 3;have k4:=kk.cell 4;have k5:=kk.cell 5;clear kk hd)|(go_at_call 37;refine (HQX.out _ HBX.out).mono ?_;rintro e w2 ⟨rfl,hb2⟩;have HBY:=Lib.hid (below_then HBX.out HBX.out.size hb2);have HB2:=Lib.hid (below_then HB1.out HB1.out.size hb2);have l0:=pw_cell_below hb2 k0;have lp:=pw_cell_below hb2 kp;clear hb2))
         go_ret
         exact ⟨by rw [HR3.out,HNO.out HP.out];rfl,HBY.out⟩
        | true =>
         rw [hq] at hqx
         have HQX:=Lib.hid hqx
         cases hm:(X.f0.toList == mo.toList) with
         | true =>
          have HP:=Lib.hid (show oksM okq mo X=false from by unfold oksM;rw [hr,hq,hm];rfl)
          clear hqx hq hr
          go_wp2_with (first|(go_at_call 35;refine (HPX _).out.mono ?_;rintro e w1 ⟨rfl,hd⟩;have hb1:=drawn_belowM (Below.refl (wr.alloc (.cells #[.string X.f0,.string X.f1,.int .i64 X.f2.f0,.int .i64 X.f2.f1,.int .i64 X.f2.f2,.string X.f2.f3] 48)).heap.size _) hd;have HBX:=Lib.hid (below_then (below_alloc HB.out (.cells #[.string X.f0,.string X.f1,.int .i64 X.f2.f0,.int .i64 X.f2.f1,.int .i64 X.f2.f2,.string X.f2.f3] 48)) (below_alloc HB.out (.cells #[.string X.f0,.string X.f1,.int .i64 X.f2.f0,.int .i64 X.f2.f1,.int .i64 X.f2.f2,.string X.f2.f3] 48)).size hb1);have kk:=(Blk.new wr 48 #[.string X.f0,.string X.f1,.int .i64 X.f2.f0,.int .i64 X.f2.f1,.int .i64 X.f2.f2,.string X.f2.f3]).below hb1;have k0:=kk.cell 0;have kp:=((HK.out.alloc (.cells #[.string X.f0,.string X.f1,.int .i64 X.f2.f0,.int .i64 X.f2.f1,.int .i64 X.f2.f2,.string X.f2.f3] 48)).below hb1).cell 0;have HB1:=Lib.hid hb1;clear kk hb1;have kk:=(Blk.new wr 48 #[.string X.f0,.string X.f1,.int .i64 X.f2.f0,.int .i64 X.f2.f1,.int .i64 X.f2.f2,.string X.f2.f3]).below HB1.out;have k1:=kk.cell 1;have k2:=kk.cell 2;have k3:=kk.cell 3;have k4:=kk.cell 4;have k5:=kk.cell 5;clear kk hd)|(go_at_call 37;refine (HQX.out _ HBX.out).mono ?_;rintro e w2 ⟨rfl,hb2⟩;have HBY:=Lib.hid (below_then HBX.out HBX.out.size hb2);have HB2:=Lib.hid (below_then HB1.out HB1.out.size hb2);have l0:=pw_cell_below hb2 k0;have lp:=pw_cell_below hb2 kp;clear hb2))
          go_ret
          exact ⟨by rw [HR3.out,HNO.out HP.out];rfl,HBY.out⟩
         | false =>
          have HP:=Lib.hid (show oksM okq mo X=true from by unfold oksM;rw [hr,hq,hm];rfl)
          clear hqx hq hr
          go_wp2_with (first|(go_at_call 35;refine (HPX _).out.mono ?_;rintro e w1 ⟨rfl,hd⟩;have hb1:=drawn_belowM (Below.refl (wr.alloc (.cells #[.string X.f0,.string X.f1,.int .i64 X.f2.f0,.int .i64 X.f2.f1,.int .i64 X.f2.f2,.string X.f2.f3] 48)).heap.size _) hd;have HBX:=Lib.hid (below_then (below_alloc HB.out (.cells #[.string X.f0,.string X.f1,.int .i64 X.f2.f0,.int .i64 X.f2.f1,.int .i64 X.f2.f2,.string X.f2.f3] 48)) (below_alloc HB.out (.cells #[.string X.f0,.string X.f1,.int .i64 X.f2.f0,.int .i64 X.f2.f1,.int .i64 X.f2.f2,.string X.f2.f3] 48)).size hb1);have kk:=(Blk.new wr 48 #[.string X.f0,.string X.f1,.int .i64 X.f2.f0,.int .i64 X.f2.f1,.int .i64 X.f2.f2,.string X.f2.f3]).below hb1;have k0:=kk.cell 0;have kp:=((HK.out.alloc (.cells #[.string X.f0,.string X.f1,.int .i64 X.f2.f0,.int .i64 X.f2.f1,.int .i64 X.f2.f2,.string X.f2.f3] 48)).below hb1).cell 0;have HB1:=Lib.hid hb1;clear kk hb1;have kk:=(Blk.new wr 48 #[.string X.f0,.string X.f1,.int .i64 X.f2.f0,.int .i64 X.f2.f1,.int .i64 X.f2.f2,.string X.f2.f3]).below HB1.out;have k1:=kk.cell 1;have k2:=kk.cell 2;have k3:=kk.cell 3;have k4:=kk.cell 4;have k5:=kk.cell 5;clear kk hd)|(go_at_call 37;refine (HQX.out _ HBX.out).mono ?_;rintro e w2 ⟨rfl,hb2⟩;have HBY:=Lib.hid (below_then HBX.out HBX.out.size hb2);have HB2:=Lib.hid (below_then HB1.out HB1.out.size hb2);have l0:=pw_cell_below hb2 k0;have lp:=pw_cell_below hb2 kp;clear hb2))
          go_roundg (l3.length - (i+1))
          case measure => omega
          case rel => exact ⟨i+1,by go_num,by omega,Nat.le_refl _,Lib.hid (HSC.out.trans (by rw [HA.out,Bool.true_and];exact HP.out)),Lib.hid ((HK.out.alloc _).below (by first|exact HB2.out|exact below_drew1 HB2.out)),Lib.hid (by first|exact HBY.out|exact below_drew1 HBY.out)⟩
      ·obtain rfl:i=l3.length:=by omega
       have h1:¬ (l3.length:Int)<(l3.length:Int):=by omega
       have HR4:=Lib.hid (HR3.out.trans (by rw [HA.out,Bool.true_and]))
       have m30:=HK.out.cell 0
       have m31:=HK.out.cell 1
       have m32:=HK.out.cell 2
       have m33:=HK.out.cell 3
       clear HA
       have hpm:=fun W => pright_calls mo.data.toList W (by rw [data_length];omega)
       rw [bs_data] at hpm
       have hc1:∀ W,Below w.heap.size w W→Calls Tryz.prog 38 #[.slice A1 l1.length c1,.func (.func 39) #[] #[]] W fun e w' => e=.returned (.bool (risesI (rdIA l1) cmpPA l1.length && decide (l1.length≤2000)))∧Below W.heap.size W w' :=
        fun W hW => risesP_calls (w0:=w) W A1 c1 l1 (Ok:=fun _ => True) (fun x y _ _ W' _ => cmpPA_calls x y W') (Kd.C_below H1.out hW) (by omega) (fun _ _ => trivial) hW
       have hc2:∀ W,Below w.heap.size w W→Calls Tryz.prog 38 #[.slice A2 l2.length c2,.func (.func 41) #[] #[]] W fun e w' => e=.returned (.bool (risesI (rdIA l2) cfA l2.length && decide (l2.length≤2000)))∧Below W.heap.size W w' :=
        fun W hW => risesQ_calls (w0:=w) W A2 c2 l2 (Ok:=OkR) HC.out (Kd.C_below H2.out hW) (by omega) O2.out hW
       have hc3:∀ W,Below w.heap.size w W→Calls Tryz.prog 42 #[.slice A3 l3.length c3,.func (.func 43) #[] #[]] W fun e w' => e=.returned (.bool (risesI (rdIB l3) cmpPB l3.length && decide (l3.length≤2000)))∧Below W.heap.size W w' :=
        fun W hW => risesS_calls (w0:=w) W A3 c3 l3 (Ok:=fun _ => True) (fun x y _ _ W' _ => cmpPB_calls x y W') (Kd.C_below H3.out hW) (by omega) (fun _ _ => trivial) hW
       generalize (risesI (rdIA l1) cmpPA l1.length && decide (l1.length≤2000))=b1 at *
       generalize (risesI (rdIA l2) cfA l2.length && decide (l2.length≤2000))=b2 at *
       generalize (risesI (rdIB l3) cmpPB l3.length && decide (l3.length≤2000))=b3 at *
       generalize rightL mo.data.toList=bm at *
       have HC1:=Lib.hid hc1
       have HC2:=Lib.hid hc2
       have HC3:=Lib.hid hc3
       clear hc1 hc2 hc3 m10 m11 m12 m13 m20 m21 m22 m23
       cases bm with
       | false =>
        have HPM:=fun W => Lib.hid (hpm W)
        clear hpm
        go_wp2_with (go_at_call 35;refine (HPM _).out.mono ?_;rintro e w1 ⟨rfl,hd⟩;have HB1:=Lib.hid (drawn_belowM HB.out hd);clear hd)
        go_ret
        exact ⟨by rw [HR4.out];rfl,HB1.out⟩
       | true =>
        have HPM:=fun W => Lib.hid (hpm W)
        clear hpm
        cases b1 with
        | false =>
         go_wp2_with (first|(go_at_call 35;refine (HPM _).out.mono ?_;rintro e w1 ⟨rfl,hd⟩;have HB1:=Lib.hid (drawn_belowM HB.out hd);have n1:=drawn_cell hd m31;have n2:=drawn_cell hd m32;have n3:=drawn_cell hd m33;clear hd)|(go_at_call 38;with_reducible refine (HC1.out _ HB1.out).mono ?_;rintro e w2 ⟨rfl,hb2⟩;have HB2:=Lib.hid (below_then HB1.out HB1.out.size hb2);clear hb2))
         go_ret
         exact ⟨by rw [HR4.out];rfl,HB2.out⟩
        | true =>
         cases b2 with
         | false =>
          go_wp2_with (first|(go_at_call 35;refine (HPM _).out.mono ?_;rintro e w1 ⟨rfl,hd⟩;have HB1:=Lib.hid (drawn_belowM HB.out hd);have n1:=drawn_cell hd m31;have n2:=drawn_cell hd m32;have n3:=drawn_cell hd m33;clear hd)|(go_at_call 38;with_reducible refine (HC1.out _ HB1.out).mono ?_;rintro e w2 ⟨rfl,hb2⟩;have HB2:=Lib.hid (below_then HB1.out HB1.out.size hb2);have o1:=pw_cell_below hb2 n1;have o2:=pw_cell_below hb2 n2;have o3:=pw_cell_below hb2 n3;clear hb2)|(go_at_call 38;with_reducible refine (HC2.out _ HB2.out).mono ?_;rintro e w3 ⟨rfl,hb3⟩;have HB3:=Lib.hid (below_then HB2.out HB2.out.size hb3);clear hb3))
          go_ret
          exact ⟨by rw [HR4.out];rfl,HB3.out⟩
         | true =>
          go_wp2_with (first|(go_at_call 35;refine (HPM _).out.mono ?_;rintro e w1 ⟨rfl,hd⟩;have HB1:=Lib.hid (drawn_belowM HB.out hd);have n1:=drawn_cell hd m31;have n2:=drawn_cell hd m32;have n3:=drawn_cell hd m33;clear hd)|(go_at_call 38;with_reducible refine (HC1.out _ HB1.out).mono ?_;rintro e w2 ⟨rfl,hb2⟩;have HB2:=Lib.hid (below_then HB1.out HB1.out.size hb2);have o1:=pw_cell_below hb2 n1;have o2:=pw_cell_below hb2 n2;have o3:=pw_cell_below hb2 n3;clear hb2)|(go_at_call 38;with_reducible refine (HC2.out _ HB2.out).mono ?_;rintro e w3 ⟨rfl,hb3⟩;have HB3:=Lib.hid (below_then HB2.out HB2.out.size hb3);have q3:=pw_cell_below hb3 o3;clear hb3)|(go_at_call 42;with_reducible refine (HC3.out _ HB3.out).mono ?_;rintro e w4 ⟨rfl,hb4⟩;have HB4:=Lib.hid (below_then HB3.out HB3.out.size hb4);clear hb4))
          go_ret
          exact ⟨by rw [HR4.out];rfl,HB4.out⟩
end
end Go.Proofs.YtjiidlkkkednoaaGreatDoor.Q
end
section
namespace Go.Proofs.YtjiidlkkkednoaaGreatDoor.Q
open Go.RowKit Go.Proofs.YtjiidlkkkednoaaGreatDoorW.PrintWords Go.Proofs.YtjiidlkkkednoaaGreatDoorW.PrintLast Go.Proofs.YtjiidlkkkednoaaGreatDoorW.PrintMore
attribute [local go_sem] max2_int min2_int max_two min_two
def place:List UInt8→Nat × Nat:=fun l => l.foldl (fun p c => if c=10 then (p.1+1,1) else (p.1,p.2+1)) (1,1)
theorem place_snoc (l:List UInt8) (c:UInt8):place (l++[c])=if c=10 then ((place l).1+1,1) else ((place l).1,(place l).2+1):=by
 simp [place,List.foldl_append]
theorem place_upto (s:ByteArray):∀ k:Nat,k≤s.size →
  ((place (s.data.toList.take k)).1:Int)=1+(Lib.countByte (s.data.toList.take k) 10:Nat)∧((place (s.data.toList.take k)).2:Int)=k - Lib.lastIdx s 10 k
 | 0,_ => by simp [place,Lib.countByte,Lib.lastIdx]
 | k+1,h => by
  obtain ⟨h1,h2⟩:=place_upto s k (by omega)
  have hg:s.data.toList[k]?=some s[k]:=by rw [List.getElem?_eq_getElem (by simpa using (show k<s.size by omega))];rfl
  have ht:s.data.toList.take (k+1)=s.data.toList.take k++[s[k]]:=by
   rw [List.take_add_one,hg];rfl
  have hb:s.data[k]! = s[k]:=by
   rw [getElem!_pos s.data k (show k<s.data.size from (by omega:k<s.size))];rfl
  rw [ht,place_snoc]
  unfold Lib.countByte at h1 ⊢
  rw [List.count_append]
  by_cases hc:s[k]=10
  ·rw [if_pos hc,Lib.lastIdx_hit s 10 k (by rw [hb,hc];rfl),hc]
   simp only [List.count_singleton_self]
   constructor
   ·push_cast;omega
   ·push_cast;omega
  ·rw [if_neg hc,Lib.lastIdx_miss s 10 k (by rw [hb];intro he;exact hc (by apply UInt8.toNat.inj;have h10:(10:UInt8).toNat=10:=rfl;omega)),List.count_singleton]
   rw [if_neg (by simpa using hc)]
   constructor
   ·push_cast;omega
   ·push_cast;omega
theorem place_str (s:ByteArray):((place s.data.toList).1:Int)=1+(Lib.countByte s.data.toList 10:Nat)∧((place s.data.toList).2:Int)=s.size - Lib.lastIndexByte s 10:=by
 have h:=place_upto s s.size (Nat.le_refl _)
 rw [List.take_of_length_le (by simp)] at h
 exact h
theorem count_le (l:List UInt8) (c:UInt8):Lib.countByte l c≤l.length:=List.count_le_length
theorem last_bd (s:ByteArray) (c:Int):-1≤Lib.lastIndexByte s c∧Lib.lastIndexByte s c<s.size:=by
 rcases Lib.lastIndexByte_spec s c with ⟨h,_⟩|⟨i,hi,h,_⟩
 ·omega
 ·omega
set_option maxHeartbeats 800000 in
theorem place_calls (w:World) (s:ByteArray) (k:Nat) (hk:k≤s.size) (hs:s.size≤140737488351232) :
  Calls Tryz.prog 31 #[.string s,.int .i64 k] w fun e w' => e=.returned (.agg #[.int .i64 (place (s.data.toList.take k)).1,.int .i64 (place (s.data.toList.take k)).2])∧Below w.heap.size w w':=by
 have HX:∀ x:ByteArray,x.size=k→x.data.toList=s.data.toList.take k→∃ (c:Nat) (l:Int),c≤k∧-1≤l∧l<k ∧
   Hid (((place (s.data.toList.take k)).1:Int)=1+c∧((place (s.data.toList.take k)).2:Int)=k - l) ∧
   (∀ w,Hid (Calls Tryz.prog 62 #[.string x,.string ⟨#[10]⟩] w fun e w' => e=.returned (.int .i64 c)∧w=w')) ∧
   (∀ w,Hid (Calls Tryz.prog 63 #[.string x,.int .u8 10] w fun e w' => e=.returned (.int .i64 l)∧w=w')):=by
  intro x hs hx
  have h:=place_str x
  have hb:=last_bd x 10
  have hc:=count_le x.data.toList 10
  have hz:x.data.toList.length=x.size:=by simp
  rw [hx] at h
  refine ⟨Lib.countByte x.data.toList 10,Lib.lastIndexByte x 10,by omega,by omega,by omega,⟨by rw [hx];exact h.1,by have h2:=h.2;omega⟩,fun w => (Tryz.strings_Count_one x 10 w).mono fun _ _ h => ⟨h.1,h.2.symm⟩,fun w => (Tryz.strings_LastIndexByte x 10 (by omega) w).mono fun _ _ h => ⟨h.1,h.2.symm⟩⟩
 by_cases h0:0<k
 ·obtain ⟨c,l,hc,hl1,hl2,HP,HC,HL⟩:=HX (s.extract 0 k) (by rw [ByteArray.size_extract];omega) (by simp [ByteArray.data_extract])
  have hz:(s.extract 0 k).size=k:=by rw [ByteArray.size_extract];omega
  have HZ:=Lib.hid hz
  clear HX hz
  go_enter Tryz.func31,Tryz.ntmps31
  go_wp2_with (first|(go_at_call 62;refine (HC _).out.mono ?_;rintro e w1 ⟨rfl,rfl⟩)|(go_at_call 63;refine (HL _).out.mono ?_;rintro e w1 ⟨rfl,rfl⟩))
  rw [HP.out.1,HP.out.2]
  exact bodyPost_ret (results_cell_row rfl _ _ w.heap.size 31 #[.int .i64 (1+(c:Int)),.int .i64 ((k:Int) - l)] (0,0) _ rfl (heap_alloc_new _ _) Tryz.underlying31 rfl (by kernel_rfl)) rfl ⟨rfl,(Below.refl _ _).alloc (Nat.le_refl _) _⟩
 ·obtain rfl:k=0:=by omega
  obtain ⟨c,l,hc,hl1,hl2,HP,HC,HL⟩:=HX ByteArray.empty rfl rfl
  clear HX
  go_enter Tryz.func31,Tryz.ntmps31
  go_wp2_with (first|(go_at_call 62;refine (HC _).out.mono ?_;rintro e w1 ⟨rfl,rfl⟩)|(go_at_call 63;refine (HL _).out.mono ?_;rintro e w1 ⟨rfl,rfl⟩))
  rw [HP.out.1,show ((place (s.data.toList.take 0)).2:Int)=-l from by have:=HP.out.2;omega]
  exact bodyPost_ret (results_cell_row rfl _ _ w.heap.size 31 #[.int .i64 (1+(c:Int)),.int .i64 (-l)] (0,0) _ rfl (heap_alloc_new _ _) Tryz.underlying31 rfl (by kernel_rfl)) rfl ⟨rfl,(Below.refl _ _).alloc (Nat.le_refl _) _⟩
end Go.Proofs.YtjiidlkkkednoaaGreatDoor.Q
end
