import Derived.Test.YtjdjljgbfpkbdaaGreatDoorZEv
import Derived.Test.YtjdjljgbfpkbdaaGreatDoorZCutg
import Derived.Test.YtjdjljgbfpkbdaaGreatDoorZR1g
import Derived.Test.YtjdjljgbfpkbdaaGreatDoorZShelf
import Derived.Test.YtjdjljgbfpkbdaaGreatDoorZQ4g
import Derived.Lib.ConvBytes
set_option linter.unusedVariables false
set_option linter.unusedSimpArgs false
namespace Go.Proofs.YtjdjljgbfpkbdaaGreatDoor.Q
open Go.RowKit Go.Proofs.YtjdjljgbfpkbdaaGreatDoorW.PrintWords Go.Proofs.YtjdjljgbfpkbdaaGreatDoorW.PrintLast Go.Proofs.YtjdjljgbfpkbdaaGreatDoorW.PrintMore
def turnL (s:ByteArray) (k:Nat) (b:Int):List Int:=(R.nats s.data.toList).set k ((((s.data[k]?.getD 0).toNat:Int)+b) % 256)
def transhumancelaw7_turned.f (a0:ByteArray) (a1 a2:Int):Option ByteArray :=
 if a0.size≤1000000 then (if a0.size=0 then some a0 else some (strOfNums (turnL a0 (win a1 a0.size).toNat a2))) else none
theorem turned_some (s:ByteArray) (a b:Int) (hs:s.size≤1000000):∃ q,transhumancelaw7_turned.f s a b=some q∧q.size≤1000000:=by
 unfold transhumancelaw7_turned.f
 rw [if_pos hs]
 split
 ·exact ⟨s,rfl,hs⟩
 ·refine ⟨_,rfl,?_⟩
  rw [strOfNums_size]
  simp [turnL,R.nats,hs]
theorem tw_within (a n:Int) (hn:0<n) (hn2:n≤4611686018427387904):transhumancelaw7_within.f a n=some (win a n):=by
 unfold transhumancelaw7_within.f win
 rw [if_neg (by omega)]
 have h1:=Int.tmod_lt_of_pos a hn
 have h2:-n<Int.tmod a n:=by
  have:=Int.tmod_lt_of_pos (-a) hn
  rw [Int.neg_tmod] at this
  omega
 split
 ·congr 1
  unfold wrap64
  omega
 ·rfl
set_option maxHeartbeats 1000000 in
set_option maxRecDepth 100000 in
theorem turned_calls (s:ByteArray) (a b:Int) (w:World) (hs:s.size≤1000000) (hz:0<s.size) :
  Calls Tryz.prog 15 #[.string s,.int .i64 a,.int .u8 b] w fun e w' => e=.returned (.string (strOfNums (turnL s (win a s.size).toNat b)))∧Below w.heap.size w w':=by
 have kc:=fun (w:World) => Lib.run_convert_string_bytes (P:=Tryz.prog) w 9 23 5 s Tryz.underlying9 Tryz.underlying23 Tryz.underlying5
 have hne:s.toList.isEmpty=false:=by
  rw [Lib.toList_data,List.isEmpty_eq_false_iff]
  intro h
  have h0:s.data.toList.length=0:=by rw [h];rfl
  have h1:s.data.toList.length=s.size:=rfl
  omega
 have HW:=Lib.hid (fun w => transhumancelaw7_within.calls a s.size _ w (tw_within a s.size (by omega) (by omega)))
 go_enter Tryz.func15,Tryz.ntmps15
 go_wp2_with (fail)
 refine (HW.out _).mono ?_
 rintro e w1 ⟨rfl,⟨n,rfl⟩⟩
 obtain ⟨b1,b2⟩:=win_bd a s.size (by omega)
 generalize hcw:win a s.size=c at *
 obtain ⟨c,rfl⟩:∃ m:Nat,c=m:=⟨c.toNat,by omega⟩
 have HCW:=Lib.hid hcw
 clear hcw
 have k0:=Lib.bytesWorld_cell w 5 s c (by omega)
 have i1:(0:Int)≤(c:Int)∧(c:Int)<(s.size:Int):=⟨b1,b2⟩
 have hz2:c<(Lib.bytesCells w 5 s).size:=by
  unfold Lib.bytesCells
  rw [Array.size_append,Array.size_map]
  have:s.data.size=s.size:=rfl
  omega
 have f0:(Lib.bytesWorld w 5 s).frozen? ⟨w.heap.size,c,none⟩=false:=by
  simp only [World.frozen?,Lib.bytesWorld_at_new]
  simp
  omega
 go_upto_region 5 with (fail)
 have hc:∀ i,i<s.size→((((Lib.bytesWorld w 5 s).drewN n).setCell ⟨w.heap.size,c,none⟩ (.int .u8 ((((s.data[c]?.getD 0).toNat:Int)+b) % 256))).cell? ⟨w.heap.size,0+i,none⟩=some (.int .u8 ((turnL s c b).getD i 0))):=by
  intro i hi
  rw [Nat.zero_add]
  have hl:(R.nats s.data.toList).length=s.size:=by rw [R.nats_length];rfl
  by_cases h:i=c
  ·subst h
   rw [World.cell?_setCell_same (w:=(Lib.bytesWorld w 5 s).drewN n) (u:=.int .u8 (s.data.toList.getD i 0).toNat) (h:=k0)]
   unfold turnL
   rw [List.getD_eq_getElem?_getD,List.getElem?_set_self (by omega)]
   rfl
  ·rw [World.cell?_setCell_other (a:=⟨w.heap.size,c,none⟩) (b:=⟨w.heap.size,i,none⟩) (h:=fun e => h (congrArg Addr.off e).symm)]
   have hk:=Lib.bytesWorld_cell w 5 s i hi
   have e:(turnL s c b).getD i 0=((s.data.toList.getD i 0).toNat:Int):=by
    unfold turnL
    rw [List.getD_eq_getElem?_getD,List.getElem?_set_ne (fun e => h e.symm),List.getD_eq_getElem?_getD]
    unfold R.nats
    rw [List.getElem?_map,List.getElem?_eq_getElem (by rw [Array.length_toList];exact hi)]
    rfl
   rw [e]
   exact hk
 have hb:Below w.heap.size w (((Lib.bytesWorld w 5 s).drewN n).setCell ⟨w.heap.size,c,none⟩ (.int .u8 ((((s.data[c]?.getD 0).toNat:Int)+b) % 256))) :=
  (pw_below_drewN (bytes_below (Below.refl w.heap.size w) (Nat.le_refl _) 5 s) n).setCell (p:=⟨w.heap.size,c,none⟩) (Nat.le_refl _) _
 clear k0 f0 kc
 generalize ((Lib.bytesWorld w 5 s).drewN n).setCell ⟨w.heap.size,c,none⟩ (.int .u8 ((((s.data[c]?.getD 0).toNat:Int)+b) % 256))=W at *
 have kd:=run_convert_bytes_arg (P:=Tryz.prog) W 23 5 Tryz.underlying23 Tryz.underlying5 w.heap.size 0 s.size (grownCap w s.size 0 5) (turnL s c b) (by unfold turnL;rw [List.length_set,R.nats_length];rfl) hc 9 Tryz.underlying9
 have HBB:=Lib.hid hb
 clear hc hb
 go_wp2_with (fail)
 go_ret
 exact ⟨by rw [HCW.out];rfl,HBB.out⟩
theorem transhumancelaw7_turned.calls (a0:ByteArray) (a1:Int) (a2:Int) (r:ByteArray) (w:World) (h:transhumancelaw7_turned.f a0 a1 a2=some r) :
  Calls Tryz.prog 15 #[.string a0,.int .i64 a1,.int .u8 a2] w fun e w' => e=.returned (.string r)∧Below w.heap.size w w':=by
 unfold transhumancelaw7_turned.f at h
 split at h
 ·next hs =>
  split at h
  ·next hz =>
   obtain rfl:=Option.some.inj h
   have hne:a0.toList.isEmpty=true:=by
    rw [Lib.toList_data,List.isEmpty_iff]
    exact List.eq_nil_of_length_eq_zero (by simpa using hz)
   clear h
   go_enter Tryz.func15,Tryz.ntmps15
   go_wp2_with (fail)
   go_ret
   exact ⟨rfl,Below.refl _ _⟩
  ·next hz =>
   obtain rfl:=Option.some.inj h
   exact turned_calls a0 a1 a2 w hs (by omega)
 ·cases h
end Go.Proofs.YtjdjljgbfpkbdaaGreatDoor.Q
