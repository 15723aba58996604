/- transhumance/transhumancelaw7.DentReads answers true for every input,does not panic,and leaves its arguments as they were. Conditions: those of the given row (the listed package variables read as the program's text lays them;the row is tied to that text where a card is given). -/
import Derived.Test.YtjdjljgbfpkbdaaGreatDoorRows
import Derived.Test.YtjdjljgbfpkbdaaGreatDoorCards
import Derived.Test.YtjdjljgbfpkbdaaGreatDoorTie
import Derived.SevenTiedAt
import Derived.Test.YtjdjljgbfpkbdaaGreatDoorZQ25
import Derived.Test.YtjdjljgbfpkbdaaGreatDoorZPureDentReads
import Derived.WalkKit
import Derived.Test.YtjdjljgbfpkbdaaGreatDoorZEnv
import Derived.LaidMore
import Derived.Stop.Joined
import Derived.LaidOnce
import Derived.ProofKit
import Derived.OpenShut
import Derived.ShutString
import Derived.ChangeOld
import Derived.Below
import Derived.SizedLaws
import Derived.Test.YtjdjljgbfpkbdaaGreatDoorZW0
set_option linter.unusedSimpArgs false
namespace Go.Proofs.YtjdjljgbfpkbdaaGreatDoor.dentReads
open Go.ChangeShapes Go.WideShapes Go.ChangeAt Go.RowKit
open Go.ChangeMaps (open_string shut_string)
set_option linter.unusedVariables false
theorem own:ownKnob Tryz.prog.godebug=none:=by kernel_rfl
theorem laidOut:laidOutB Tryz.prog=true:=by kernel_rfl
def IsRow (k:IntKind) (w:World) (a:Option Addr) (len cap:Nat) (zs:List Int):Prop :=
  (a=none∧len=0∧cap=0∧zs=[]) ∨
  ∃ x,a=some x∧len≤cap∧cap≤maxLen∧zs.length=cap∧(∀ i,i<zs.length→w.cell? (x.add i)=some (.int k (zs.getD i 0)))∧∀ n ∈ zs,(Lit.int k n).wf=true
noncomputable def door0 (os:Os):World:={ World.doorLaid Tryz.prog 38 os with heap:=(World.doorLaid Tryz.prog 38 os).heap.setIfInBounds 1 (.cells (Pinned.utf8FirstZ.map fun (z:Nat) => Value.int .u8 (z:Int)).toArray 133) }
theorem door_met (os:Os) (args:Array Value):laidMetH Tryz.prog Rows.dentReadsRow.laid ((door0 os).forCall (fun _ _ => 0) ⟨#[],args,[]⟩).memory :=
  laidMetH_of_parts3 (fuel:=8) (laidMet_of_run' 8 (by kernel_rfl) (by kernel_rfl)) (by kernel_rfl) (by kernel_rfl)
set_option maxRecDepth 100000 in
theorem lifted (os:Os) (started:os.Started) (H:Type) (enc:TypeId × Value→H) :
    ReturnsInHanded {} Tryz.checked os 4 .any (fun w args => (Rows.dentReadsSpec.pre enc Tryz.prog Tryz.f4 [] false w args∧laidMetH Tryz.prog Rows.dentReadsRow.laid w)∧sizedMet enc Tryz.prog Tryz.f4 (OpenSpec.ofChange Rows.dentReadsSpec) false w args)
      (Rows.dentReadsSpec.post enc Tryz.prog Tryz.f4 false true false false):=by
  refine Q.returnsIn_shaped (C:=Tryz.checked) (X:=fun w => laidMetH Tryz.prog Rows.dentReadsRow.laid w) (fun _ _ hh h => h.of_heap hh) own started (by kernel_rfl) Tryz.func4
    (ChangeSpec.witness_shaped (enc:=enc) (C:=Tryz.checked) (os:=os) (X:=fun w _ => laidMetH Tryz.prog Rows.dentReadsRow.laid w) false (door0 os) #[.slice none 0 0,.slice none 0 0,.int .i64 0,.int .u8 0,.int .i64 0,.string ByteArray.empty,.string ByteArray.empty] 8 rfl (World.shaped_of_RefB (by kernel_rfl) (by kernel_rfl)) (by kernel_rfl) (by kernel_rfl) (by kernel_rfl) (door_met os _)) ?_
  intro W base args ds gs before hval0 hW hcnd hsz0 hL_ hSh_
  have hsz:(DataW.weightsEach Tryz.prog (Tryz.f4.params.toList++Rows.dentReadsSpec.plain.varTypes Tryz.prog) (ds++gs)).all (·≤reachBytes)=true:=hsz0
  have hval:∀ (j:Nat) t v,Tryz.f4.params[j]?=some t→args[j]?=some v→Value.okWide Tryz.prog W .any base t v:=hval0
  have hW':=hW
  obtain ⟨p,q,hA0,hV,rfl,hfz,hnd⟩:=hW
  have hA:DataW.TrodAll enc Tryz.prog W 0 (fun _ => true) true Tryz.f4.params.toList args.toList ds p:=hA0
  rw [Tryz.params4] at hA hval hsz
  obtain ⟨v0,vs0,d0,ds0,p0,q0,hargs,rfl,rfl,h0,r0⟩:=trodAll_cons hA
  obtain ⟨v1,vs1,d1,ds1,p1,q1,rfl,rfl,rfl,h1,r1⟩:=trodAll_cons r0
  obtain ⟨v2,vs2,d2,ds2,p2,q2,rfl,rfl,rfl,h2,r2⟩:=trodAll_cons r1
  obtain ⟨v3,vs3,d3,ds3,p3,q3,rfl,rfl,rfl,h3,r3⟩:=trodAll_cons r2
  obtain ⟨v4,vs4,d4,ds4,p4,q4,rfl,rfl,rfl,h4,r4⟩:=trodAll_cons r3
  obtain ⟨v5,vs5,d5,ds5,p5,q5,rfl,rfl,rfl,h5,r5⟩:=trodAll_cons r4
  obtain ⟨v6,vs6,d6,ds6,p6,q6,rfl,rfl,rfl,h6,r6⟩:=trodAll_cons r5
  obtain ⟨rfl,rfl,rfl⟩:=trodAll_nil r6
  obtain rfl:args=#[v0,v1,v2,v3,v4,v5,v6]:=by cases args;simp_all
  obtain ⟨rfl,rfl⟩:=trodVars_none hV
  obtain ⟨a0,len0,cap0,rfl⟩:=okWide_slice Tryz.underlying22 (hval 0 22 v0 rfl rfl)
  have k0:=h0
  have lt0:∀ x ∈ p0,x.block<W.heap.size:=by obtain ⟨m,hm⟩:=k0;exact DataW.trod_lt m _ _ _ hm
  obtain ⟨z0,w0⟩:∃ zs,IsRow .i64 W a0 len0 cap0 zs:=by
    obtain ⟨fuel,hf⟩:=h0
    rcases open_ints Tryz.underlying22 Tryz.underlying3 (by kernel_rfl) hf with ⟨hcs,_⟩|⟨x,l,c,zs,hcs,_,hl,hm,hz,_,hcell,hwz⟩
    · simp [Value.cells] at hcs
      obtain ⟨rfl,rfl,rfl⟩:=hcs
      exact ⟨[],.inl ⟨rfl,rfl,rfl,rfl⟩⟩
    · simp [Value.cells] at hcs
      obtain ⟨rfl,rfl,rfl⟩:=hcs
      exact ⟨zs,.inr ⟨_,rfl,hl,hm,by simpa using hz,hcell,hwz⟩⟩
  have y0:len0 * 8≤140737488351232:=Go.Proofs.YtjdjljgbfpkbdaaGreatDoorW.PrintWords.sized_ints hsz (j:=0) (t:=22) rfl rfl Tryz.underlying22 Tryz.underlying3 (by kernel_rfl) (by kernel_rfl) h0
  obtain ⟨a1,len1,cap1,rfl⟩:=okWide_slice Tryz.underlying23 (hval 1 23 v1 rfl rfl)
  have k1:=h1
  have lt1:∀ x ∈ p1,x.block<W.heap.size:=by obtain ⟨m,hm⟩:=k1;exact DataW.trod_lt m _ _ _ hm
  obtain ⟨z1,w1⟩:∃ zs,IsRow .u8 W a1 len1 cap1 zs:=by
    obtain ⟨fuel,hf⟩:=h1
    rcases open_ints Tryz.underlying23 Tryz.underlying5 (by kernel_rfl) hf with ⟨hcs,_⟩|⟨x,l,c,zs,hcs,_,hl,hm,hz,_,hcell,hwz⟩
    · simp [Value.cells] at hcs
      obtain ⟨rfl,rfl,rfl⟩:=hcs
      exact ⟨[],.inl ⟨rfl,rfl,rfl,rfl⟩⟩
    · simp [Value.cells] at hcs
      obtain ⟨rfl,rfl,rfl⟩:=hcs
      exact ⟨zs,.inr ⟨_,rfl,hl,hm,by simpa using hz,hcell,hwz⟩⟩
  have y1:len1 * 1≤140737488351232:=Go.Proofs.YtjdjljgbfpkbdaaGreatDoorW.PrintWords.sized_ints hsz (j:=1) (t:=23) rfl rfl Tryz.underlying23 Tryz.underlying5 (by kernel_rfl) (by kernel_rfl) h1
  obtain ⟨a2,rfl,rfl,rfl,w2⟩:=open_int Tryz.underlying3 (hval 2 3 v2 rfl rfl) h2
  obtain ⟨a3,rfl,rfl,rfl,w3⟩:=open_int Tryz.underlying5 (hval 3 5 v3 rfl rfl) h3
  obtain ⟨a4,rfl,rfl,rfl,w4⟩:=open_int Tryz.underlying3 (hval 4 3 v4 rfl rfl) h4
  obtain ⟨a5,rfl,rfl,rfl,y5⟩:=open_string Tryz.underlying9 (hval 5 9 v5 rfl rfl) h5
  have w5:a5.size≤140737488351232:=by
    have z:=sized_string hsz (j:=5) (t:=9) rfl rfl
    rw [Array.length_toList] at z
    exact z
  obtain ⟨a6,rfl,rfl,rfl,y6⟩:=open_string Tryz.underlying9 (hval 6 9 v6 rfl rfl) h6
  have w6:a6.size≤140737488351232:=by
    have z:=sized_string hsz (j:=6) (t:=9) rfl rfl
    rw [Array.length_toList] at z
    exact z
  have hG:Q.GL W:=Q.GL.shaped hSh_
  clear hA0 hval0 hsz0 hsz hL_ hSh_
  refine (Q.transhumancelaw7_DentReads.walk Pure.DentReads a0 len0 cap0 z0 a1 len1 cap1 z1 a2 a3 a4 a5 a6 W w0 y0 w1 y1 w2 w3 w4 w5 w6 hG).mono fun e W' ⟨he,bel⟩ => ?_
  subst he
  exact ⟨_,rfl,_,_,_,[],_,[],hW',trodAll_mk1 (shut_bool Tryz.underlying4 _),(trodAll_cons_mk (Below.trod laidOut (by kernel_rfl) (of_decide_eq_true (by kernel_rfl)) k0 bel lt0) (trodAll_cons_mk (Below.trod laidOut (by kernel_rfl) (of_decide_eq_true (by kernel_rfl)) k1 bel lt1) (trodAll_cons_mk (shut_int Tryz.underlying3 w2) (trodAll_cons_mk (shut_int Tryz.underlying5 w3) (trodAll_cons_mk (shut_int Tryz.underlying3 w4) (trodAll_cons_mk (shut_string Tryz.underlying9 y5) (trodAll_cons_mk (shut_string Tryz.underlying9 y6) trodAll_mk0))))))),rfl,bel.frame _,fun h => by cases h⟩
theorem over:Rows.dentReadsRow.holds Tryz.pinned (OpenSpec.ofChange Rows.dentReadsSpec) :=
  OpenClaim.holds_of_wide 4 Tryz.f4 rfl rfl rfl rfl rfl rfl rfl ⟨rfl,rfl,rfl,rfl,rfl⟩ rfl rfl rfl rfl rfl (by kernel_rfl) Tryz.func4 (by kernel_rfl)
    (of_decide_eq_true (by kernel_rfl)) (by unfold Func.isWrapper;first|(rw [if_pos (by decide +kernel)];kernel_rfl)|(rw [if_neg (by decide +kernel)];exact ⟨rfl,rfl⟩))
    (fun os started H enc _ => lifted os started H enc)
theorem proved:Rows.DentReadsSaid:=over
end Go.Proofs.YtjdjljgbfpkbdaaGreatDoor.dentReads
namespace Go.Proofs.YtjdjljgbfpkbdaaGreatDoor
open Go in
theorem dentReads_holds:Rows.DentReadsCardSaid :=
  Claim7.holds_tied_plain_at .later [] [.data, .sentinel, .pinned] true (true, "79b90cee949c2ffbee56e998a4f4fd1153c0c6b497245dba409a3ad60fcc44c1") false
    dentReads.proved (fun _ h => by cases h) (by kernel_rfl) (fun _ h => by cases h) dentReads_row_tie rfl ⟨rfl,rfl⟩ (by kernel_rfl) rfl
    (fun f fn hf hfn => by
      obtain rfl : f = 4 := Option.some.inj ((show Tryz.prog.funcNamed "transhumance/transhumancelaw7.DentReads" = some 4 by kernel_rfl).symm.trans hf) |>.symm
      obtain rfl:fn=Tryz.f4:=(Option.some.inj (Tryz.func4.symm.trans hfn)).symm
      exact ⟨by kernel_rfl,fun j t ht => by
        rw [Tryz.params4] at ht
        have hm:=Array.mem_of_getElem? ht
        have hall:(Tryz.f4.params.toList.all fun u => !Tryz.prog.wantsStandIn u)=true:=by kernel_rfl
        rw [Tryz.params4] at hall
        exact (show Tryz.prog.wantsStandIn t=false by simpa using List.all_eq_true.1 hall t (by simpa using hm))⟩)
    (by kernel_rfl)
end Go.Proofs.YtjdjljgbfpkbdaaGreatDoor
