/- transhumance/transhumancelaw7.DentValues answers true for every input,does not panic,and leaves its arguments as they were. Conditions: those of the given row (the listed package variables read as the program's text lays them;the row is tied to that text where a card is given). -/
import Derived.Test.YtjdjljgbfpkbdaaGreatDoorRows
import Derived.Test.YtjdjljgbfpkbdaaGreatDoorCards
import Derived.Test.YtjdjljgbfpkbdaaGreatDoorTie
import Derived.SevenTiedAt
import Derived.Test.YtjdjljgbfpkbdaaGreatDoorZQ26
import Derived.Test.YtjdjljgbfpkbdaaGreatDoorZPureDentValues
import Derived.WalkKit
import Derived.Test.YtjdjljgbfpkbdaaGreatDoorZEnv
import Derived.LaidMore
import Derived.Stop.Joined
import Derived.LaidOnce
import Derived.ProofKit
import Derived.OpenShut
import Derived.ShutString
import Derived.ChangeOld
import Derived.Below
import Derived.SizedLaws
import Derived.Test.YtjdjljgbfpkbdaaGreatDoorZW0
set_option linter.unusedSimpArgs false
namespace Go.Proofs.YtjdjljgbfpkbdaaGreatDoor.dentValues
open Go.ChangeShapes Go.WideShapes Go.ChangeAt Go.RowKit
open Go.ChangeMaps (open_string shut_string)
set_option linter.unusedVariables false
theorem own:ownKnob Tryz.prog.godebug=none:=by kernel_rfl
theorem laidOut:laidOutB Tryz.prog=true:=by kernel_rfl
def IsRow (k:IntKind) (w:World) (a:Option Addr) (len cap:Nat) (zs:List Int):Prop :=
  (a=none∧len=0∧cap=0∧zs=[]) ∨
  ∃ x,a=some x∧len≤cap∧cap≤maxLen∧zs.length=cap∧(∀ i,i<zs.length→w.cell? (x.add i)=some (.int k (zs.getD i 0)))∧∀ n ∈ zs,(Lit.int k n).wf=true
noncomputable def door0 (os:Os):World:={ World.doorLaid Tryz.prog 38 os with heap:=(World.doorLaid Tryz.prog 38 os).heap.setIfInBounds 1 (.cells (Pinned.utf8FirstZ.map fun (z:Nat) => Value.int .u8 (z:Int)).toArray 133) }
theorem door_met (os:Os) (args:Array Value):laidMetH Tryz.prog Rows.dentValuesRow.laid ((door0 os).forCall (fun _ _ => 0) ⟨#[],args,[]⟩).memory :=
  laidMetH_of_parts3 (fuel:=8) (laidMet_of_run' 8 (by kernel_rfl) (by kernel_rfl)) (by kernel_rfl) (by kernel_rfl)
set_option maxRecDepth 100000 in
theorem lifted (os:Os) (started:os.Started) (H:Type) (enc:TypeId × Value→H) :
    ReturnsInHanded {} Tryz.checked os 5 .any (fun w args => (Rows.dentValuesSpec.pre enc Tryz.prog Tryz.f5 [] false w args∧laidMetH Tryz.prog Rows.dentValuesRow.laid w)∧sizedMet enc Tryz.prog Tryz.f5 (OpenSpec.ofChange Rows.dentValuesSpec) false w args)
      (Rows.dentValuesSpec.post enc Tryz.prog Tryz.f5 false true false false):=by
  refine Q.returnsIn_shaped (C:=Tryz.checked) (X:=fun w => laidMetH Tryz.prog Rows.dentValuesRow.laid w) (fun _ _ hh h => h.of_heap hh) own started (by kernel_rfl) Tryz.func5
    (ChangeSpec.witness_shaped (enc:=enc) (C:=Tryz.checked) (os:=os) (X:=fun w _ => laidMetH Tryz.prog Rows.dentValuesRow.laid w) false (door0 os) #[.slice none 0 0,.bool false] 8 rfl (World.shaped_of_RefB (by kernel_rfl) (by kernel_rfl)) (by kernel_rfl) (by kernel_rfl) (by kernel_rfl) (door_met os _)) ?_
  intro W base args ds gs before hval0 hW hcnd hsz0 hL_ hSh_
  have hsz:(DataW.weightsEach Tryz.prog (Tryz.f5.params.toList++Rows.dentValuesSpec.plain.varTypes Tryz.prog) (ds++gs)).all (·≤reachBytes)=true:=hsz0
  have hval:∀ (j:Nat) t v,Tryz.f5.params[j]?=some t→args[j]?=some v→Value.okWide Tryz.prog W .any base t v:=hval0
  have hW':=hW
  obtain ⟨p,q,hA0,hV,rfl,hfz,hnd⟩:=hW
  have hA:DataW.TrodAll enc Tryz.prog W 0 (fun _ => true) true Tryz.f5.params.toList args.toList ds p:=hA0
  rw [Tryz.params5] at hA hval hsz
  obtain ⟨v0,vs0,d0,ds0,p0,q0,hargs,rfl,rfl,h0,r0⟩:=trodAll_cons hA
  obtain ⟨v1,vs1,d1,ds1,p1,q1,rfl,rfl,rfl,h1,r1⟩:=trodAll_cons r0
  obtain ⟨rfl,rfl,rfl⟩:=trodAll_nil r1
  obtain rfl:args=#[v0,v1]:=by cases args;simp_all
  obtain ⟨rfl,rfl⟩:=trodVars_none hV
  obtain ⟨a0,len0,cap0,rfl⟩:=okWide_slice Tryz.underlying23 (hval 0 23 v0 rfl rfl)
  have k0:=h0
  have lt0:∀ x ∈ p0,x.block<W.heap.size:=by obtain ⟨m,hm⟩:=k0;exact DataW.trod_lt m _ _ _ hm
  obtain ⟨z0,w0⟩:∃ zs,IsRow .u8 W a0 len0 cap0 zs:=by
    obtain ⟨fuel,hf⟩:=h0
    rcases open_ints Tryz.underlying23 Tryz.underlying5 (by kernel_rfl) hf with ⟨hcs,_⟩|⟨x,l,c,zs,hcs,_,hl,hm,hz,_,hcell,hwz⟩
    · simp [Value.cells] at hcs
      obtain ⟨rfl,rfl,rfl⟩:=hcs
      exact ⟨[],.inl ⟨rfl,rfl,rfl,rfl⟩⟩
    · simp [Value.cells] at hcs
      obtain ⟨rfl,rfl,rfl⟩:=hcs
      exact ⟨zs,.inr ⟨_,rfl,hl,hm,by simpa using hz,hcell,hwz⟩⟩
  have y0:len0 * 1≤140737488351232:=Go.Proofs.YtjdjljgbfpkbdaaGreatDoorW.PrintWords.sized_ints hsz (j:=0) (t:=23) rfl rfl Tryz.underlying23 Tryz.underlying5 (by kernel_rfl) (by kernel_rfl) h0
  obtain ⟨a1,rfl,rfl,rfl⟩:=open_bool Tryz.underlying4 (hval 1 4 v1 rfl rfl) h1
  have hG:Q.GL W:=Q.GL.shaped hSh_
  clear hA0 hval0 hsz0 hsz hL_ hSh_
  refine (Q.transhumancelaw7_DentValues.walk Pure.DentValues a0 len0 cap0 z0 a1 W w0 y0 hG).mono fun e W' ⟨he,bel⟩ => ?_
  subst he
  exact ⟨_,rfl,_,_,_,[],_,[],hW',trodAll_mk1 (shut_bool Tryz.underlying4 _),(trodAll_cons_mk (Below.trod laidOut (by kernel_rfl) (of_decide_eq_true (by kernel_rfl)) k0 bel lt0) (trodAll_cons_mk (shut_bool Tryz.underlying4 _) trodAll_mk0)),rfl,bel.frame _,fun h => by cases h⟩
theorem over:Rows.dentValuesRow.holds Tryz.pinned (OpenSpec.ofChange Rows.dentValuesSpec) :=
  OpenClaim.holds_of_wide 5 Tryz.f5 rfl rfl rfl rfl rfl rfl rfl ⟨rfl,rfl,rfl,rfl,rfl⟩ rfl rfl rfl rfl rfl (by kernel_rfl) Tryz.func5 (by kernel_rfl)
    (of_decide_eq_true (by kernel_rfl)) (by unfold Func.isWrapper;first|(rw [if_pos (by decide +kernel)];kernel_rfl)|(rw [if_neg (by decide +kernel)];exact ⟨rfl,rfl⟩))
    (fun os started H enc _ => lifted os started H enc)
theorem proved:Rows.DentValuesSaid:=over
end Go.Proofs.YtjdjljgbfpkbdaaGreatDoor.dentValues
namespace Go.Proofs.YtjdjljgbfpkbdaaGreatDoor
open Go in
theorem dentValues_holds:Rows.DentValuesCardSaid :=
  Claim7.holds_tied_plain_at .later [] [.data, .sentinel, .pinned] true (true, "79b90cee949c2ffbee56e998a4f4fd1153c0c6b497245dba409a3ad60fcc44c1") false
    dentValues.proved (fun _ h => by cases h) (by kernel_rfl) (fun _ h => by cases h) dentValues_row_tie rfl ⟨rfl,rfl⟩ (by kernel_rfl) rfl
    (fun f fn hf hfn => by
      obtain rfl : f = 5 := Option.some.inj ((show Tryz.prog.funcNamed "transhumance/transhumancelaw7.DentValues" = some 5 by kernel_rfl).symm.trans hf) |>.symm
      obtain rfl:fn=Tryz.f5:=(Option.some.inj (Tryz.func5.symm.trans hfn)).symm
      exact ⟨by kernel_rfl,fun j t ht => by
        rw [Tryz.params5] at ht
        have hm:=Array.mem_of_getElem? ht
        have hall:(Tryz.f5.params.toList.all fun u => !Tryz.prog.wantsStandIn u)=true:=by kernel_rfl
        rw [Tryz.params5] at hall
        exact (show Tryz.prog.wantsStandIn t=false by simpa using List.all_eq_true.1 hall t (by simpa using hm))⟩)
    (by kernel_rfl)
end Go.Proofs.YtjdjljgbfpkbdaaGreatDoor
