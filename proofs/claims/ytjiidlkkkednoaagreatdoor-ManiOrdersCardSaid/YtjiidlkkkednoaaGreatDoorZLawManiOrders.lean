/- transhumance/transhumancelaw9.ManiOrders answers true for every input,does not panic,and leaves its arguments as they were. Conditions: those of the given row (the listed package variables read as the program's text lays them;the row is tied to that text where a card is given). -/
import Derived.Test.YtjiidlkkkednoaaGreatDoorRows
import Derived.Test.YtjiidlkkkednoaaGreatDoorCards
import Derived.Test.YtjiidlkkkednoaaGreatDoorTie
import Derived.SevenTiedAt
import Derived.Test.YtjiidlkkkednoaaGreatDoorZQ27g
import Derived.Test.YtjiidlkkkednoaaGreatDoorZPureManiOrders
import Derived.WalkKit
import Derived.Test.YtjiidlkkkednoaaGreatDoorZR0g
import Derived.LaidMore
import Derived.Stop.Joined
import Derived.LaidOnce
import Derived.ProofKit
import Derived.OpenShut
import Derived.ShutString
import Derived.ChangeOld
import Derived.Below
import Derived.SizedLaws
import Derived.Test.YtjiidlkkkednoaaGreatDoorZW0
set_option linter.unusedSimpArgs false
namespace Go.Proofs.YtjiidlkkkednoaaGreatDoor.maniOrders
open Go.ChangeShapes Go.WideShapes Go.ChangeAt Go.RowKit
open Go.ChangeMaps (open_string shut_string)
set_option linter.unusedVariables false
theorem own:ownKnob Tryz.prog.godebug=none:=by kernel_rfl
theorem laidOut:laidOutB Tryz.prog=true:=by kernel_rfl
def IsRow (k:IntKind) (w:World) (a:Option Addr) (len cap:Nat) (zs:List Int):Prop :=
  (a=none∧len=0∧cap=0∧zs=[]) ∨
  ∃ x,a=some x∧len≤cap∧cap≤maxLen∧zs.length=cap∧(∀ i,i<zs.length→w.cell? (x.add i)=some (.int k (zs.getD i 0)))∧∀ n ∈ zs,(Lit.int k n).wf=true
noncomputable def door0 (os:Os):World:={ World.doorLaid Tryz.prog 34 os with heap:=(World.doorLaid Tryz.prog 34 os).heap.setIfInBounds 1 (.cells (Pinned.utf8FirstZ.map fun (z:Nat) => Value.int .u8 (z:Int)).toArray 147) }
theorem door_met (os:Os) (args:Array Value):laidMetH Tryz.prog Rows.maniOrdersRow.laid ((door0 os).forCall (fun _ _ => 0) ⟨#[],args,[]⟩).memory :=
  laidMetH_of_parts3 (fuel:=8) (laidMet_of_run' 8 (by kernel_rfl) (by kernel_rfl)) (by kernel_rfl) (by kernel_rfl)
set_option maxRecDepth 100000 in
theorem lifted (os:Os) (started:os.Started) (H:Type) (enc:TypeId × Value→H) :
    ReturnsInHanded {} Tryz.checked os 8 .any (fun w args => (Rows.maniOrdersSpec.pre enc Tryz.prog Tryz.f8 [] false w args∧laidMetH Tryz.prog Rows.maniOrdersRow.laid w)∧sizedMet enc Tryz.prog Tryz.f8 (OpenSpec.ofChange Rows.maniOrdersSpec) false w args)
      (Rows.maniOrdersSpec.post enc Tryz.prog Tryz.f8 false true false false):=by
  refine Q.returnsIn_shaped (C:=Tryz.checked) (X:=fun w => laidMetH Tryz.prog Rows.maniOrdersRow.laid w) (fun _ _ hh h => h.of_heap hh) own started (by kernel_rfl) Tryz.func8
    (ChangeSpec.witness_shaped (enc:=enc) (C:=Tryz.checked) (os:=os) (X:=fun w _ => laidMetH Tryz.prog Rows.maniOrdersRow.laid w) false (door0 os) #[.int .i64 0,.slice none 0 0] 8 rfl (World.shaped_of_RefB (by kernel_rfl) (by kernel_rfl)) (by kernel_rfl) (by kernel_rfl) (by kernel_rfl) (door_met os _)) ?_
  intro W base args ds gs before hval0 hW hcnd hsz0 hL_ hSh_
  have hsz:(DataW.weightsEach Tryz.prog (Tryz.f8.params.toList++Rows.maniOrdersSpec.plain.varTypes Tryz.prog) (ds++gs)).all (·≤reachBytes)=true:=hsz0
  have hval:∀ (j:Nat) t v,Tryz.f8.params[j]?=some t→args[j]?=some v→Value.okWide Tryz.prog W .any base t v:=hval0
  have hW':=hW
  obtain ⟨p,q,hA0,hV,rfl,hfz,hnd⟩:=hW
  have hA:DataW.TrodAll enc Tryz.prog W 0 (fun _ => true) true Tryz.f8.params.toList args.toList ds p:=hA0
  rw [Tryz.params8] at hA hval hsz
  obtain ⟨v0,vs0,d0,ds0,p0,q0,hargs,rfl,rfl,h0,r0⟩:=trodAll_cons hA
  obtain ⟨v1,vs1,d1,ds1,p1,q1,rfl,rfl,rfl,h1,r1⟩:=trodAll_cons r0
  obtain ⟨rfl,rfl,rfl⟩:=trodAll_nil r1
  obtain rfl:args=#[v0,v1]:=by cases args;simp_all
  obtain ⟨rfl,rfl⟩:=trodVars_none hV
  obtain ⟨a0,rfl,rfl,rfl,w0⟩:=open_int Tryz.underlying3 (hval 0 3 v0 rfl rfl) h0
  obtain ⟨a1,len1,cap1,rfl⟩:=okWide_slice Tryz.underlying22 (hval 1 22 v1 rfl rfl)
  have k1:=h1
  have lt1:∀ x ∈ p1,x.block<W.heap.size:=by obtain ⟨m,hm⟩:=k1;exact DataW.trod_lt m _ _ _ hm
  obtain ⟨z1,w1⟩:∃ zs,IsRow .i64 W a1 len1 cap1 zs:=by
    obtain ⟨fuel,hf⟩:=h1
    rcases open_ints Tryz.underlying22 Tryz.underlying3 (by kernel_rfl) hf with ⟨hcs,_⟩|⟨x,l,c,zs,hcs,_,hl,hm,hz,_,hcell,hwz⟩
    · simp [Value.cells] at hcs
      obtain ⟨rfl,rfl,rfl⟩:=hcs
      exact ⟨[],.inl ⟨rfl,rfl,rfl,rfl⟩⟩
    · simp [Value.cells] at hcs
      obtain ⟨rfl,rfl,rfl⟩:=hcs
      exact ⟨zs,.inr ⟨_,rfl,hl,hm,by simpa using hz,hcell,hwz⟩⟩
  have y1:len1 * 8≤140737488351232:=Go.Proofs.YtjiidlkkkednoaaGreatDoorW.PrintWords.sized_ints hsz (j:=1) (t:=22) rfl rfl Tryz.underlying22 Tryz.underlying3 (by kernel_rfl) (by kernel_rfl) h1
  have hG:Q.GL W:=Q.GL.shaped hSh_ hL_ (by kernel_rfl)
  clear hA0 hval0 hsz0 hsz hL_ hSh_
  refine (Q.transhumancelaw9_ManiOrders.walk Pure.ManiOrders a0 a1 len1 cap1 z1 W w0 w1 y1 hG).mono fun e W' ⟨he,bel⟩ => ?_
  subst he
  exact ⟨_,rfl,_,_,_,[],_,[],hW',trodAll_mk1 (shut_bool Tryz.underlying4 _),(trodAll_cons_mk (shut_int Tryz.underlying3 w0) (trodAll_cons_mk (Below.trod laidOut (by kernel_rfl) (of_decide_eq_true (by kernel_rfl)) k1 bel lt1) trodAll_mk0)),rfl,bel.frame _,fun h => by cases h⟩
theorem over:Rows.maniOrdersRow.holds Tryz.pinned (OpenSpec.ofChange Rows.maniOrdersSpec) :=
  OpenClaim.holds_of_wide 8 Tryz.f8 rfl rfl rfl rfl rfl rfl rfl ⟨rfl,rfl,rfl,rfl,rfl⟩ rfl rfl rfl rfl rfl (by kernel_rfl) Tryz.func8 (by kernel_rfl)
    (of_decide_eq_true (by kernel_rfl)) (by unfold Func.isWrapper;first|(rw [if_pos (by decide +kernel)];kernel_rfl)|(rw [if_neg (by decide +kernel)];exact ⟨rfl,rfl⟩))
    (fun os started H enc _ => lifted os started H enc)
theorem proved:Rows.ManiOrdersSaid:=over
end Go.Proofs.YtjiidlkkkednoaaGreatDoor.maniOrders
namespace Go.Proofs.YtjiidlkkkednoaaGreatDoor
open Go in
theorem maniOrders_holds:Rows.ManiOrdersCardSaid :=
  Claim7.holds_tied_plain_at .later [] [.data, .data, .data, .data, .pinned] true (true, "97fb5320168a45226bebfab5b6c216cdd8635eb1482a9393f7eb0e2f3d9644b3") false
    maniOrders.proved (fun _ h => by cases h) (by kernel_rfl) (fun _ h => by cases h) maniOrders_row_tie rfl ⟨rfl,rfl⟩ (by kernel_rfl) rfl
    (fun f fn hf hfn => by
      obtain rfl : f = 8 := Option.some.inj ((show Tryz.prog.funcNamed "transhumance/transhumancelaw9.ManiOrders" = some 8 by kernel_rfl).symm.trans hf) |>.symm
      obtain rfl:fn=Tryz.f8:=(Option.some.inj (Tryz.func8.symm.trans hfn)).symm
      exact ⟨by kernel_rfl,fun j t ht => by
        rw [Tryz.params8] at ht
        have hm:=Array.mem_of_getElem? ht
        have hall:(Tryz.f8.params.toList.all fun u => !Tryz.prog.wantsStandIn u)=true:=by kernel_rfl
        rw [Tryz.params8] at hall
        exact (show Tryz.prog.wantsStandIn t=false by simpa using List.all_eq_true.1 hall t (by simpa using hm))⟩)
    (by kernel_rfl)
end Go.Proofs.YtjiidlkkkednoaaGreatDoor
