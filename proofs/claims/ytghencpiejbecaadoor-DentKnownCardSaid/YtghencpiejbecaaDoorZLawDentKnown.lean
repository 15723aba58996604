/- transhumance/transhumancelaw7.DentKnown answers true for every input, does not panic, and leaves its arguments as they were. Conditions: those of the given row (the listed package variables read as the program's text lays them; the row is tied to that text where a card is given). -/
import Derived.Test.YtghencpiejbecaaDoorRows
import Derived.Test.YtghencpiejbecaaDoorCards
import Derived.Test.YtghencpiejbecaaDoorTie
import Derived.SevenTiedAt
import Derived.Test.YtghencpiejbecaaDoorZQ9
import Derived.Test.YtghencpiejbecaaDoorZPureDentKnown
import Derived.WalkKit
import Derived.Test.YtghencpiejbecaaDoorZEnv
import Derived.LaidMore
import Derived.Stop.Joined
import Derived.LaidOnce
import Derived.ProofKit
import Derived.OpenShut
import Derived.ShutString
import Derived.ChangeOld
import Derived.Below
import Derived.SizedLaws
set_option linter.unusedSimpArgs false
namespace Go.Proofs.YtghencpiejbecaaDoor.dentKnown
open Go.ChangeShapes Go.WideShapes Go.ChangeAt Go.RowKit
open Go.ChangeMaps (open_string shut_string)
set_option linter.unusedVariables false
theorem own : ownKnob Tryd.prog.godebug = none := by kernel_rfl
noncomputable def door0 (os : Os) : World := { World.doorLaid Tryd.prog 38 os with heap := (World.doorLaid Tryd.prog 38 os).heap.setIfInBounds 1 (.cells (Pinned.utf8FirstZ.map fun (z : Nat) => Value.int .u8 (z : Int)).toArray 105) }
theorem door_met (os : Os) (args : Array Value) : laidMetH Tryd.prog Rows.dentKnownRow.laid ((door0 os).forCall (fun _ _ => 0) ⟨#[], args, []⟩).memory :=
  laidMetH_of_parts3 (fuel := 8) (laidMet_of_run' 8 (by kernel_rfl) (by kernel_rfl)) (by kernel_rfl) (by kernel_rfl)
set_option maxRecDepth 100000 in
theorem lifted (os : Os) (started : os.Started) (H : Type) (enc : TypeId × Value → H) :
    ReturnsInHanded {} Tryd.checked os 4 .any (fun w args => (Rows.dentKnownSpec.pre enc Tryd.prog Tryd.f4 [] false w args ∧ laidMetH Tryd.prog Rows.dentKnownRow.laid w) ∧ sizedMet enc Tryd.prog Tryd.f4 (OpenSpec.ofChange Rows.dentKnownSpec) false w args)
      (Rows.dentKnownSpec.post enc Tryd.prog Tryd.f4 false true false false) := by
  refine Q.returnsIn_shaped (C := Tryd.checked) (X := fun w => laidMetH Tryd.prog Rows.dentKnownRow.laid w) (fun _ _ hh h => h.of_heap hh) own started (by kernel_rfl) Tryd.func4
    (ChangeSpec.witness_shaped (enc := enc) (C := Tryd.checked) (os := os) (X := fun w _ => laidMetH Tryd.prog Rows.dentKnownRow.laid w) false (door0 os) #[.int .i64 0] 8 rfl (World.shaped_of_RefB (by kernel_rfl) (by kernel_rfl)) (by kernel_rfl) (by kernel_rfl) (by kernel_rfl) (door_met os _)) ?_
  intro W base args ds gs before hval0 hW hcnd hsz0 hL_ hSh_
  have hsz : (DataW.weightsEach Tryd.prog (Tryd.f4.params.toList ++ Rows.dentKnownSpec.plain.varTypes Tryd.prog) (ds ++ gs)).all (· ≤ reachBytes) = true := hsz0
  have hval : ∀ (j : Nat) t v, Tryd.f4.params[j]? = some t → args[j]? = some v → Value.okWide Tryd.prog W .any base t v := hval0
  have hW' := hW
  obtain ⟨p, q, hA0, hV, rfl, hfz, hnd⟩ := hW
  have hA : DataW.TrodAll enc Tryd.prog W 0 (fun _ => true) true Tryd.f4.params.toList args.toList ds p := hA0
  rw [Tryd.params4] at hA hval hsz
  obtain ⟨v0, vs0, d0, ds0, p0, q0, hargs, rfl, rfl, h0, r0⟩ := trodAll_cons hA
  obtain ⟨rfl, rfl, rfl⟩ := trodAll_nil r0
  obtain rfl : args = #[v0] := by cases args; simp_all
  obtain ⟨rfl, rfl⟩ := trodVars_none hV
  obtain ⟨a0, rfl, rfl, rfl, w0⟩ := open_int Tryd.underlying3 (hval 0 3 v0 rfl rfl) h0
  have hG : Q.GL W := Q.GL.shaped hSh_
  clear hA0 hval0 hsz0 hsz hL_ hSh_
  refine (Q.transhumancelaw7_DentKnown.walk Pure.DentKnown a0 W w0 hG).mono fun e W' ⟨he, bel⟩ => ?_
  subst he
  exact ⟨_, rfl, _, _, _, [], _, [], hW', trodAll_mk1 (shut_bool Tryd.underlying4 _), (trodAll_cons_mk (shut_int Tryd.underlying3 w0) trodAll_mk0), rfl, bel.frame _, fun h => by cases h⟩
theorem over : Rows.dentKnownRow.holds Tryd.pinned (OpenSpec.ofChange Rows.dentKnownSpec) :=
  OpenClaim.holds_of_wide 4 Tryd.f4 rfl rfl rfl rfl rfl rfl rfl ⟨rfl, rfl, rfl, rfl, rfl⟩ rfl rfl rfl rfl rfl (by kernel_rfl) Tryd.func4 (by kernel_rfl)
    (of_decide_eq_true (by kernel_rfl)) (by unfold Func.isWrapper; first | (rw [if_pos (by decide +kernel)]; kernel_rfl) | (rw [if_neg (by decide +kernel)]; exact ⟨rfl, rfl⟩))
    (fun os started H enc _ => lifted os started H enc)
theorem proved : Rows.DentKnownSaid := over
end Go.Proofs.YtghencpiejbecaaDoor.dentKnown
namespace Go.Proofs.YtghencpiejbecaaDoor
open Go in
theorem dentKnown_holds : Rows.DentKnownCardSaid :=
  Claim7.holds_tied_plain_at .later [] [.data, .sentinel, .pinned] true (true, "9ba9119066cf4282534b15322620dabb1ec517371321696c5dac3b8bbc68c77d") false
    dentKnown.proved (fun _ h => by cases h) (by kernel_rfl) (fun _ h => by cases h) dentKnown_row_tie rfl ⟨rfl, rfl⟩ (by kernel_rfl) rfl
    (fun f fn hf hfn => by
      obtain rfl : f = 4 := Option.some.inj ((show Tryd.prog.funcNamed "transhumance/transhumancelaw7.DentKnown" = some 4 by kernel_rfl).symm.trans hf) |>.symm
      obtain rfl : fn = Tryd.f4 := (Option.some.inj (Tryd.func4.symm.trans hfn)).symm
      exact ⟨by kernel_rfl, fun j t ht => by
        rw [Tryd.params4] at ht
        have hm := Array.mem_of_getElem? ht
        have hall : (Tryd.f4.params.toList.all fun u => !Tryd.prog.wantsStandIn u) = true := by kernel_rfl
        rw [Tryd.params4] at hall
        exact (show Tryd.prog.wantsStandIn t = false by simpa using List.all_eq_true.1 hall t (by simpa using hm))⟩)
    (by kernel_rfl)
end Go.Proofs.YtghencpiejbecaaDoor
