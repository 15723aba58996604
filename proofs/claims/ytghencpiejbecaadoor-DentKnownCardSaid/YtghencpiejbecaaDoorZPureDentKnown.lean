/- DentKnown answers true for every input: plain part, over what the program's dent.Locks computes. -/
import Derived.Test.YtghencpiejbecaaDoorZDk
import Derived.Test.YtghencpiejbecaaDoorZQ9
set_option linter.unusedVariables false
set_option linter.unusedSimpArgs false
namespace Go.Proofs.YtghencpiejbecaaDoor.Pure
open Go.RowKit Go.Proofs.YtghencpiejbecaaDoor.Q Go.Proofs.YtghencpiejbecaaDoorW.PrintWords Go.Proofs.YtghencpiejbecaaDoorW.PrintLast
set_option maxRecDepth 1000000 in
theorem DentKnown : transhumancelaw7_DentKnown.Pure := by
  intro a0 _
  obtain ⟨x, hx⟩ := win_fin a0 17 (by decide)
  have hw : transhumancelaw7_within.f a0 17 = some (x.val : Int) := (within_f a0 17 (by decide) (by decide)).trans (congrArg some hx)
  unfold transhumancelaw7_DentKnown.f
  rw [known_true]
  simp only [Option.bind_some, if_true]
  generalize hgen : transhumancelaw7_within.f a0 _ = t
  have ht : t = some (x.val : Int) := hgen.symm.trans hw
  subst ht
  clear hgen hw hx
  revert x
  decide +kernel
end Go.Proofs.YtghencpiejbecaaDoor.Pure
