/- DentLacks answers true for every input: plain part, over what the program's dent.Locks computes. -/
import Derived.Test.YtghencpiejbecaaDoorZDk
import Derived.Test.YtghencpiejbecaaDoorZQ5
set_option linter.unusedVariables false
set_option linter.unusedSimpArgs false
namespace Go.Proofs.YtghencpiejbecaaDoor.Pure
open Go.RowKit Go.Proofs.YtghencpiejbecaaDoor.Q Go.Proofs.YtghencpiejbecaaDoorW.PrintWords Go.Proofs.YtghencpiejbecaaDoorW.PrintLast
theorem lacks_same {a z : Int} (h : transhumancelaw7_within.f a 5 = transhumancelaw7_within.f z 5) : ∀ (k : Nat) (x1 : Bool) (x7 : Int) (s : ByteArray) (i : Int), transhumancelaw7_DentLacks.l0 k x1 a x7 s i = transhumancelaw7_DentLacks.l0 k x1 z x7 s i
  | 0, _, _, _, _ => by rw [transhumancelaw7_DentLacks.l0.eq_1, transhumancelaw7_DentLacks.l0.eq_1]
  | k + 1, x1, x7, s, i => by
    rw [transhumancelaw7_DentLacks.l0.eq_2, transhumancelaw7_DentLacks.l0.eq_2, h]
    simp only [lacks_same h k]
set_option maxRecDepth 1000000 in
theorem lacks_all : ∀ (x : Fin 4) (b : Bool) (z : Fin 5), transhumancelaw7_DentLacks.f 300 (x.val : Int) b (z.val : Int) = some true := by decide +kernel
theorem DentLacks : transhumancelaw7_DentLacks.Pure := by
  intro a0 a1 a2 _ _
  obtain ⟨x, hx⟩ := win_fin a0 4 (by decide)
  obtain ⟨z, hz⟩ := win_fin a2 5 (by decide)
  have e0 : transhumancelaw7_within.f a0 4 = transhumancelaw7_within.f (x.val : Int) 4 := by
    rw [within_f a0 4 (by decide) (by decide), show win a0 4 = (x.val : Int) from hx]
    exact (by decide +kernel : ∀ x : Fin 4, some ((x.val : Int)) = transhumancelaw7_within.f (x.val : Int) 4) x
  have e2 : transhumancelaw7_within.f a2 5 = transhumancelaw7_within.f (z.val : Int) 5 := by
    rw [within_f a2 5 (by decide) (by decide), show win a2 5 = (z.val : Int) from hz]
    exact (by decide +kernel : ∀ x : Fin 5, some ((x.val : Int)) = transhumancelaw7_within.f (x.val : Int) 5) z
  refine ⟨300, ?_⟩
  rw [← lacks_all x a1 z]
  unfold transhumancelaw7_DentLacks.f
  rw [e0]
  simp only [lacks_same e2]
end Go.Proofs.YtghencpiejbecaaDoor.Pure
