import Derived.Test.YtghencpiejbecaaDoorZQ0
import Derived.Test.YtghencpiejbecaaDoorZBase
set_option linter.unusedVariables false
set_option linter.unusedSimpArgs false
namespace Go.Proofs.YtghencpiejbecaaDoor.Q
open Go.RowKit Go.Proofs.YtghencpiejbecaaDoorW.PrintWords Go.Proofs.YtghencpiejbecaaDoorW.PrintLast Go.Proofs.YtghencpiejbecaaDoorW.PrintMore
def dent_Write.f : List S38 → Option ByteArray
  | [] => some ⟨#[]⟩
  | _ => none
theorem dent_Write.calls (A0 : Option Addr) (c0 : Nat) (l0 : List S38) (r : ByteArray) (w : World) (hr0 : Kd.C k38 w A0 l0.length l0) (hc0 : l0.length ≤ c0) (h : dent_Write.f l0 = some r) :
    Calls Tryd.prog 11 #[.slice A0 l0.length c0] w fun e w' => e = .returned (.string r) ∧ Below w.heap.size w w' := by
  cases l0 with
  | nil =>
    obtain rfl := Option.some.inj h
    clear hr0 h
    go_enter Tryd.func11, Tryd.ntmps11
    go_wp2_with (fail)
    go_ret
    exact ⟨rfl, Below.refl _ _⟩
  | cons x l => cases h
end Go.Proofs.YtghencpiejbecaaDoor.Q
