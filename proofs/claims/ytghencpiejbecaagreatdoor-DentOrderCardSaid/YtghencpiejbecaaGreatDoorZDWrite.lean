import Derived.Test.YtghencpiejbecaaGreatDoorZQ0
import Derived.Test.YtghencpiejbecaaGreatDoorZBase
set_option linter.unusedVariables false
set_option linter.unusedSimpArgs false
namespace Go.Proofs.YtghencpiejbecaaGreatDoor.Q
open Go.RowKit Go.Proofs.YtghencpiejbecaaGreatDoorW.PrintWords Go.Proofs.YtghencpiejbecaaGreatDoorW.PrintLast Go.Proofs.YtghencpiejbecaaGreatDoorW.PrintMore
def dent_Write.f : List S43 → Option ByteArray
  | [] => some ⟨#[]⟩
  | _ => none
theorem dent_Write.calls (A0 : Option Addr) (c0 : Nat) (l0 : List S43) (r : ByteArray) (w : World) (hr0 : Kd.C k43 w A0 l0.length l0) (hc0 : l0.length ≤ c0) (h : dent_Write.f l0 = some r) :
    Calls Tryz.prog 12 #[.slice A0 l0.length c0] w fun e w' => e = .returned (.string r) ∧ Below w.heap.size w w' := by
  cases l0 with
  | nil =>
    obtain rfl := Option.some.inj h
    clear hr0 h
    go_enter Tryz.func12, Tryz.ntmps12
    go_wp2_with (fail)
    go_ret
    exact ⟨rfl, Below.refl _ _⟩
  | cons x l => cases h
end Go.Proofs.YtghencpiejbecaaGreatDoor.Q
