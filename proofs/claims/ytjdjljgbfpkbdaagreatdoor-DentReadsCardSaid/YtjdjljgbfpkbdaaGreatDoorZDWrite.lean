import Derived.Test.YtjdjljgbfpkbdaaGreatDoorZQ0
import Derived.Test.YtjdjljgbfpkbdaaGreatDoorZEnv
set_option linter.unusedVariables false
set_option linter.unusedSimpArgs false
namespace Go.Proofs.YtjdjljgbfpkbdaaGreatDoor.Q
open Go.RowKit Go.Proofs.YtjdjljgbfpkbdaaGreatDoorW.PrintWords Go.Proofs.YtjdjljgbfpkbdaaGreatDoorW.PrintLast Go.Proofs.YtjdjljgbfpkbdaaGreatDoorW.PrintMore
def dent_Write.f:List S43→Option ByteArray
 | [] => some ⟨#[]⟩
 | _ => none
theorem dent_Write.calls (A0:Option Addr) (c0:Nat) (l0:List S43) (r:ByteArray) (w:World) (hG:GL w) (hr0:Kd.C k43 w A0 l0.length l0) (hc0:l0.length≤c0) (h:dent_Write.f l0=some r) :
  Calls Tryz.prog 10 #[.slice A0 l0.length c0] w fun e w' => e=.returned (.string r)∧Below w.heap.size w w':=by
 cases l0 with
 | nil =>
  obtain rfl:=Option.some.inj h
  clear hr0 h
  go_enter Tryz.func10,Tryz.ntmps10
  go_wp2_with (fail)
  go_ret
  exact ⟨rfl,Below.refl _ _⟩
 | cons x l => cases h
end Go.Proofs.YtjdjljgbfpkbdaaGreatDoor.Q
