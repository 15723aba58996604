import Derived.Test.YtjdjljgbfpkbdaaGreatDoorZDLocks
import Derived.Test.YtjdjljgbfpkbdaaGreatDoorZDWrite
import Derived.Test.YtjdjljgbfpkbdaaGreatDoorZEv
import Derived.Test.YtjdjljgbfpkbdaaGreatDoorZQ15
import Derived.Test.YtjdjljgbfpkbdaaGreatDoorZQ3
set_option linter.unusedVariables false
set_option linter.unusedSimpArgs false
namespace Go.Proofs.YtjdjljgbfpkbdaaGreatDoor.Q
open Go.RowKit Go.Proofs.YtjdjljgbfpkbdaaGreatDoorW.PrintWords Go.Proofs.YtjdjljgbfpkbdaaGreatDoorW.PrintLast Go.Proofs.YtjdjljgbfpkbdaaGreatDoorW.PrintMore
set_option maxRecDepth 100000 in
theorem known_true : transhumancelaw7_known.f = some true := by decide +kernel
end Go.Proofs.YtjdjljgbfpkbdaaGreatDoor.Q
