/- Law 9: ManiOrders was walked whole: nothing is left of it. -/
import Derived.Test.YtjiidlkkkednoaaGreatDoorZQ27g
set_option linter.unusedVariables false
set_option linter.unusedSimpArgs false
namespace Go.Proofs.YtjiidlkkkednoaaGreatDoor.Pure
open Go.Proofs.YtjiidlkkkednoaaGreatDoor.Q
theorem ManiOrders:transhumancelaw9_ManiOrders.Pure:=trivial
end Go.Proofs.YtjiidlkkkednoaaGreatDoor.Pure
