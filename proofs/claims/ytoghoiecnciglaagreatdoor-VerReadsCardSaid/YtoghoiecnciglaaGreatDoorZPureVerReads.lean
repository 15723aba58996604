/- Law 2: VerReads was walked whole: nothing is left of it. -/
import Derived.Test.YtoghoiecnciglaaGreatDoorZQ11
namespace Go.Proofs.YtoghoiecnciglaaGreatDoor.Pure
open Go.Proofs.YtoghoiecnciglaaGreatDoor.Q
theorem VerReads : transhumancelaw2_VerReads.Pure := trivial
end Go.Proofs.YtoghoiecnciglaaGreatDoor.Pure
