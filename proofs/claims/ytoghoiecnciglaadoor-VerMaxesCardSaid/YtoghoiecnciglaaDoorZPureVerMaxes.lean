/- Law 2: VerMaxes was walked whole: nothing is left of it. -/
import Derived.Test.YtoghoiecnciglaaDoorZQ6
namespace Go.Proofs.YtoghoiecnciglaaDoor.Pure
open Go.Proofs.YtoghoiecnciglaaDoor.Q
theorem VerMaxes : transhumancelaw2_VerMaxes.Pure := trivial
end Go.Proofs.YtoghoiecnciglaaDoor.Pure
