/- Law 6: TableBad was walked whole: nothing is left of it. -/
import Derived.Test.YtljfcdfdedkajaaDoorZQ20
set_option linter.unusedVariables false
set_option linter.unusedSimpArgs false
namespace Go.Proofs.YtljfcdfdedkajaaDoor.Pure
open Go.Proofs.YtljfcdfdedkajaaDoor.Q
theorem TableBad : transhumancelaw6_TableBad.Pure := trivial
end Go.Proofs.YtljfcdfdedkajaaDoor.Pure
