import Derived.Test.YtbdojilhmgfdcaaDoorZLibg
import Derived.Test.YtbdojilhmgfdcaaDoorZR1
import Derived.Test.YtbdojilhmgfdcaaDoorZR2
namespace Go.Proofs.YtbdojilhmgfdcaaDoor.R
open Go.RowKit Go.Proofs.YtbdojilhmgfdcaaDoorW.PrintWords Go.Proofs.YtbdojilhmgfdcaaDoorW.PrintLast Go.Proofs.YtbdojilhmgfdcaaDoorW.PrintMore
attribute [local go_sem] max2_int min2_int max_two min_two max_three min_three max_four min_four
set_option linter.unusedVariables false
set_option linter.unusedSimpArgs false
end Go.Proofs.YtbdojilhmgfdcaaDoor.R
