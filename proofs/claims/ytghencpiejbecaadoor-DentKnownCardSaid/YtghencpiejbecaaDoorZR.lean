import Derived.Test.YtghencpiejbecaaDoorZR0
import Derived.Test.YtghencpiejbecaaDoorZR1
import Derived.Test.YtghencpiejbecaaDoorZR2
namespace Go.Proofs.YtghencpiejbecaaDoor.R
open Go.RowKit Go.Proofs.YtghencpiejbecaaDoorW.PrintWords Go.Proofs.YtghencpiejbecaaDoorW.PrintLast Go.Proofs.YtghencpiejbecaaDoorW.PrintMore
attribute [local go_sem] max2_int min2_int max_two min_two max_three min_three max_four min_four
set_option linter.unusedVariables false
set_option linter.unusedSimpArgs false
end Go.Proofs.YtghencpiejbecaaDoor.R
