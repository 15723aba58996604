import Derived.Test.YtoghoiecnciglaaDoorZLibg
import Derived.Test.YtoghoiecnciglaaDoorZR1
import Derived.Test.YtoghoiecnciglaaDoorZR2
import Derived.Test.YtoghoiecnciglaaDoorZR3
import Derived.Test.YtoghoiecnciglaaDoorZR4
namespace Go.Proofs.YtoghoiecnciglaaDoor.R
open Go.RowKit Go.Proofs.YtoghoiecnciglaaDoorW.PrintWords Go.Proofs.YtoghoiecnciglaaDoorW.PrintLast Go.Proofs.YtoghoiecnciglaaDoorW.PrintMore
attribute [local go_sem] max2_int min2_int max_two min_two max_three min_three max_four min_four
set_option linter.unusedVariables false
set_option linter.unusedSimpArgs false
end Go.Proofs.YtoghoiecnciglaaDoor.R
