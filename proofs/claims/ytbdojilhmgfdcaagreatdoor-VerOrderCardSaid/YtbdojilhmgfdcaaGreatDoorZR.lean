import Derived.Test.YtbdojilhmgfdcaaGreatDoorZLibg
import Derived.Test.YtbdojilhmgfdcaaGreatDoorZR1
import Derived.Test.YtbdojilhmgfdcaaGreatDoorZR2
namespace Go.Proofs.YtbdojilhmgfdcaaGreatDoor.R
open Go.RowKit Go.Proofs.YtbdojilhmgfdcaaGreatDoorW.PrintWords Go.Proofs.YtbdojilhmgfdcaaGreatDoorW.PrintLast Go.Proofs.YtbdojilhmgfdcaaGreatDoorW.PrintMore
attribute [local go_sem] max2_int min2_int max_two min_two max_three min_three max_four min_four
set_option linter.unusedVariables false
set_option linter.unusedSimpArgs false
end Go.Proofs.YtbdojilhmgfdcaaGreatDoor.R
