import Derived.Test.YtghencpiejbecaaGreatDoorZR0
import Derived.Test.YtghencpiejbecaaGreatDoorZR1
import Derived.Test.YtghencpiejbecaaGreatDoorZR2
namespace Go.Proofs.YtghencpiejbecaaGreatDoor.R
open Go.RowKit Go.Proofs.YtghencpiejbecaaGreatDoorW.PrintWords Go.Proofs.YtghencpiejbecaaGreatDoorW.PrintLast Go.Proofs.YtghencpiejbecaaGreatDoorW.PrintMore
attribute [local go_sem] max2_int min2_int max_two min_two max_three min_three max_four min_four
set_option linter.unusedVariables false
set_option linter.unusedSimpArgs false
end Go.Proofs.YtghencpiejbecaaGreatDoor.R
