import Derived.Test.YtomabpniflfmmaaDoorZQ2g
import Derived.Test.YtomabpniflfmmaaDoorZQ9
namespace Go.Proofs.YtomabpniflfmmaaDoor.Q
open Go.RowKit Go.Proofs.YtomabpniflfmmaaDoorW.PrintWords Go.Proofs.YtomabpniflfmmaaDoorW.PrintLast Go.Proofs.YtomabpniflfmmaaDoorW.PrintMore
attribute [local go_sem] max2_int min2_int max_two min_two max_three min_three max_four min_four
set_option linter.unusedVariables false
set_option linter.unusedSimpArgs false
end Go.Proofs.YtomabpniflfmmaaDoor.Q
