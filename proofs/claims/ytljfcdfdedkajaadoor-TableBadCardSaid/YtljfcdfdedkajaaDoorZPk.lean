import Derived.Test.YtljfcdfdedkajaaDoorZPcg
import Derived.Test.YtljfcdfdedkajaaDoorZTLocksg
import Derived.Test.YtljfcdfdedkajaaDoorZTWriteg
import Derived.Test.YtljfcdfdedkajaaDoorZQ8
set_option linter.unusedVariables false
set_option linter.unusedSimpArgs false
namespace Go.Proofs.YtljfcdfdedkajaaDoor.Q
open Go.RowKit Go.Proofs.YtljfcdfdedkajaaDoorW.PrintWords Go.Proofs.YtljfcdfdedkajaaDoorW.PrintLast Go.Proofs.YtljfcdfdedkajaaDoorW.PrintMore
set_option maxRecDepth 100000 in
theorem known_true : transhumancelaw6_known.f = some true := by decide +kernel
def win (a n : Int) : Int := if Int.tmod a n < 0 then Int.tmod a n + n else Int.tmod a n
theorem win_bd (a n : Int) (hn : 0 < n) : 0 ≤ win a n ∧ win a n < n := by
 unfold win
 have h1 := Int.tmod_lt_of_pos a hn
 have h2 : -n < Int.tmod a n := by
  have := Int.tmod_lt_of_pos (-a) hn
  rw [Int.neg_tmod] at this
  omega
 split <;> omega
theorem within_f (a n : Int) (hn : 0 < n) (hn2 : n ≤ 4611686018427387904) : transhumancelaw6_within.f a n = some (win a n) := by
 unfold transhumancelaw6_within.f win
 rw [if_neg (by omega)]
 have h1 := Int.tmod_lt_of_pos a hn
 have h2 : -n < Int.tmod a n := by
  have := Int.tmod_lt_of_pos (-a) hn
  rw [Int.neg_tmod] at this
  omega
 split
 ·congr 1
  unfold wrap64
  omega
 ·rfl
end Go.Proofs.YtljfcdfdedkajaaDoor.Q
