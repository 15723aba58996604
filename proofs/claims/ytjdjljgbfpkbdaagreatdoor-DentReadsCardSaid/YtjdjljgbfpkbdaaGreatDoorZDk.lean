import Derived.Test.YtjdjljgbfpkbdaaGreatDoorZDLocks
import Derived.Test.YtjdjljgbfpkbdaaGreatDoorZDWrite
import Derived.Test.YtjdjljgbfpkbdaaGreatDoorZEv
import Derived.Test.YtjdjljgbfpkbdaaGreatDoorZDkn
import Derived.Test.YtjdjljgbfpkbdaaGreatDoorZQ4g
set_option linter.unusedVariables false
set_option linter.unusedSimpArgs false
namespace Go.Proofs.YtjdjljgbfpkbdaaGreatDoor.Q
open Go.RowKit Go.Proofs.YtjdjljgbfpkbdaaGreatDoorW.PrintWords Go.Proofs.YtjdjljgbfpkbdaaGreatDoorW.PrintLast Go.Proofs.YtjdjljgbfpkbdaaGreatDoorW.PrintMore
theorem known_true:transhumancelaw7_known.f=some true:=rfl
theorem within_f (a n:Int) (hn:0<n) (hn2:n≤4611686018427387904):transhumancelaw7_within.f a n=some (win a n):=by
 unfold transhumancelaw7_within.f win
 rw [if_neg (by omega)]
 have h1:=Int.tmod_lt_of_pos a hn
 have h2:-n<Int.tmod a n:=by
  have:=Int.tmod_lt_of_pos (-a) hn
  rw [Int.neg_tmod] at this
  omega
 split
 ·congr 1
  unfold wrap64
  omega
 ·rfl
end Go.Proofs.YtjdjljgbfpkbdaaGreatDoor.Q
