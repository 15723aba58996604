import Derived.Test.YtomabpniflfmmaaDoorZPcg
import Derived.Test.YtomabpniflfmmaaDoorZTLocksg
import Derived.Test.YtomabpniflfmmaaDoorZTWriteg
import Derived.Test.YtomabpniflfmmaaDoorZQ6
import Derived.Test.YtomabpniflfmmaaDoorZQ11
namespace Go.Proofs.YtomabpniflfmmaaDoor.Q
open Go.RowKit Go.Proofs.YtomabpniflfmmaaDoorW.PrintWords Go.Proofs.YtomabpniflfmmaaDoorW.PrintLast Go.Proofs.YtomabpniflfmmaaDoorW.PrintMore
set_option maxRecDepth 100000 in
theorem known_true : transhumancelaw6_known.f = some true := by decide +kernel
def win (a n : Int) : Int := if Int.tmod a n < 0 then Int.tmod a n + n else Int.tmod a n
theorem win_bd (a n : Int) (hn : 0 < n) : 0 ≤ win a n ∧ win a n < n := by
  unfold win
  have h1 := Int.tmod_lt_of_pos a hn
  have h2 : -n < Int.tmod a n := by
    have := Int.tmod_lt_of_pos (-a) hn
    rw [Int.neg_tmod] at this
    omega
  split <;> omega
theorem within_f (a n : Int) (hn : 0 < n) (hn2 : n ≤ 4611686018427387904) : transhumancelaw6_within.f a n = some (win a n) := by
  unfold transhumancelaw6_within.f win
  rw [if_neg (by omega)]
  have h1 := Int.tmod_lt_of_pos a hn
  have h2 : -n < Int.tmod a n := by
    have := Int.tmod_lt_of_pos (-a) hn
    rw [Int.neg_tmod] at this
    omega
  split
  · congr 1
    unfold wrap64
    omega
  · rfl
theorem win_fin (a : Int) (n : Nat) (hn : 0 < n) : ∃ j : Fin n, win a n = (j.val : Int) := by
  obtain ⟨h1, h2⟩ := win_bd a n (by omega)
  exact ⟨⟨(win a n).toNat, by omega⟩, by simp only; omega⟩
end Go.Proofs.YtomabpniflfmmaaDoor.Q
