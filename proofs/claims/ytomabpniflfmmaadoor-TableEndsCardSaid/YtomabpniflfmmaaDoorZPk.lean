import Derived.Test.YtomabpniflfmmaaDoorZPcg
import Derived.Test.YtomabpniflfmmaaDoorZTLocksg
import Derived.Test.YtomabpniflfmmaaDoorZTWriteg
import Derived.Test.YtomabpniflfmmaaDoorZQ6
import Derived.Test.YtomabpniflfmmaaDoorZQ11
namespace Go.Proofs.YtomabpniflfmmaaDoor.Q
open Go.RowKit Go.Proofs.YtomabpniflfmmaaDoorW.PrintWords Go.Proofs.YtomabpniflfmmaaDoorW.PrintLast Go.Proofs.YtomabpniflfmmaaDoorW.PrintMore
set_option maxRecDepth 100000 in
theorem known_true : transhumancelaw6_known.f = some true := by decide +kernel
def win (a n : Int) : Int := if Int.tmod a n < 0 then Int.tmod a n + n else Int.tmod a n
theorem win_bd (a n : Int) (hn : 0 < n) : 0 ≤ win a n ∧ win a n < n := by
  unfold win
  have h1 := Int.tmod_lt_of_pos a hn
  have h2 : -n < Int.tmod a n := by
    have := Int.tmod_lt_of_pos (-a) hn
    rw [Int.neg_tmod] at this
    omega
  split <;> omega
theorem within_f (a n : Int) (hn : 0 < n) (hn2 : n ≤ 4611686018427387904) : transhumancelaw6_within.f a n = some (win a n) := by
  unfold transhumancelaw6_within.f win
  rw [if_neg (by omega)]
  have h1 := Int.tmod_lt_of_pos a hn
  have h2 : -n < Int.tmod a n := by
    have := Int.tmod_lt_of_pos (-a) hn
    rw [Int.neg_tmod] at this
    omega
  split
  · congr 1
    unfold wrap64
    omega
  · rfl
theorem win_fin (a : Int) (n : Nat) (hn : 0 < n) : ∃ j : Fin n, win a n = (j.val : Int) := by
  obtain ⟨h1, h2⟩ := win_bd a n (by omega)
  exact ⟨⟨(win a n).toNat, by omega⟩, by simp only; omega⟩
theorem locks_f (s : ByteArray) (hs : s.size ≤ 140737488351232) : table_Locks.f s = some ((locksR s).1.map Lk.out, ((table_Locks.line s).1 : Int), ((table_Locks.line s).2 : Int), (locksR s).2.2) := by
  unfold table_Locks.f
  rw [if_pos hs]
theorem locks_f_ok {s : ByteArray} {l : List Lk} (hs : s.size ≤ 140737488351232) (h : locksR s = (l, 0, 0)) : table_Locks.f s = some (l.map Lk.out, 0, 0, 0) := by
  rw [locks_f s hs]
  simp [table_Locks.line, h]
theorem locks_f_bad {s : ByteArray} {wh : Nat} {e : Int} (hs : s.size ≤ 140737488351232) (he : e ≠ 0) (h : locksR s = ([], wh, e)) : table_Locks.f s = some ([], ((place (s.data.toList.take wh)).1 : Int), ((place (s.data.toList.take wh)).2 : Int), e) := by
  rw [locks_f s hs]
  simp [table_Locks.line, h, he]
end Go.Proofs.YtomabpniflfmmaaDoor.Q
