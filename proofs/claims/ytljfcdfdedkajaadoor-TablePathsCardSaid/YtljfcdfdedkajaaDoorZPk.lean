import Derived.Test.YtljfcdfdedkajaaDoorZPcg
import Derived.Test.YtljfcdfdedkajaaDoorZTLocksg
import Derived.Test.YtljfcdfdedkajaaDoorZTWriteg
import Derived.Test.YtljfcdfdedkajaaDoorZQ8
import Derived.Test.YtljfcdfdedkajaaDoorZQ18
namespace Go.Proofs.YtljfcdfdedkajaaDoor.Q
open Go.RowKit Go.Proofs.YtljfcdfdedkajaaDoorW.PrintWords Go.Proofs.YtljfcdfdedkajaaDoorW.PrintLast Go.Proofs.YtljfcdfdedkajaaDoorW.PrintMore
set_option maxRecDepth 100000 in
theorem known_true : transhumancelaw6_known.f = some true := by decide +kernel
theorem locks_f (s : ByteArray) (hs : s.size ≤ 140737488351232) : table_Locks.f s = some ((locksR s).1.map Lk.out, ((table_Locks.line s).1 : Int), ((table_Locks.line s).2 : Int), (locksR s).2.2) := by
  unfold table_Locks.f
  rw [if_pos hs]
theorem locks_f_ok {s : ByteArray} {l : List Lk} (hs : s.size ≤ 140737488351232) (h : locksR s = (l, 0, 0)) : table_Locks.f s = some (l.map Lk.out, 0, 0, 0) := by
  rw [locks_f s hs]
  simp [table_Locks.line, h]
theorem locks_f_bad {s : ByteArray} {wh : Nat} {e : Int} (hs : s.size ≤ 140737488351232) (he : e ≠ 0) (h : locksR s = ([], wh, e)) : table_Locks.f s = some ([], ((place (s.data.toList.take wh)).1 : Int), ((place (s.data.toList.take wh)).2 : Int), e) := by
  rw [locks_f s hs]
  simp [table_Locks.line, h, he]
end Go.Proofs.YtljfcdfdedkajaaDoor.Q
