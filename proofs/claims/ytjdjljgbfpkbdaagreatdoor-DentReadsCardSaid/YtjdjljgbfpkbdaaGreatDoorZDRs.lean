import Derived.Test.YtjdjljgbfpkbdaaGreatDoorZDPyg
import Derived.Test.YtjdjljgbfpkbdaaGreatDoorZDRef
import Derived.Test.YtjdjljgbfpkbdaaGreatDoorZDTurned
set_option linter.unusedVariables false
set_option linter.unusedSimpArgs false
namespace Go.Proofs.YtjdjljgbfpkbdaaGreatDoor.Q
open Go.RowKit Go.Proofs.YtjdjljgbfpkbdaaGreatDoorW.PrintWords Go.Proofs.YtjdjljgbfpkbdaaGreatDoorW.PrintLast Go.Proofs.YtjdjljgbfpkbdaaGreatDoorW.PrintMore
theorem locksD_few (s:List UInt8):(locksD s).1.length≤40:=by
 unfold locksD
 split
 ·simp
 ·have h:=(lines_inv s (pieces s) [] (List.append_nil _)).1
  split
  ·simp
  ·rename_i l has hr
   rw [hr] at h
   split
   ·exact h.1
   ·simp
theorem both_read (s:ByteArray) (hs:s.size≤140737488351232):∃ (l:List Lk) (x y e:Int),dent_Locks.f s=some (outs l,x,y,e)∧l.length≤40 :=
 ⟨(locksD s.data.toList).1,((dent_Locks.line s).1:Int),((dent_Locks.line s).2:Int),(locksD s.data.toList).2.2,if_pos hs,locksD_few _⟩
end Go.Proofs.YtjdjljgbfpkbdaaGreatDoor.Q
