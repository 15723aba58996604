/- TableLocks answers true for every input: plain part, over what the program's table.Locks and table.Write compute. -/
import Derived.Test.YtomabpniflfmmaaDoorZPk
import Derived.Test.YtomabpniflfmmaaDoorZPng
import Derived.Test.YtomabpniflfmmaaDoorZQ11
namespace Go.Proofs.YtomabpniflfmmaaDoor.Pure
open Go.RowKit Go.Proofs.YtomabpniflfmmaaDoor.Q Go.Proofs.YtomabpniflfmmaaDoorW.PrintWords Go.Proofs.YtomabpniflfmmaaDoorW.PrintLast
theorem TableLocks : transhumancelaw6_TableLocks.Pure := by
  intro l0 l1
  intros
  apply Ev.rounds
  unfold transhumancelaw6_TableLocks.f
  refine Ev.val known_true (Ev.pos rfl ?_)
  by_cases hl : (l1.length : Int) > 60
  · exact Ev.pos hl (Ev.now _)
  refine Ev.neg hl ?_
  obtain ⟨r, r1, r2, r3⟩ := locks_make l0 l1 40 (by omega)
  have hsm := r2.small (by omega)
  have hln := write_len r hsm.lk
  have hsz : (bs (writeText r)).size ≤ 140737488351232 := by rw [size_bs]; omega
  refine Ev.bind r1 (Ev.val (write_f r hsm) ?_)
  by_cases hz : (writeText r).length ≤ 8000
  · refine Ev.val (locks_f_ok hsz (write_locks r (r2.ok r3) hz)) (Ev.bind (write_ev r hsm) (Ev.pos rfl (Ev.neg ?_ (Ev.pos rfl (Ev.pos rfl (Ev.bind (rows_ev r (by omega)) (Ev.now _)))))))
    rw [size_bs]
    omega
  · refine Ev.val (locks_f _ hsz) (Ev.bind (write_ev r hsm) (Ev.pos rfl (Ev.pos ?_ (Ev.now _))))
    rw [size_bs]
    omega
end Go.Proofs.YtomabpniflfmmaaDoor.Pure
