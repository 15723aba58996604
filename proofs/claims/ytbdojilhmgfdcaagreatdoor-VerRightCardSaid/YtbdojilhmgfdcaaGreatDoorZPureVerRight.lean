/- VerRight answers true for every input: plain part. -/
import Derived.Test.YtbdojilhmgfdcaaGreatDoorZVy
import Derived.Test.YtbdojilhmgfdcaaGreatDoorZQ15
namespace Go.Proofs.YtbdojilhmgfdcaaGreatDoor.Pure
open Go.RowKit Go.Proofs.YtbdojilhmgfdcaaGreatDoor.Q Go.Proofs.YtbdojilhmgfdcaaGreatDoorW.PrintWords Go.Proofs.YtbdojilhmgfdcaaGreatDoorW.PrintLast
theorem VerRight : transhumancelaw2_VerRight.Pure := by
  intro a0 a1 a2 a3 a4 a5
  intros
  apply Ev.rounds
  unfold transhumancelaw2_VerRight.f
  refine Ev.val known_true (Ev.pos rfl ?_)
  by_cases hl : (a3.size : Int) > 80
  · exact Ev.pos hl (Ev.now _)
  obtain ⟨v, e, h⟩ := make_ev a4 a5
  have f1 := fun a b c => vright_f a b c a3.data.toList (by rw [size_list]; omega)
  rw [bs_data] at f1
  have f2 := fun a b c => rright_ev a b c a3 (by omega)
  obtain ⟨_, hb, hc, hp⟩ := right_parts h
  have f3 := vright_f a0 v.b v.c v.p (by have := h.len; omega)
  have r3 : rightV a0 v.b v.c v.p = partB a0 := by
    have h0 : rightV 0 v.b v.c v.p = true := right_of (by omega) hb hc hp.1 (by rcases hp.2 with hp | hp <;> simp [hp])
    unfold rightV at h0 ⊢
    rw [show partB 0 = true from rfl, Bool.true_and] at h0
    rw [h0, Bool.and_true]
  rw [r3] at f3
  refine Ev.neg hl (Ev.bind e (Ev.bind e (Ev.val (f1 _ _ _) (Ev.bind (f2 _ _ _) (Ev.pos (by simp) (Ev.val (f1 _ _ _) (Ev.bind (f2 _ _ _) (Ev.pos (by simp [outV]) (Ev.val f3 ?_)))))))))
  unfold partB
  by_cases h0 : a0 ≥ 0
  · refine Ev.pos h0 (Ev.ret ?_)
    rw [decide_eq_true (show 0 ≤ a0 by omega)]
    simp
  · refine Ev.neg h0 (Ev.ret ?_)
    rw [decide_eq_false (show ¬ 0 ≤ a0 by omega)]
    rfl
end Go.Proofs.YtbdojilhmgfdcaaGreatDoor.Pure
