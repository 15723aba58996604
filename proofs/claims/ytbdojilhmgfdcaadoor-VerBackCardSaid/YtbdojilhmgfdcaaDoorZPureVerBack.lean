/- VerBack answers true for every input: plain part. -/
import Derived.Test.YtbdojilhmgfdcaaDoorZVn
import Derived.Test.YtbdojilhmgfdcaaDoorZQ9
namespace Go.Proofs.YtbdojilhmgfdcaaDoor.Pure
open Go.RowKit Go.Proofs.YtbdojilhmgfdcaaDoor.Q Go.Proofs.YtbdojilhmgfdcaaDoorW.PrintWords Go.Proofs.YtbdojilhmgfdcaaDoorW.PrintLast
theorem VerBack : transhumancelaw2_VerBack.Pure := by
  intro a0 a1 _ _
  apply Ev.rounds
  unfold transhumancelaw2_VerBack.f
  obtain ⟨v, e, h⟩ := make_ev a0 a1
  have hl := h.len
  have hp := vparse_f (textV v) (by have := text_len v h; omega)
  rw [parse_right h] at hp
  have hr := vright_f v.a v.b v.c v.p (by omega)
  rw [show rightV v.a v.b v.c v.p = true from h] at hr
  refine Ev.val known_true (Ev.pos rfl (Ev.bind e ?_))
  refine Ev.val (text_f v h) (Ev.val hp (Ev.val hr (Ev.pos rfl (Ev.bind (rtext_ev v h) (Ev.pos rfl (Ev.pos rfl (Ev.ret ?_)))))))
  simp [verOut, outV]
end Go.Proofs.YtbdojilhmgfdcaaDoor.Pure
