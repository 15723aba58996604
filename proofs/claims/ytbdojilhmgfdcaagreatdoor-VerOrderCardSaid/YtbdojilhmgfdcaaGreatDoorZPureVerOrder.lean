/- VerOrder answers true for every input: plain part. -/
import Derived.Test.YtbdojilhmgfdcaaGreatDoorZVz
import Derived.Test.YtbdojilhmgfdcaaGreatDoorZQ18
namespace Go.Proofs.YtbdojilhmgfdcaaGreatDoor.Pure
open Go.RowKit Go.Proofs.YtbdojilhmgfdcaaGreatDoor.Q Go.Proofs.YtbdojilhmgfdcaaGreatDoorW.PrintWords Go.Proofs.YtbdojilhmgfdcaaGreatDoorW.PrintLast
theorem order_go (x y z : Vr) (hx : x.p.length ≤ 900000) (hy : y.p.length ≤ 900000) (hz : z.p.length ≤ 900000) :
    Ev (fun k => transhumancelaw2_VerOrder.j0 k x.a x.b x.c (bs x.p) y.a y.b y.c (bs y.p) z.a z.b z.c (bs z.p)) true := by
  have bd := way_ver.bd x y
  have an := way_ver.anti x y
  have tr := way_ver.trans x y z
  refine Ev.step (fun _ => transhumancelaw2_VerOrder.j0.eq_2 ..) ?_
  refine Ev.bind (cmp_ev x y hx hy) (Ev.bind (cmp_ev y z hy hz) (Ev.bind (cmp_ev x z hx hz) (Ev.bind (rcmp_ev x y hx hy) (Ev.pos rfl (Ev.bind (rcmp_ev y z hy hz) (Ev.pos rfl (Ev.bind (rcmp_ev x z hx hz) (Ev.pos rfl (Ev.bind (cmp_ev y x hy hx) (Ev.pos ?_ (Ev.neg ?_ ?_)))))))))))
  · rw [wrap_id (by omega) (by omega)]
    exact an
  · have e : (cmpV x y == 0) = (x.a == y.a && (x.b == y.b && (x.c == y.c && ((bs x.p).toList == (bs y.p).toList)))) := by
      rw [toList_bs, toList_bs, Bool.eq_iff_iff]
      simp only [beq_iff_eq, Bool.and_eq_true]
      constructor
      · intro h
        have := cmpV_eq h
        subst this
        exact ⟨rfl, rfl, rfl, rfl⟩
      · rintro ⟨h1, h2, h3, h4⟩
        obtain ⟨a, b, c, p⟩ := x
        obtain ⟨a2, b2, c2, p2⟩ := y
        simp only at h1 h2 h3 h4
        subst h1 h2 h3 h4
        exact way_ver.refl _
    rw [e]
    simp
  · by_cases h1 : cmpV x y ≤ 0
    · by_cases h2 : cmpV y z ≤ 0
      · exact Ev.pos h1 (Ev.pos h2 (Ev.ret (congrArg some (decide_eq_true (tr h1 h2)))))
      · exact Ev.pos h1 (Ev.neg h2 (Ev.now _))
    · exact Ev.neg h1 (Ev.now _)
theorem VerOrder : transhumancelaw2_VerOrder.Pure := by
  intro a0 a1 a2 a3 a4 a5
  intros
  apply Ev.rounds
  unfold transhumancelaw2_VerOrder.f
  obtain ⟨x, ex, hx⟩ := make_ev a0 a1
  obtain ⟨y, ey, hy⟩ := make_ev a2 a3
  obtain ⟨z, ez, hz⟩ := make_ev a4 a5
  have lx := hx.len
  have ly := hy.len
  have lz := hz.len
  refine Ev.val known_true (Ev.pos rfl (Ev.bind ex (Ev.bind ey (Ev.bind ez (Ev.val (within_f a4 3 (by omega) (by omega)) ?_)))))
  by_cases h : win a4 3 = 0
  · exact Ev.pos h (order_go x ⟨x.a, x.b, x.c, y.p⟩ ⟨x.a, x.b, x.c, z.p⟩ (by omega) (by simp only; omega) (by simp only; omega))
  · exact Ev.neg h (order_go x y z (by omega) (by omega) (by omega))
end Go.Proofs.YtbdojilhmgfdcaaGreatDoor.Pure
