/- VerBehind answers true for every input: plain part. -/
import Derived.Test.YtbdojilhmgfdcaaGreatDoorZVb2
import Derived.Test.YtbdojilhmgfdcaaGreatDoorZQ25
namespace Go.Proofs.YtbdojilhmgfdcaaGreatDoor.Pure
open Go.RowKit Go.Proofs.YtbdojilhmgfdcaaGreatDoor.Q Go.Proofs.YtbdojilhmgfdcaaGreatDoorW.PrintWords Go.Proofs.YtbdojilhmgfdcaaGreatDoorW.PrintLast
theorem vbehind_f (a b c : Int) (p : List UInt8) (hp : p.length ≤ 900000) : ver_Behind.f a b c (bs p) = some (behindOut (behindL p)) := by
  unfold ver_Behind.f
  rw [size_bs, if_pos hp, data_bs]
theorem VerBehind : transhumancelaw2_VerBehind.Pure := by
  intro a0 a1 a2 _ _ hz
  apply Ev.rounds
  unfold transhumancelaw2_VerBehind.f
  obtain ⟨v, e, h⟩ := make_ev a0 a1
  have hl := h.len
  have e1 := vbehind_f v.a v.b v.c v.p (by omega)
  have e2 := rbehind_ev v.a v.b v.c v.p (by omega)
  have key : ∀ p : ByteArray, p.size ≤ 900000 → ∀ g : Nat → Option Bool, (g = fun k => (ver_Behind.f 0 0 0 p).bind fun bt324 => ((transhumanceref2_Behind.f k 0 0 0 p).bind fun bt327 => (if (behindOut (behindL v.p)).1 = (behindOut (behindL v.p)).1 then (if (behindOut (behindL v.p)).2.1.toList = (behindOut (behindL v.p)).2.1.toList then (if ((behindOut (behindL v.p)).2.2 == (behindOut (behindL v.p)).2.2) = true then (if bt324.1 = bt327.1 then (if bt324.2.1.toList = bt327.2.1.toList then (some (bt324.2.2 == bt327.2.2)) else (some false)) else (some false)) else (some false)) else (some false)) else (some false)))) → Ev g true := by
    intro p hp g hg
    subst hg
    have f1 := vbehind_f 0 0 0 p.data.toList (by rw [size_list]; omega)
    have f2 := rbehind_ev 0 0 0 p.data.toList (by rw [size_list]; omega)
    rw [bs_data] at f1 f2
    exact Ev.val f1 (Ev.bind f2 (Ev.pos rfl (Ev.pos rfl (Ev.pos (by simp) (Ev.pos rfl (Ev.pos rfl (Ev.ret (by simp))))))))
  refine Ev.val known_true (Ev.pos rfl (Ev.bind e (Ev.val e1 (Ev.bind e2 ?_))))
  by_cases hp : a2.size ≤ 900000
  · refine Ev.bind (rright_ev 0 0 0 a2 (by omega)) ?_
    cases hb : rightV 0 0 0 a2.data.toList with
    | true => exact Ev.pos rfl (key a2 hp _ rfl)
    | false => exact Ev.neg (by simp) (key _ (by decide) _ rfl)
  · have hbig : Ev (fun k => transhumanceref2_Right.f k 0 0 0 a2) false := by
      unfold transhumanceref2_Right.f
      refine Ev.neg (by decide) (Ev.neg (by decide) (Ev.neg (by decide) (Ev.neg (by decide) ?_)))
      rw [decide_eq_true (show (a2.size : Int) > 40 by omega)]
      exact Ev.step (fun _ => transhumanceref2_Right.j0.eq_2 ..) (Ev.pos rfl (Ev.now _))
    exact Ev.bind hbig (Ev.neg (by simp) (key _ (by decide) _ rfl))
end Go.Proofs.YtbdojilhmgfdcaaGreatDoor.Pure
