/- VerTimes answers true for every input: plain part. -/
import Derived.Test.YtbdojilhmgfdcaaDoorZVn
import Derived.Test.YtbdojilhmgfdcaaDoorZQ12
namespace Go.Proofs.YtbdojilhmgfdcaaDoor.Pure
open Go.RowKit Go.Proofs.YtbdojilhmgfdcaaDoor.Q Go.Proofs.YtbdojilhmgfdcaaDoorW.PrintWords Go.Proofs.YtbdojilhmgfdcaaDoorW.PrintLast
def id00 : ByteArray := (⟨#[48, 48, 49, 49, 50, 50, 51, 51, 52, 52, 53, 53, 54, 54]⟩ : ByteArray)
def idff : ByteArray := (⟨#[102, 102, 49, 49, 50, 50, 51, 51, 52, 52, 53, 53, 54, 54]⟩ : ByteArray)
theorem id00_ok : idB id00.data.toList = true ∧ id00.data.toList.all hexL = true ∧ 12 ≤ id00.data.toList.length := by decide +kernel
theorem idff_ok : idB idff.data.toList = true ∧ idff.data.toList.all hexL = true ∧ 12 ≤ idff.data.toList.length := by decide +kernel
theorem ids_cmp : cmpBs (id00.data.toList.take 12) (id00.data.toList.take 12) = 0 ∧ cmpBs (id00.data.toList.take 12) (idff.data.toList.take 12) = -1 := by decide +kernel
def okR (v : Vr) : Bool := rightV v.a v.b v.c v.p
theorem pseudoV_id (has : Bool) (v : Vr) (t : Nat) (ht : t < 100000000000000) (i : List UInt8) (hi : idB i = true) : pseudoV has v t i = if okR (pseudoR has v (markL t i)) = true then some (pseudoR has v (markL t i)) else none := by
  unfold pseudoV
  rw [if_neg (by rw [hi]; simp; omega)]
  rfl
theorem pr_len (has : Bool) (v : Vr) (m : List UInt8) (hv : v.p.length ≤ 1000) (hm : m.length ≤ 1000) : (pseudoR has v m).p.length ≤ 3000 := by
  unfold pseudoR
  split
  · show m.length ≤ 3000; omega
  · split
    · simp only [List.length_cons]; omega
    · simp only [List.length_append, List.length_cons]; omega
theorem times_go (has : Bool) (v : Vr) (x y : Nat) (hv : v.p.length ≤ 40) (hc : 0 ≤ v.c ∧ v.c ≤ 999999) (hx : x < 100000000000000) (hy : y < 100000000000000) (a3 a4 : Int) (wx : transhumancelaw2_within.f a3 100000000000000 = some (x : Int)) (wy : transhumancelaw2_within.f a4 100000000000000 = some (y : Int)) :
    Ev (fun k => transhumancelaw2_VerTimes.j0 k has a3 a4 v.a v.b v.c (bs v.p)) true := by
  obtain ⟨i1, i2, i3⟩ := id00_ok
  obtain ⟨j1, j2, j3⟩ := idff_ok
  have hf : ∀ (t : Nat) (i : ByteArray), i.size ≤ 100 → ver_Pseudo.f has v.a v.b v.c (bs v.p) (t : Int) i = some (verOut (pseudoV has v t i.data.toList)) := by
    intro t i hi
    unfold ver_Pseudo.f
    rw [size_bs, if_pos ⟨by omega, ⟨by omega, by omega⟩, by omega⟩, data_bs]
  have px := hf x id00 (by decide)
  have py := hf y id00 (by decide)
  have pr := hf x idff (by decide)
  rw [pseudoV_id has v x hx _ i1] at px
  rw [pseudoV_id has v y hy _ i1] at py
  rw [pseudoV_id has v x hx _ j1] at pr
  have e1 : okR (pseudoR has v (markL x id00.data.toList)) = okR (pseudoR has v (markL y id00.data.toList)) := pseudo_right has v hx hy i2 i2 i3 i3
  have e2 : okR (pseudoR has v (markL x id00.data.toList)) = okR (pseudoR has v (markL x idff.data.toList)) := pseudo_right has v hx hx i2 j2 i3 j3
  rw [← e1] at py
  rw [← e2] at pr
  have mx := mark_len hx i3
  have my := mark_len hy i3
  have mr := mark_len hx j3
  have c1 := cmp_ev (pseudoR has v (markL x id00.data.toList)) (pseudoR has v (markL y id00.data.toList)) (by have := pr_len has v _ (by omega) (show (markL x id00.data.toList).length ≤ 1000 by omega); omega) (by have := pr_len has v _ (by omega) (show (markL y id00.data.toList).length ≤ 1000 by omega); omega)
  have c2 := cmp_ev (pseudoR has v (markL x id00.data.toList)) (pseudoR has v (markL x idff.data.toList)) (by have := pr_len has v _ (by omega) (show (markL x id00.data.toList).length ≤ 1000 by omega); omega) (by have := pr_len has v _ (by omega) (show (markL x idff.data.toList).length ≤ 1000 by omega); omega)
  rw [pseudo_cmp has v hx hy i2 i2, ids_cmp.1] at c1
  rw [pseudo_cmp has v hx hx i2 j2, cmpI_eq0, if_pos rfl, ids_cmp.2] at c2
  refine Ev.step (fun _ => transhumancelaw2_VerTimes.j0.eq_2 ..) ?_
  cases hb : okR (pseudoR has v (markL x id00.data.toList)) with
  | false =>
    rw [hb, if_neg (by simp)] at px py
    exact Ev.val wx (Ev.val wy (Ev.val px (Ev.val py (Ev.neg (by simp [verOut]) (Ev.step (fun _ => transhumancelaw2_VerTimes.j1.eq_2 ..) (Ev.pos rfl (Ev.now _)))))))
  | true =>
    rw [hb, if_pos rfl] at px py pr
    refine Ev.val wx (Ev.val wy (Ev.val px (Ev.val py (Ev.neg (by simp [verOut]) (Ev.step (fun _ => transhumancelaw2_VerTimes.j1.eq_2 ..) (Ev.neg (by simp [verOut]) ?_))))))
    refine Ev.bind c1 (Ev.val pr ?_)
    have e3 : (decide ((if cmpI (x : Int) (y : Int) = 0 then (0 : Int) else cmpI (x : Int) (y : Int)) < 0) == decide ((x : Int) < (y : Int))) = true ∧ (((if cmpI (x : Int) (y : Int) = 0 then (0 : Int) else cmpI (x : Int) (y : Int)) == 0) == ((x : Int) == (y : Int))) = true := by
      rcases Int.lt_trichotomy (x : Int) (y : Int) with h | h | h
      · rw [cmpI_lt h, decide_eq_true h]
        have : ((x : Int) == (y : Int)) = false := by simp only [beq_eq_false_iff_ne, ne_eq]; omega
        rw [this]
        exact ⟨rfl, rfl⟩
      · rw [h, cmpI_eq0, show decide ((y : Int) < (y : Int)) = false from decide_eq_false (by omega)]
        have : ((y : Int) == (y : Int)) = true := by simp
        rw [this]
        exact ⟨rfl, rfl⟩
      · rw [cmpI_gt h, show decide ((x : Int) < (y : Int)) = false from decide_eq_false (by omega)]
        have : ((x : Int) == (y : Int)) = false := by simp only [beq_eq_false_iff_ne, ne_eq]; omega
        rw [this]
        exact ⟨rfl, rfl⟩
    exact Ev.pos e3.1 (Ev.pos e3.2 (Ev.bind c2 (Ev.ret rfl)))
theorem VerTimes : transhumancelaw2_VerTimes.Pure := by
  intro a0 a1 a2 a3 a4 _ _ _ _
  apply Ev.rounds
  unfold transhumancelaw2_VerTimes.f
  obtain ⟨v, e, h⟩ := make_ev a1 a2
  obtain ⟨x0, x1⟩ := win_bd a3 100000000000000 (by omega)
  obtain ⟨y0, y1⟩ := win_bd a4 100000000000000 (by omega)
  have wx := within_f a3 100000000000000 (by omega) (by omega)
  have wy := within_f a4 100000000000000 (by omega) (by omega)
  obtain ⟨x, hx⟩ : ∃ x : Nat, win a3 100000000000000 = (x : Int) := ⟨(win a3 100000000000000).toNat, by omega⟩
  obtain ⟨y, hy⟩ : ∃ y : Nat, win a4 100000000000000 = (y : Int) := ⟨(win a4 100000000000000).toNat, by omega⟩
  rw [hx] at wx x1
  rw [hy] at wy y1
  refine Ev.val known_true (Ev.pos rfl (Ev.bind e ?_))
  cases a0 with
  | true => exact Ev.pos rfl (times_go true v x y h.len h.bd.2.2 (by omega) (by omega) a3 a4 wx wy)
  | false => exact Ev.neg (by simp) (times_go false zeroVr x y (by decide) (by decide) (by omega) (by omega) a3 a4 wx wy)
end Go.Proofs.YtbdojilhmgfdcaaDoor.Pure
