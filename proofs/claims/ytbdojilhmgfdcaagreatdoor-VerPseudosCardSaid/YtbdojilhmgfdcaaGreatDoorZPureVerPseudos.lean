/- VerPseudos answers true for every input: plain part. -/
import Derived.Test.YtbdojilhmgfdcaaGreatDoorZVz
import Derived.Test.YtbdojilhmgfdcaaGreatDoorZVu
import Derived.Test.YtbdojilhmgfdcaaGreatDoorZQ23
namespace Go.Proofs.YtbdojilhmgfdcaaGreatDoor.Pure
open Go.RowKit Go.Proofs.YtbdojilhmgfdcaaGreatDoor.Q Go.Proofs.YtbdojilhmgfdcaaGreatDoorW.PrintWords Go.Proofs.YtbdojilhmgfdcaaGreatDoorW.PrintLast
def ids20 : ByteArray := (⟨#[48, 49, 50, 51, 52, 53, 54, 55, 56, 57, 97, 98, 99, 100, 101, 102, 48, 49, 50, 51]⟩ : ByteArray)
theorem ids20_ok : ∀ j : Fin 8, idB (ids20.extract 0 (12 + j.val)).data.toList = true ∧ (ids20.extract 0 (12 + j.val)).data.toList.all hexL = true ∧ (ids20.extract 0 (12 + j.val)).size = 12 + j.val ∧ ((ids20.extract 0 (12 + j.val)).extract 0 12).data.toList = (ids20.extract 0 (12 + j.val)).data.toList.take 12 := by decide +kernel
theorem pseudos_j2 (has : Bool) (v p : Vr) (t : Nat) (id : ByteArray) (hid : 12 ≤ id.size) (q : ByteArray) (hq : q.toList = (id.extract 0 12).toList) (hv : v.p.length ≤ 1000) (hp : p.p.length ≤ 3000) (hc : 0 ≤ v.c ∧ v.c ≤ 999999)
    (h1 : has = true → 0 < cmpV p v) (h2 : cmpV p (nextV has v) < 0) (b : Bool) (hb : b = (has && decide (v.p ≠ []))) :
    Ev (fun k => transhumancelaw2_VerPseudos.j2 k has (t : Int) id (t : Int) q true b v.a v.b v.c (bs v.p) p.a p.b p.c (bs p.p) v.a v.b (wrap64 (v.c + 1)) (⟨#[]⟩ : ByteArray)) true := by
  have hw : wrap64 (v.c + 1) = v.c + 1 := wrap_id (by omega) (by omega)
  rw [hw]
  refine Ev.step (fun _ => transhumancelaw2_VerPseudos.j2.eq_2 ..) ?_
  have c1 := cmp_ev p v (by omega) (by omega)
  cases hbb : b with
  | true =>
    rw [hbb] at hb
    have hh : has = true ∧ v.p ≠ [] := by simpa using hb.symm
    have hn : nextV has v = ⟨v.a, v.b, v.c, []⟩ := by unfold nextV; rw [if_pos hh]
    rw [hn] at h2
    have c2 := cmp_ev p ⟨v.a, v.b, v.c, []⟩ (by omega) (by simp)
    exact Ev.pos rfl (Ev.pos rfl (Ev.pos rfl (Ev.pos (by decide) (Ev.pos (by omega) (Ev.pos hq (Ev.pos hh.1 (Ev.bind c1 (Ev.pos (h1 hh.1) (Ev.bind c2 (Ev.ret (congrArg some (decide_eq_true h2))))))))))))
  | false =>
    rw [hbb] at hb
    have hh : ¬ (has = true ∧ v.p ≠ []) := by
      intro h
      rw [h.1, decide_eq_true h.2] at hb
      cases hb
    have hn : nextV has v = ⟨v.a, v.b, v.c + 1, []⟩ := by unfold nextV; rw [if_neg hh]
    rw [hn] at h2
    have c2 := cmp_ev p ⟨v.a, v.b, v.c + 1, []⟩ (by omega) (by simp)
    refine Ev.neg (by simp) (Ev.pos rfl (Ev.pos rfl (Ev.pos (by decide) (Ev.pos (by omega) (Ev.pos hq ?_)))))
    cases has with
    | true => exact Ev.pos rfl (Ev.bind c1 (Ev.pos (h1 rfl) (Ev.bind c2 (Ev.ret (congrArg some (decide_eq_true h2))))))
    | false => exact Ev.neg (by simp) (Ev.bind c2 (Ev.ret (congrArg some (decide_eq_true h2))))
theorem pr_len (has : Bool) (v : Vr) (m : List UInt8) (hv : v.p.length ≤ 1000) (hm : m.length ≤ 1000) : (pseudoR has v m).p.length ≤ 3000 := by
  unfold pseudoR
  split
  · show m.length ≤ 3000; omega
  · split
    · simp only [List.length_cons]; omega
    · simp only [List.length_append, List.length_cons]; omega
theorem pseudos_go (has : Bool) (v : Vr) (a3 : Int) (raw : ByteArray) (any : Int) (hr : raw.size ≤ 60) (hv : v.p.length ≤ 40) (hc : 0 ≤ v.c ∧ v.c ≤ 999999) (hz : has = false → v = zeroVr) :
    Ev (fun k => transhumancelaw2_VerPseudos.j0 k has a3 raw any v.a v.b v.c (bs v.p)) true := by
  obtain ⟨t0, t1⟩ := win_bd a3 100000000000000 (by omega)
  have wt := within_f a3 100000000000000 (by omega) (by omega)
  obtain ⟨t, ht⟩ : ∃ t : Nat, win a3 100000000000000 = (t : Int) := ⟨(win a3 100000000000000).toNat, by omega⟩
  rw [ht] at wt t1
  obtain ⟨j, hj⟩ := win_fin a3 8 (by decide)
  have wj : transhumancelaw2_within.f a3 8 = some (j.val : Int) := by rw [within_f a3 8 (by omega) (by omega)]; exact congrArg some hj
  have hjl := j.isLt
  have htb : t < 100000000000000 := by omega
  have wjj : wrap64 (12 + (j.val : Int)) = ((12 + j.val : Nat) : Int) := by rw [wrap_id (by omega) (by omega)]; omega
  obtain ⟨i1, i2, i3, i4⟩ := ids20_ok j
  have hf : ∀ (x : Int) (i : ByteArray), i.size ≤ 100 → ver_Pseudo.f has v.a v.b v.c (bs v.p) x i = some (verOut (pseudoV has v x i.data.toList)) := by
    intro x i hi
    unfold ver_Pseudo.f
    rw [size_bs, if_pos ⟨by omega, ⟨by omega, by omega⟩, by omega⟩, data_bs]
  have hf2 : ∀ (x : Int) (i : ByteArray), i.size ≤ 100 → transhumanceref2_Pseudo.f has v.a v.b v.c (bs v.p) x i = some (verOut (pseudoV has v x i.data.toList)) := by
    intro x i hi
    unfold transhumanceref2_Pseudo.f
    rw [size_bs, if_pos ⟨by omega, ⟨by omega, by omega⟩, by omega⟩, data_bs]
  have p1 := hf t (ids20.extract 0 (12 + j.val)) (by omega)
  have p2 := hf2 t (ids20.extract 0 (12 + j.val)) (by omega)
  have p3 := hf any raw (by omega)
  have p4 := hf2 any raw (by omega)
  refine Ev.step (fun _ => transhumancelaw2_VerPseudos.j0.eq_2 ..) (Ev.val wt (Ev.val wj ?_))
  rw [wjj]
  have hm : pseudoV has v t (ids20.extract 0 (12 + j.val)).data.toList = if rightV (pseudoR has v (markL t (ids20.extract 0 (12 + j.val)).data.toList)).a (pseudoR has v (markL t (ids20.extract 0 (12 + j.val)).data.toList)).b (pseudoR has v (markL t (ids20.extract 0 (12 + j.val)).data.toList)).c (pseudoR has v (markL t (ids20.extract 0 (12 + j.val)).data.toList)).p = true then some (pseudoR has v (markL t (ids20.extract 0 (12 + j.val)).data.toList)) else none := by
    unfold pseudoV
    rw [if_neg (by rw [i1]; simp; omega)]
    rfl
  have hnext : ∀ r : Option Vr, (r = none ∨ r = some (pseudoR has v (markL t (ids20.extract 0 (12 + j.val)).data.toList))) → Ev (fun k => transhumancelaw2_VerPseudos.j1 k has (t : Int) (ids20.extract 0 (12 + j.val)) (verOut r).2.2.2.2 false v.a v.b v.c (bs v.p) (verOut r).1 (verOut r).2.1 (verOut r).2.2.1 (verOut r).2.2.2.1) true := by
    intro r hr
    rcases hr with rfl | rfl
    · exact Ev.step (fun _ => transhumancelaw2_VerPseudos.j1.eq_2 ..) (Ev.neg (by simp) (Ev.neg (by simp [verOut]) (Ev.ret (by simp [verOut]))))
    · have hlen := mark_len htb (i := (ids20.extract 0 (12 + j.val)).data.toList) (by rw [size_list]; omega)
      have hpl := pr_len has v (markL t (ids20.extract 0 (12 + j.val)).data.toList) (by omega) (by omega)
      have hbh := behind_pseudo has v htb i2 (show 12 ≤ (ids20.extract 0 (12 + j.val)).data.toList.length by rw [size_list]; omega)
      have hls := pseudo_less has v (markL t (ids20.extract 0 (12 + j.val)).data.toList) hz
      have hmo : has = true → 0 < cmpV (pseudoR has v (markL t (ids20.extract 0 (12 + j.val)).data.toList)) v := by
        rintro rfl
        exact pseudo_more v _
      generalize pseudoR has v (markL t (ids20.extract 0 (12 + j.val)).data.toList) = p at *
      have fb : ver_Behind.f p.a p.b p.c (bs p.p) = some ((t : Int), bs ((ids20.extract 0 (12 + j.val)).data.toList.take 12), true) := by
        unfold ver_Behind.f
        rw [size_bs, if_pos (by omega), data_bs, hbh]
        rfl
      have hq : (bs ((ids20.extract 0 (12 + j.val)).data.toList.take 12)).toList = ((ids20.extract 0 (12 + j.val)).extract 0 12).toList := by
        rw [toList_bs, ← i4, Lib.toList_data]
      refine Ev.step (fun _ => transhumancelaw2_VerPseudos.j1.eq_2 ..) (Ev.neg (by simp) (Ev.pos rfl (Ev.val fb ?_)))
      cases hh : has with
      | true =>
        subst hh
        refine Ev.pos rfl (pseudos_j2 true v p t _ (by omega) _ hq (by omega) hpl hc hmo hls _ ?_)
        rw [toList_bs, Bool.true_and, Bool.eq_iff_iff]
        simp
      | false =>
        subst hh
        exact Ev.neg (by simp) (pseudos_j2 false v p t _ (by omega) _ hq (by omega) hpl hc hmo hls _ rfl)
  have h12 : (0 : Int) ≤ ((12 + j.val : Nat) : Int) := by omega
  refine Ev.pos h12 (Ev.pos (by omega) (Ev.val p1 (Ev.val p2 (Ev.val p3 (Ev.val p4 (Ev.neg (by simp) (Ev.neg (by simp) (Ev.neg (by simp) ?_))))))))
  have e : ((verOut (pseudoV has v any raw.data.toList)).2.2.2.2 != (verOut (pseudoV has v any raw.data.toList)).2.2.2.2) = false := by simp
  rw [e]
  refine hnext _ ?_
  rw [hm]
  split
  · exact .inr rfl
  · exact .inl rfl
theorem VerPseudos : transhumancelaw2_VerPseudos.Pure := by
  intro a0 a1 a2 a3 a4 a5
  intros
  apply Ev.rounds
  unfold transhumancelaw2_VerPseudos.f
  refine Ev.val known_true (Ev.pos rfl ?_)
  by_cases hr : (a4.size : Int) > 60
  · exact Ev.pos hr (Ev.now _)
  obtain ⟨v, e, h⟩ := make_ev a1 a2
  refine Ev.neg hr (Ev.bind e ?_)
  cases a0 with
  | true => exact Ev.pos rfl (pseudos_go true v a3 a4 a5 (by omega) h.len h.bd.2.2 (fun h => by cases h))
  | false => exact Ev.neg (by simp) (pseudos_go false zeroVr a3 a4 a5 (by omega) (by decide) (by decide) (fun _ => rfl))
end Go.Proofs.YtbdojilhmgfdcaaGreatDoor.Pure
