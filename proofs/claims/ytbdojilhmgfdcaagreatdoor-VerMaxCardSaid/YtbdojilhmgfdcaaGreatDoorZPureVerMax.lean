/- VerMax answers true for every input: plain part. -/
import Derived.Test.YtbdojilhmgfdcaaGreatDoorZVz
import Derived.Test.YtbdojilhmgfdcaaGreatDoorZQ20
import Derived.Test.YtbdojilhmgfdcaaGreatDoorZQ21
namespace Go.Proofs.YtbdojilhmgfdcaaGreatDoor.Pure
open Go.RowKit Go.Proofs.YtbdojilhmgfdcaaGreatDoor.Q Go.Proofs.YtbdojilhmgfdcaaGreatDoorW.PrintWords Go.Proofs.YtbdojilhmgfdcaaGreatDoorW.PrintLast
def ofVr (v : Vr) : S25 := ⟨v.a, v.b, v.c, bs v.p⟩
theorem to_of (v : Vr) : toVr (ofVr v) = v := by
  unfold toVr ofVr
  simp only [data_bs]
theorem map_to_of (l : List Vr) : (l.map ofVr).map toVr = l := by
  rw [List.map_map]
  have : toVr ∘ ofVr = id := funext to_of
  rw [this, List.map_id]
theorem rd_of (l : List Vr) (i : Nat) (hi : i < l.length) : rd_T25 (l.map ofVr) (i : Int) = ofVr l[i] := by
  simp [rd_T25, List.getD, List.getElem?_eq_getElem hi]
def Small (l : List Vr) : Prop := l.length ≤ 100 ∧ ∀ x ∈ l, x.p.length ≤ 1000
theorem rmax_l0 (l : List Vr) (hl : Small l) : ∀ (d i : Nat) (m : Vr), i + d = l.length → 0 < i → m.p.length ≤ 1000 → Ev (fun k => transhumanceref2_Max.l0 k (l.map ofVr) i m.a m.b m.c (bs m.p)) (outV (maxGo (l.drop i) m))
  | 0, i, m, hd, h0, hm => by
    rw [List.drop_eq_nil_of_le (by omega)]
    exact Ev.step (fun _ => transhumanceref2_Max.l0.eq_2 ..) (Ev.neg (by rw [List.length_map]; omega) (Ev.now _))
  | d + 1, i, m, hd, h0, hm => by
    have hi : i < l.length := by omega
    have hlz := hl.1
    have hw : wrap64 ((i : Int) + 1) = ((i + 1 : Nat) : Int) := wrap_id (by omega) (by omega)
    have hxz := hl.2 l[i] (List.getElem_mem hi)
    rw [maxGo_at l i hi m]
    refine Ev.step (fun _ => transhumanceref2_Max.l0.eq_2 ..) (Ev.pos (by rw [List.length_map]; omega) (Ev.neg (by omega) (Ev.pos (by omega) ?_)))
    rw [rd_of l i hi, hw]
    refine Ev.bind (rcmp_ev l[i] m (by omega) (by omega)) ?_
    by_cases hp : 0 < cmpV l[i] m
    · rw [if_pos hp]
      exact Ev.pos hp (rmax_l0 l hl d (i + 1) l[i] (by omega) (by omega) hxz)
    · rw [if_neg hp]
      exact Ev.neg hp (rmax_l0 l hl d (i + 1) m (by omega) (by omega) hm)
theorem rmax_ev (l : List Vr) (hl : Small l) : Ev (fun k => transhumanceref2_Max.f k (l.map ofVr)) (outV (maxV l)) := by
  cases l with
  | nil => exact Ev.step (fun _ => transhumanceref2_Max.l0.eq_2 ..) (Ev.neg (by simp) (Ev.now _))
  | cons x l =>
    have h := rmax_l0 (x :: l) hl l.length 1 x (by simp; omega) (by omega) (hl.2 x List.mem_cons_self)
    have hw : wrap64 ((0 : Int) + 1) = 1 := wrap_id (by decide) (by decide)
    refine Ev.step (fun _ => transhumanceref2_Max.l0.eq_2 ..) (Ev.pos (by simp only [List.length_map, List.length_cons]; omega) (Ev.pos rfl (Ev.pos (by decide) ?_)))
    rw [hw]
    exact h
theorem vmax_f (l : List Vr) (hl : Small l) : ver_Max.f (l.map ofVr) = some (outV (maxV l)) := by
  have hall : ((l.map ofVr).all fun x => decide (x.f3.size ≤ 900000)) = true := by
    rw [List.all_eq_true]
    intro x hx
    obtain ⟨v, hv, rfl⟩ := List.mem_map.1 hx
    have := hl.2 v hv
    refine decide_eq_true ?_
    show (bs v.p).size ≤ 900000
    rw [size_bs]
    omega
  have hlen : (l.map ofVr).length ≤ 100000 := by rw [List.length_map]; have := hl.1; omega
  unfold ver_Max.f
  rw [map_to_of, if_pos ⟨hlen, hall⟩]
  rfl
theorem same_out (x m : Vr) : (x.a == m.a && (x.b == m.b && (x.c == m.c && ((bs x.p).toList == (bs m.p).toList)))) = true ↔ x = m := by
  rw [toList_bs, toList_bs]
  simp only [beq_iff_eq, Bool.and_eq_true]
  constructor
  · rintro ⟨h1, h2, h3, h4⟩
    cases x
    cases m
    simp only at h1 h2 h3 h4
    subst h1 h2 h3 h4
    rfl
  · rintro rfl
    exact ⟨rfl, rfl, rfl, rfl⟩
theorem max_l1 (l : List Vr) (hl : Small l) (hmz : (maxV l).p.length ≤ 1000) (hg : ∀ x ∈ l, cmpV x (maxV l) ≤ 0) : ∀ (d i : Nat) (b : Bool), i + d = l.length → (b = true ∨ ∃ j, ∃ h : j < l.length, i ≤ j ∧ l[j] = maxV l) →
    Ev (fun k => transhumancelaw2_VerMax.l1 k (l.map ofVr) b i (maxV l).a (maxV l).b (maxV l).c (bs (maxV l).p)) true
  | 0, i, b, hd, hb => by
    have hb2 : b = true := by
      rcases hb with hb | ⟨j, hj, hij, _⟩
      · exact hb
      · omega
    subst hb2
    refine Ev.step (fun _ => transhumancelaw2_VerMax.l1.eq_2 ..) (Ev.neg (by rw [List.length_map]; omega) (Ev.pos rfl (Ev.bind (rmax_ev l hl) (Ev.ret ?_))))
    simp [outV]
  | d + 1, i, b, hd, hb => by
    have hi : i < l.length := by omega
    have hlz := hl.1
    have hw : wrap64 ((i : Int) + 1) = ((i + 1 : Nat) : Int) := wrap_id (by omega) (by omega)
    have hxz := hl.2 l[i] (List.getElem_mem hi)
    have hle := hg l[i] (List.getElem_mem hi)
    refine Ev.step (fun _ => transhumancelaw2_VerMax.l1.eq_2 ..) (Ev.pos (by rw [List.length_map]; omega) ?_)
    rw [rd_of l i hi, hw]
    cases b with
    | true => exact Ev.pos rfl (Ev.pos (by omega) (Ev.bind (cmp_ev l[i] (maxV l) (by omega) (by omega)) (Ev.neg (by omega) (max_l1 l hl hmz hg d (i + 1) true (by omega) (.inl rfl)))))
    | false =>
      refine Ev.neg (by simp) (Ev.pos (by omega) (Ev.bind (cmp_ev l[i] (maxV l) (by omega) (by omega)) (Ev.neg (by omega) (max_l1 l hl hmz hg d (i + 1) _ (by omega) ?_))))
      obtain ⟨j, hj, hij, he⟩ := hb.resolve_left (by simp)
      by_cases e : i = j
      · subst e
        exact .inl ((same_out l[i] (maxV l)).2 he)
      · exact .inr ⟨j, hj, by omega, he⟩
theorem max_j1 (l : List Vr) (hl : Small l) : Ev (fun k => transhumancelaw2_VerMax.j1 k (l.map ofVr)) true := by
  refine Ev.step (fun _ => transhumancelaw2_VerMax.j1.eq_2 ..) (Ev.val (vmax_f l hl) ?_)
  by_cases h0 : l = []
  · subst h0
    refine Ev.pos rfl (Ev.step (fun _ => transhumancelaw2_VerMax.j2.eq_2 ..) ?_)
    have any : ∀ b : Bool, b = true → Ev (fun k => transhumancelaw2_VerMax.l1 k (([] : List Vr).map ofVr) b 0 (outV (maxV [])).1 (outV (maxV [])).2.1 (outV (maxV [])).2.2.1 (outV (maxV [])).2.2.2) true := by
      rintro b rfl
      exact max_l1 [] hl (by decide) (by simp) 0 0 true rfl (.inl rfl)
    exact any _ (by simp [outV, maxV, zeroVr, toList_bs])
  · obtain ⟨h1, h2⟩ := maxV_ok h0
    obtain ⟨j, hj, he⟩ := List.getElem_of_mem h1
    have hlen := List.length_pos_iff.2 h0
    refine Ev.neg (by rw [List.length_map]; omega) (Ev.step (fun _ => transhumancelaw2_VerMax.j2.eq_2 ..) ?_)
    exact max_l1 l hl (hl.2 _ h1) h2 l.length 0 false (by omega) (.inr ⟨j, hj, Nat.zero_le _, he⟩)
theorem max_l0 (ns ms : List Int) : ∀ (d i : Nat) (l : List Vr), i + d = 12 → l.length ≤ i → (∀ x ∈ l, x.p.length ≤ 1000) → Ev (fun k => transhumancelaw2_VerMax.l0 k ns ms (l.map ofVr) i) true
  | 0, i, l, hd, hl, hz => by
    have fin := max_j1 l ⟨by omega, hz⟩
    refine Ev.step (fun _ => transhumancelaw2_VerMax.l0.eq_2 ..) ?_
    by_cases c1 : (i : Int) < (ns.length : Int)
    · by_cases c2 : (i : Int) < (ms.length : Int)
      · exact Ev.pos c1 (Ev.pos c2 (Ev.neg (by omega) fin))
      · exact Ev.pos c1 (Ev.neg c2 fin)
    · exact Ev.neg c1 fin
  | d + 1, i, l, hd, hl, hz => by
    have fin := max_j1 l ⟨by omega, hz⟩
    refine Ev.step (fun _ => transhumancelaw2_VerMax.l0.eq_2 ..) ?_
    by_cases c1 : (i : Int) < (ns.length : Int)
    · by_cases c2 : (i : Int) < (ms.length : Int)
      · obtain ⟨v, e, h⟩ := make_ev (rd ns i) (rd ms i)
        have hw : wrap64 ((i : Int) + 1) = ((i + 1 : Nat) : Int) := wrap_id (by omega) (by omega)
        refine Ev.pos c1 (Ev.pos c2 (Ev.pos (by omega) (Ev.pos (by omega) (Ev.bind e (Ev.pos (by rw [List.length_map]; omega) ?_)))))
        have := max_l0 ns ms d (i + 1) (l ++ [v]) (by omega) (by simp; omega) (by
          intro x hx
          rcases List.mem_append.1 hx with hx | hx
          · exact hz x hx
          · rw [List.mem_singleton.1 hx]
            have := h.len
            omega)
        rw [List.map_append] at this
        rw [hw]
        exact this
      · exact Ev.pos c1 (Ev.neg c2 fin)
    · exact Ev.neg c1 fin
theorem VerMax : transhumancelaw2_VerMax.Pure := by
  intro l0 l1
  intros
  apply Ev.rounds
  unfold transhumancelaw2_VerMax.f
  exact Ev.val known_true (Ev.pos rfl (max_l0 l0 l1 12 0 [] rfl (by simp) (by simp)))
end Go.Proofs.YtbdojilhmgfdcaaGreatDoor.Pure
