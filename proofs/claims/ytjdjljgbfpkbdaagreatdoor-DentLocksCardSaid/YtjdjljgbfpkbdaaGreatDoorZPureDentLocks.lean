/- DentLocks answers true for every input: plain part. -/
import Derived.Test.YtjdjljgbfpkbdaaGreatDoorZDk
import Derived.Test.YtjdjljgbfpkbdaaGreatDoorZDPz
import Derived.Test.YtjdjljgbfpkbdaaGreatDoorZQ25
set_option linter.unusedVariables false
set_option linter.unusedSimpArgs false
namespace Go.Proofs.YtjdjljgbfpkbdaaGreatDoor.Pure
open Go.RowKit Go.Proofs.YtjdjljgbfpkbdaaGreatDoor.Q Go.Proofs.YtjdjljgbfpkbdaaGreatDoorW.PrintWords Go.Proofs.YtjdjljgbfpkbdaaGreatDoorW.PrintLast
theorem lk_outs (l : List Lk) : (outs l).map toLk = l := by
  unfold outs
  rw [List.map_map]
  exact (List.map_congr_left fun x _ => rfl).trans (List.map_id l)
theorem write_some {r : List Lk} (hne : r ≠ []) (h : ∀ x ∈ r, Fine x) (hl : r.length ≤ 40) : dent_Write.f (outs r) = some (bs (wtext r)) := by
  have hall : (r.all smallB) = true := by
    refine List.all_eq_true.2 fun x hx => ?_
    have hf := h x hx
    have h0 := hf.le 0 (by omega)
    have h1 := hf.le 1 (by omega)
    have h2 := hf.le 2 (by omega)
    have h3 := hf.le 3 (by omega)
    have h4 := hf.le 4 (by omega)
    simp only [Lk.get] at h0 h1 h2 h3 h4
    simp only [smallB, Bool.and_eq_true, decide_eq_true_eq]
    omega
  have ht := writeD_text hne
  have hm := lk_outs r
  cases hr : outs r with
  | nil =>
    exfalso
    apply hne
    have := congrArg List.length hr
    simp only [outs, List.length_map, List.length_nil] at this
    exact List.eq_nil_of_length_eq_zero this
  | cons y m =>
    rw [hr] at hm
    rw [dent_Write.f_cons, hm, if_pos ⟨by have := congrArg List.length hm; rw [List.length_map] at this; omega, hall⟩, ht]
    rfl
theorem DentLocks : transhumancelaw7_DentLocks.Pure := by
  intro l0 l1 _ _ _ _ _ _
  apply Ev.rounds
  unfold transhumancelaw7_DentLocks.f
  refine Ev.val known_true (Ev.pos rfl ?_)
  by_cases c1 : (l1.length : Int) > 60
  · exact Ev.pos c1 (Ev.now _)
  obtain ⟨r, r1, r2, r3⟩ := locks_make l0 l1 40 (by omega)
  refine Ev.neg c1 (Ev.bind r1 ?_)
  have hW := w7x_ev r (by omega) r2.each
  have hrows := rows_ev r (by omega)
  by_cases hne : r = []
  · subst hne
    have hD : dent_Locks.f (⟨#[]⟩ : ByteArray) = some (outs [], 0, 0, 0) := dent_read (by rfl) (by decide)
    exact Ev.val (a := (⟨#[]⟩ : ByteArray)) rfl (Ev.val hD (Ev.bind hW (Ev.pos rfl (Ev.neg (by decide) (Ev.pos rfl (Ev.pos rfl (Ev.bind hrows (Ev.now _))))))))
  · have hT : wtext r = blocksDoc (wblks r) := if_neg hne
    have hdl := doc_len r r2.each
    have hwr := write_some hne r2.each (by omega)
    rw [hT] at hW hwr
    by_cases h8 : ((bs (blocksDoc (wblks r))).size : Int) > 8000
    · obtain ⟨q, hq⟩ := dent_some (bs (blocksDoc (wblks r))) (by rw [size_bs]; omega)
      exact Ev.val hwr (Ev.val hq (Ev.bind hW (Ev.pos rfl (Ev.pos h8 (Ev.now _)))))
    · have hread := made_read wq_qk (fun _ => 0) (r2.ok (by omega)) (by rw [size_bs] at h8; exact (by omega : (blocksDoc (wblks r)).length ≤ 8000))
      have hD := dent_read (T := bs (blocksDoc (wblks r))) (l := r) (by rw [data_bs]; exact hread) (by omega)
      exact Ev.val hwr (Ev.val hD (Ev.bind hW (Ev.pos rfl (Ev.neg h8 (Ev.pos rfl (Ev.pos rfl (Ev.bind hrows (Ev.now _))))))))
end Go.Proofs.YtjdjljgbfpkbdaaGreatDoor.Pure
