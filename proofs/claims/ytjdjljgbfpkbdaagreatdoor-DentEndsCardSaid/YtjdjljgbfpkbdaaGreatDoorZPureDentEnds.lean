/- DentEnds answers true for every input: plain part. -/
import Derived.Test.YtjdjljgbfpkbdaaGreatDoorZDk
import Derived.Test.YtjdjljgbfpkbdaaGreatDoorZDPyg
import Derived.Test.YtjdjljgbfpkbdaaGreatDoorZQ29
set_option linter.unusedVariables false
set_option linter.unusedSimpArgs false
namespace Go.Proofs.YtjdjljgbfpkbdaaGreatDoor.Pure
open Go.RowKit Go.Proofs.YtjdjljgbfpkbdaaGreatDoor.Q Go.Proofs.YtjdjljgbfpkbdaaGreatDoorW.PrintWords Go.Proofs.YtjdjljgbfpkbdaaGreatDoorW.PrintLast
def endTexts : List ByteArray := [(⟨#[108, 111, 99, 107, 115, 58]⟩ : ByteArray), (⟨#[108, 111, 99, 107, 115, 58, 10]⟩ : ByteArray), (⟨#[35, 32, 120]⟩ : ByteArray), (⟨#[32, 32, 32]⟩ : ByteArray), (⟨#[10, 10]⟩ : ByteArray), (⟨#[32, 35, 32, 120, 10, 108, 111, 99, 107, 115, 58, 10, 35]⟩ : ByteArray)]
theorem endTexts_run : ∀ j : Fin 6, (locksD (rdOf ByteArray.empty endTexts (j.val : Int)).data.toList).1.isEmpty = true ∧ (locksD (rdOf ByteArray.empty endTexts (j.val : Int)).data.toList).2 = (0, 0) ∧ (rdOf ByteArray.empty endTexts (j.val : Int)).size ≤ 100 := by decide +kernel
theorem endTexts_read (j : Fin 6) : dent_Locks.f (rdOf ByteArray.empty endTexts (j.val : Int)) = some (outs [], 0, 0, 0) := by
  obtain ⟨h1, h2, h3⟩ := endTexts_run j
  refine dent_read ?_ (by omega)
  generalize locksD (rdOf ByteArray.empty endTexts (j.val : Int)).data.toList = x at *
  obtain ⟨a, b⟩ := x
  simp only at h1 h2
  rw [List.isEmpty_iff] at h1
  subst h1 h2
  rfl
theorem DentEnds : transhumancelaw7_DentEnds.Pure := by
  intro l0 l1 a2 _ _ _ _ _ _ _
  apply Ev.rounds
  unfold transhumancelaw7_DentEnds.f
  refine Ev.val known_true (Ev.pos rfl ?_)
  by_cases c1 : (l1.length : Int) > 60
  · exact Ev.pos c1 (Ev.now _)
  obtain ⟨r, r1, r2, r3⟩ := locks_make l0 l1 8 (by omega)
  refine Ev.neg c1 (Ev.bind r1 (Ev.bind (w7x_ev r (by omega) r2.each) ?_))
  have jt : Ev (fun k => transhumancelaw7_DentEnds.j0 k a2 (outs r) (bs (wtext r)) true) true := Ev.step (fun _ => transhumancelaw7_DentEnds.j0.eq_2 ..) (Ev.pos rfl (Ev.now _))
  by_cases c2 : ((bs (wtext r)).size : Int) = 0
  · exact Ev.pos c2 jt
  refine Ev.neg c2 ?_
  have hne : r ≠ [] := by
    rintro rfl
    exact c2 rfl
  have hT : wtext r = blocksDoc (wblks r) := if_neg hne
  by_cases c3 : ((bs (wtext r)).size : Int) > 7000
  · rw [decide_eq_true c3]; exact jt
  rw [decide_eq_false c3]
  rw [hT] at c2 c3 ⊢
  rw [size_bs] at c2 c3
  have hok := r2.ok (l := r) (by omega)
  have g1 : ∀ b ∈ wblks r, Bl b := fun b hb => by
    obtain ⟨s, x, hx, rfl⟩ := blksFrom_mem hb
    exact blkOf_bl wq_qk (hok.each x hx) s
  have g2 : ∀ b ∈ wblks r, ∀ f ∈ b, f.tidy := fun b hb => by
    obtain ⟨s, x, hx, rfl⟩ := blksFrom_mem hb
    exact blkOf_tidy wq_qk (hok.each x hx) s
  have g3 : blocksLocks (wblks r) = r := blksFrom_locks _ _ r 0
  have gne : wblks r ≠ [] := by
    intro h
    rw [h] at g3
    exact hne g3.symm
  have hA := bare_read gne g1 g2 (by rw [g3]; exact hok) (by omega)
  have hB := tail_read (bl := wblks r) [32, 32, 35, 32, 120] (.inr rfl) (by decide) rfl g1 g2 (by rw [g3]; exact hok) (by simp only [List.length_cons, List.length_nil]; omega)
  rw [g3] at hA hB
  generalize hD : blocksDoc (wblks r) = D at *
  have hw : wrap64 (((bs D).size : Int) - 1) = ((D.length - 1 : Nat) : Int) := by rw [size_bs, wrap_id (by omega) (by omega)]; omega
  have hx : (bs D).extract 0 (D.length - 1) = bs D.dropLast := by
    apply ext_bs
    rw [ByteArray.data_extract, data_bs]
    simp [bs, List.extract_eq_take_drop, List.dropLast_eq_take]
  have fA : dent_Locks.f ((bs D).extract 0 (D.length - 1)) = some (outs r, 0, 0, 0) := by
    rw [hx]
    exact dent_read (by rw [data_bs]; exact hA) (by rw [size_bs, List.length_dropLast]; omega)
  have fB : dent_Locks.f (bs D ++ (⟨#[32, 32, 35, 32, 120]⟩ : ByteArray)) = some (outs r, 0, 0, 0) := by
    refine dent_read ?_ ?_
    · have e : (bs D ++ (⟨#[32, 32, 35, 32, 120]⟩ : ByteArray)).data.toList = D ++ [32, 32, 35, 32, 120] := by simp [ByteArray.data_append, bs]
      rw [e]
      exact hB
    · rw [ByteArray.size_append, size_bs]
      show D.length + 5 ≤ _
      omega
  obtain ⟨j, hj⟩ := win_fin a2 6 (by omega)
  have hin : transhumancelaw7_within.f a2 6 = some (j.val : Int) := by rw [within_f a2 6 (by omega) (by omega), show (6 : Int) = ((6 : Nat) : Int) from rfl, hj]
  have fC := endTexts_read j
  have hj6 := j.isLt
  have hrows := rows_ev r (by omega)
  refine Ev.step (fun _ => transhumancelaw7_DentEnds.j0.eq_2 ..) (Ev.neg (by simp) ?_)
  rw [hw]
  refine Ev.pos (by omega) (Ev.pos (by rw [size_bs]; omega) ?_)
  rw [show (0 : Nat) = 0 from rfl, Int.toNat_natCast]
  refine Ev.val fA (Ev.pos (by rw [size_bs]; omega) (Ev.val fB (Ev.val (a := endTexts) rfl (Ev.val hin (Ev.pos (by omega) (Ev.pos (by show (j.val : Int) < ((6 : Nat) : Int); omega) (Ev.val fC ?_)))))))
  exact Ev.pos rfl (Ev.bind hrows (Ev.pos rfl (Ev.pos rfl (Ev.bind hrows (Ev.pos rfl (Ev.pos rfl (Ev.now _)))))))
end Go.Proofs.YtjdjljgbfpkbdaaGreatDoor.Pure
