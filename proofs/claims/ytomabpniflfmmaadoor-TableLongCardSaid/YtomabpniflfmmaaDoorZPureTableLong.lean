/- TableLong answers true for every input: plain part, over what the program's table.Locks computes. -/
import Derived.Test.YtomabpniflfmmaaDoorZPk
import Derived.Test.YtomabpniflfmmaaDoorZPng
import Derived.Test.YtomabpniflfmmaaDoorZQ17
namespace Go.Proofs.YtomabpniflfmmaaDoor.Pure
open Go.RowKit Go.Proofs.YtomabpniflfmmaaDoor.Q Go.Proofs.YtomabpniflfmmaaDoorW.PrintWords Go.Proofs.YtomabpniflfmmaaDoorW.PrintLast
theorem strOf_rep (n : Nat) : strOfNums (List.replicate n 35) = bs (List.replicate n 35) := by
  have : R.nats (List.replicate n 35) = List.replicate n 35 := by simp [R.nats]
  rw [← this, strOf_list]
theorem notes_locks (n : Nat) (h0 : 0 < n) (h : n ≤ 8000) : locksR (bs (List.replicate n 35)) = ([], 0, 0) := by
  have hr : Rem (List.replicate n 35) := by
    obtain ⟨m, rfl⟩ : ∃ m, n = m + 1 := ⟨n - 1, by omega⟩
    refine .inr ⟨List.replicate m 35, List.replicate_succ, ?_⟩
    rw [List.all_eq_true]
    intro x hx
    rw [(List.mem_replicate.1 hx).2]
    rfl
  have ht : (⟨0, 0, [], [], [], [], [], List.replicate n 35⟩ : It).text = List.replicate n 35 := by
    simp [It.text]
  have := items_locks_end [] (⟨0, 0, [], [], [], [], [], List.replicate n 35⟩ : It) ⟨⟨rfl, rfl, rfl, rfl, hr, fun h => by simp at h, fun h => by simp at h⟩, trivial⟩
    (by rw [ht]; simpa [itsText] using h) (by rw [ht]; intro e; have := congrArg List.length e; simp at this; omega) rfl
  rw [ht] at this
  exact this
theorem long_end (n : Nat) (h1 : 7995 ≤ n) (h2 : n ≤ 8004) : Ev (fun k => transhumancelaw6_TableLong.l0 k n (List.replicate n 35) n) true := by
  refine Ev.step (fun _ => transhumancelaw6_TableLong.l0.eq_2 ..) (Ev.neg (by omega) ?_)
  rw [strOf_rep]
  have hz : (bs (List.replicate n 35)).size = n := by rw [size_bs, List.length_replicate]
  by_cases h : n ≤ 8000
  · exact Ev.val (locks_f_ok (by omega) (notes_locks n (by omega) h)) (Ev.pos rfl (Ev.pos (by omega) (Ev.pos rfl (Ev.now _))))
  · have hl : locksR (bs (List.replicate n 35)) = ([], 0, 2) := by
      unfold locksR
      rw [if_pos (by omega)]
    refine Ev.val (locks_f_bad (by omega) (by decide) hl) (Ev.pos rfl (Ev.neg (by omega) (Ev.pos (by omega) (Ev.pos rfl (Ev.ret ?_)))))
    rw [List.take_zero]
    rfl
theorem long_l0 (n : Nat) (h1 : 7995 ≤ n) (h2 : n ≤ 8004) : ∀ (d i : Nat), i + d = n → Ev (fun k => transhumancelaw6_TableLong.l0 k n (List.replicate i 35 ++ List.replicate d 0) i) true
  | 0, i, hd => by
    obtain rfl : i = n := by omega
    simpa using long_end i h1 h2
  | d + 1, i, hd => by
    have hw : wrap64 ((i : Int) + 1) = ((i + 1 : Nat) : Int) := wrap_id (by omega) (by omega)
    have hrec := long_l0 n h1 h2 d (i + 1) (by omega)
    refine Ev.step (fun _ => transhumancelaw6_TableLong.l0.eq_2 ..) (Ev.pos (by omega) (Ev.pos (by omega) (Ev.pos (by simp; omega) ?_)))
    have hset : (List.replicate i (35 : Int) ++ List.replicate (d + 1) 0).set (i : Int).toNat 35 = List.replicate (i + 1) 35 ++ List.replicate d 0 := by
      rw [Int.toNat_natCast, List.set_append_right _ _ (by simp), List.length_replicate, Nat.sub_self, List.replicate_succ, List.set_cons_zero, List.replicate_succ']
      simp
    rw [hset, hw]
    exact hrec
theorem TableLong : transhumancelaw6_TableLong.Pure := by
  intro a0 _
  apply Ev.rounds
  unfold transhumancelaw6_TableLong.f
  obtain ⟨j, hj⟩ := win_fin a0 10 (by decide)
  have hj' : win a0 10 = (j.val : Int) := hj
  have hjl := j.isLt
  refine Ev.val known_true (Ev.pos rfl (Ev.val (within_f a0 10 (by decide) (by decide)) ?_))
  rw [hj', show wrap64 (7995 + (j.val : Int)) = ((7995 + j.val : Nat) : Int) from wrap_id (by omega) (by omega)]
  refine Ev.pos (by omega) (Ev.pos (by omega) ?_)
  rw [Int.toNat_natCast]
  exact long_l0 (7995 + j.val) (by omega) (by omega) (7995 + j.val) 0 (by omega)
end Go.Proofs.YtomabpniflfmmaaDoor.Pure
