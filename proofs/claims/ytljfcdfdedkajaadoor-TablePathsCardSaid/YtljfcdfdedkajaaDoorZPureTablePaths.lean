/- TablePaths answers true for every input: plain part, over what table.Locks computes. -/
import Derived.Test.YtljfcdfdedkajaaDoorZPp
import Derived.Test.YtljfcdfdedkajaaDoorZQ10
namespace Go.Proofs.YtljfcdfdedkajaaDoor.Pure
open Go.RowKit Go.Proofs.YtljfcdfdedkajaaDoor.Q Go.Proofs.YtljfcdfdedkajaaDoorW.PrintWords Go.Proofs.YtljfcdfdedkajaaDoorW.PrintLast
def H1 : List UInt8 := [91, 91, 108, 111, 99, 107, 93, 93, 10, 114, 101, 118, 105, 115, 105, 111, 110, 32, 61, 32, 34, 49, 34, 10]
def F0 : List UInt8 := [114, 111, 111, 116, 32, 61, 32]
def F4 : List UInt8 := [114, 111, 111, 116, 32, 61, 32, 34, 97, 34, 10, 115, 111, 117, 114, 99, 101, 32, 61, 32]
def hv1 : ByteArray := ⟨#[]⟩ ++ (nm 2 ++ spc)
def x1 : Lk := Lk.zero.set 2 ⟨[49].toArray⟩
theorem front_run (s : ByteArray) (m : List UInt8) (h : At s 0 (H1 ++ m)) : ∃ j, runs s 2 st0 ⟨j, [x1], hv1⟩ ∧ At s j m := by
  have e : H1 ++ m = [] ++ (lockWord.data.toList ++ ([] ++ ([] ++ ([10] ++ (([] ++ ((nm 2).data.toList ++ ([32] ++ (61 :: ([32] ++ (R.quoteL [49] ++ ([] ++ ([] ++ ([10] ++ m))))))))))))))  := rfl
  rw [e] at h
  obtain ⟨j, a1, a2, a3⟩ := line_head (l := []) (hv := ⟨#[]⟩) h rfl rfl (.inl rfl) (.inl rfl) rfl (by decide)
  obtain ⟨i, b1, b2, b3⟩ := line_field (l := []) (x := Lk.zero) (hv := ⟨#[]⟩) (k := 2) (by decide) a2 rfl (by decide) (by decide) rfl (.inl rfl) (.inl rfl) (by decide) (by decide) (by simp)
  exact ⟨i, ⟨_, a1, a3, ⟨_, b1, b3, rfl⟩⟩, b2⟩
def Fine6 (s : ByteArray) (n : Nat) : Prop := (∃ l, locksR s = (l, 0, 0) ∧ l.length ≤ 1) ∨ locksR s = ([], n, 7)
theorem paths_end {s : ByteArray} {n a k : Nat} {x : Lk} {hv : ByteArray} {v : List UInt8} (hk : k < 5) (hq : (k == 0 || k == 4) = true) (hs : s.size ≤ 8000) (hr : runs s n st0 ⟨a, [x], hv⟩)
    (h : At s a ([] ++ ((nm k).data.toList ++ ([32] ++ (61 :: ([32] ++ (R.quoteL v ++ ([] ++ ([] ++ ([10] ++ [])))))))))) (hv0 : Lib.contains hv.data.toList ((nm k) ++ spc).data.toList = false) (hvp : v.all plainB = true)
    (he : rightL v = true → endedE [x.set k ⟨v.toArray⟩] = 0) : Fine6 s (a + (nm k).data.toList.length + 3) := by
  cases hrt : rightL v with
  | true =>
    obtain ⟨j, b1, b2, b3⟩ := line_field (l := []) (x := x) (hv := hv) hk h rfl (by decide) (by decide) rfl (.inl rfl) (.inl rfl) hv0 hvp (fun _ => hrt)
    have h2 := runs_add hr (runs_one b1 b3)
    have h3 := locks_runs hs h2 (At.nil b2).2
    simp only [List.nil_append] at h3
    rw [if_pos (he hrt)] at h3
    exact .inl ⟨_, h3, by simp⟩
  | false =>
    have b1 := line_field_bad (l := []) (x := x) (hv := hv) hk h rfl (by decide) (by decide) hv0 hvp hq hrt
    have hz := h.size
    simp only [List.length_append, List.length_cons, List.length_nil] at hz
    have hle := runs_le hr
    have h3 := lines_bad n (s.size + 1) st0 _ hr (by simp only; omega) b1 (by have : st0.a = 0 := rfl; simp only at hle; omega)
    refine .inr ?_
    have h4 := locksR_bad hs h3
    rw [h4]
    simp only [List.length_nil, List.length_cons, Nat.add_zero, Nat.add_assoc, Nat.reduceAdd]
theorem one_fine (y : Lk) (h1 : y.root.toList.isEmpty = false) (h2 : y.rev.toList.isEmpty = false) : endedE [y] = 0 := by
  rw [show [y] = [] ++ [y] from rfl, endedE_snoc, h1, h2]
  simp
theorem paths_root (v : List UInt8) (hz : v.length ≤ 2000) (hvp : v.all plainB = true) (hq : (R.quoteL v).length ≤ 4002) : Fine6 (bs (H1 ++ (F0 ++ (R.quoteL v ++ [10])))) (H1 ++ F0).length := by
  have h := At.zero (bs (H1 ++ (F0 ++ (R.quoteL v ++ [10]))))
  rw [data_bs] at h
  obtain ⟨j, r1, r2⟩ := front_run _ _ h
  have hs : (bs (H1 ++ (F0 ++ (R.quoteL v ++ [10])))).size ≤ 8000 := by
    rw [size_bs]
    simp only [List.length_append, H1, F0, List.length_cons, List.length_nil]
    omega
  have hj : j = 24 := by
    have e1 := r2.size
    rw [size_bs] at e1
    simp only [List.length_append, H1, F0, List.length_cons, List.length_nil] at e1
    omega
  have := paths_end (k := 0) (by decide) rfl hs r1 r2 (by decide) hvp (fun hr => by
    have : v ≠ [] := rightL_ne hr
    cases v with
    | nil => exact absurd rfl this
    | cons b v => exact one_fine _ (by show (bs (b :: v)).toList.isEmpty = false; rw [toList_bs]; rfl) (by show (bs [49]).toList.isEmpty = false; rw [toList_bs]; rfl))
  rw [hj] at this
  exact this
theorem paths_source (v : List UInt8) (hz : v.length ≤ 2000) (hvp : v.all plainB = true) (hq : (R.quoteL v).length ≤ 4002) : Fine6 (bs (H1 ++ (F4 ++ (R.quoteL v ++ [10])))) (H1 ++ F4).length := by
  have h := At.zero (bs (H1 ++ (F4 ++ (R.quoteL v ++ [10]))))
  rw [data_bs] at h
  obtain ⟨j, r1, r2⟩ := front_run _ _ h
  have hs : (bs (H1 ++ (F4 ++ (R.quoteL v ++ [10])))).size ≤ 8000 := by
    rw [size_bs]
    simp only [List.length_append, H1, F4, List.length_cons, List.length_nil]
    omega
  have e : F4 ++ (R.quoteL v ++ [10]) = [] ++ ((nm 0).data.toList ++ ([32] ++ (61 :: ([32] ++ (R.quoteL [97] ++ ([] ++ ([] ++ ([10] ++ ([] ++ ((nm 4).data.toList ++ ([32] ++ (61 :: ([32] ++ (R.quoteL v ++ ([] ++ ([] ++ ([10] ++ []))))))))))))))))) := rfl
  rw [e] at r2
  obtain ⟨i, b1, b2, b3⟩ := line_field (l := []) (x := x1) (hv := hv1) (k := 0) (by decide) r2 rfl (by decide) (by decide) rfl (.inl rfl) (.inl rfl) (by decide) (by decide) (fun _ => by decide)
  have hi : i = 35 := by
    have e1 := b2.size
    rw [size_bs] at e1
    simp only [List.length_append, H1, F4, List.length_cons, List.length_nil] at e1
    have : (nm 4).data.toList.length = 6 := rfl
    have : (nm 0).data.toList.length = 4 := rfl
    have : (R.quoteL [97]).length = 3 := rfl
    omega
  have := paths_end (k := 4) (by decide) rfl hs (runs_add r1 (runs_one b1 b3)) b2 (by decide) hvp (fun hr => one_fine _ (by show (bs [97]).toList.isEmpty = false; rw [toList_bs]; rfl) (by show (bs [49]).toList.isEmpty = false; rw [toList_bs]; rfl))
  rw [hi] at this
  exact this
theorem quote_len (v : List UInt8) : (R.quoteL v).length ≤ 2 * v.length + 2 := by
  have : ∀ b, (R.quoteB b).length ≤ 2 := fun b => by
    unfold R.quoteB
    repeat' split
    all_goals simp
  have h2 : ∀ l : List UInt8, (l.flatMap R.quoteB).length ≤ 2 * l.length := by
    intro l
    induction l with
    | nil => simp
    | cons b l ih =>
      rw [List.flatMap_cons, List.length_append, List.length_cons]
      have := this b
      omega
  unfold R.quoteL
  have := h2 v
  simp only [List.length_append, List.length_cons, List.length_nil]
  omega
theorem paths_j0 (v head : List UInt8) (hz : v.length ≤ 60) (hh : head.length ≤ 100) (hf : Fine6 (bs (head ++ (R.quoteL v ++ [10]))) head.length) : Ev (fun k => transhumancelaw6_TablePaths.j0 (k + 1) (bs v) (bs head)) true := by
  have hq := quote_len v
  have hsz : (bs (head ++ (R.quoteL v ++ [10]))).size ≤ 140737488351232 := by
    rw [size_bs]
    simp only [List.length_append, List.length_cons, List.length_nil]
    omega
  have e1 : (bs head ++ bs (R.quoteL v)) ++ (⟨#[10]⟩ : ByteArray) = bs (head ++ (R.quoteL v ++ [10])) := by
    rw [show (⟨#[10]⟩ : ByteArray) = bs [10] from rfl, bs_append, bs_append, List.append_assoc]
  have hqe := quote_ev (bs v) (by rw [size_bs]; omega)
  rw [data_bs] at hqe
  unfold transhumancelaw6_TablePaths.j0
  refine Ev.bind hqe (Ev.pos ?_ (Ev.pos ?_ ?_))
  · rw [size_bs, size_bs]; omega
  · rw [ByteArray.size_append, size_bs, size_bs]; omega
  rw [e1]
  generalize hS : bs (head ++ (R.quoteL v ++ [10])) = S at *
  have hS2 : head.length ≤ S.size := by rw [← hS, size_bs, List.length_append]; omega
  rcases hf with ⟨l, h1, h2⟩ | h1
  · have h3 := locks_f_ok hsz h1
    refine Ev.val h3 (Ev.val (show transhumanceref6_Locks.f S = _ from h3) (Ev.pos rfl (Ev.pos rfl (Ev.bind (rows_ev l (by omega)) (Ev.pos rfl (Ev.pos rfl (Ev.now _)))))))
  · have h3 := locks_f_bad hsz (by decide) h1
    refine Ev.val h3 (Ev.val (show transhumanceref6_Locks.f S = _ from h3) (Ev.pos rfl (Ev.pos (by simp) ?_)))
    refine Ev.bind (rows_ev [] (by simp)) (Ev.pos rfl (Ev.neg (show ¬ (7 : Int) = 0 by decide) (Ev.pos rfl ?_)))
    rw [size_bs]
    refine Ev.bind (place_ev S hsz head.length hS2) ?_
    simp only [beq_self_eq_true, Bool.and_self]
    exact Ev.now _
theorem Ev.rounds_j {α : Type} (g : Nat → Option α) {r : α} (h : Ev (fun k => g (k + 1)) r) : Ev g r := by
  obtain ⟨K, h⟩ := h
  refine ⟨K + 1, fun k hk => ?_⟩
  obtain ⟨m, rfl⟩ : ∃ m, k = m + 1 := ⟨k - 1, by omega⟩
  exact h m (by omega)
theorem TablePaths : transhumancelaw6_TablePaths.Pure := by
  intro l0 a1 a2
  intros
  apply Ev.rounds
  unfold transhumancelaw6_TablePaths.f
  refine Ev.val known_true (Ev.pos rfl ?_)
  by_cases hl : (l0.length : Int) > 60
  · exact Ev.pos hl (Ev.now _)
  have hz : (strOfNums l0).data.toList.length ≤ 60 := by
    rw [data_length, strOfNums_size]
    omega
  have hS : strOfNums l0 = bs (strOfNums l0).data.toList := (bs_data _).symm
  generalize (strOfNums l0).data.toList = v at *
  rw [hS]
  refine Ev.neg hl (Ev.bind (rplain_ev (bs v) (by rw [size_bs]; omega)) ?_)
  rw [data_bs]
  have hq := quote_len v
  cases hvp : v.all plainB with
  | false => exact Ev.neg (by decide) (Ev.now _)
  | true =>
    refine Ev.pos rfl ?_
    cases a1 with
    | true =>
      refine Ev.pos rfl (Ev.pos (by decide) ?_)
      rw [show (⟨#[91, 91, 108, 111, 99, 107, 93, 93, 10, 114, 101, 118, 105, 115, 105, 111, 110, 32, 61, 32, 34, 49, 34, 10]⟩ : ByteArray) ++ (⟨#[114, 111, 111, 116, 32, 61, 32, 34, 97, 34, 10, 115, 111, 117, 114, 99, 101, 32, 61, 32]⟩ : ByteArray) = bs (H1 ++ F4) from rfl]
      exact Ev.rounds_j (fun k => transhumancelaw6_TablePaths.j0 k (bs v) (bs (H1 ++ F4))) (paths_j0 v _ hz (by decide) (by rw [List.append_assoc]; exact paths_source v (by omega) hvp (by omega)))
    | false =>
      refine Ev.neg (by decide) (Ev.pos (by decide) ?_)
      rw [show (⟨#[91, 91, 108, 111, 99, 107, 93, 93, 10, 114, 101, 118, 105, 115, 105, 111, 110, 32, 61, 32, 34, 49, 34, 10]⟩ : ByteArray) ++ (⟨#[114, 111, 111, 116, 32, 61, 32]⟩ : ByteArray) = bs (H1 ++ F0) from rfl]
      exact Ev.rounds_j (fun k => transhumancelaw6_TablePaths.j0 k (bs v) (bs (H1 ++ F0))) (paths_j0 v _ hz (by decide) (by rw [List.append_assoc]; exact paths_root v (by omega) hvp (by omega)))
end Go.Proofs.YtljfcdfdedkajaaDoor.Pure
