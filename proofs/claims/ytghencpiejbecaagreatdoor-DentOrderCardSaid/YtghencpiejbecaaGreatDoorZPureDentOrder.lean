/- DentOrder answers true for every input: plain part. -/
import Derived.Test.YtghencpiejbecaaGreatDoorZDk
import Derived.Test.YtghencpiejbecaaGreatDoorZDPq
import Derived.Test.YtghencpiejbecaaGreatDoorZQ12
set_option linter.unusedVariables false
set_option linter.unusedSimpArgs false
namespace Go.Proofs.YtghencpiejbecaaGreatDoor.Pure
open Go.RowKit Go.Proofs.YtghencpiejbecaaGreatDoor.Q Go.Proofs.YtghencpiejbecaaGreatDoorW.PrintWords Go.Proofs.YtghencpiejbecaaGreatDoorW.PrintLast
theorem order_l1 (a2 : Int) (j : Nat) (hj5 : j < 5) (hj : win a2 5 = (j : Int)) (L : List S43) (x : Lk) (hx : OkLk x ∧ ∀ k, k < 5 → (x.get k).size ≤ 100) (i : Nat) (hi : i ≤ 1000) (RR : Bool) : ∀ (d t : Nat) (acc : ByteArray) (m : Bool), t + d = 5 → acc.size + d * 215 ≤ 1000000 →
    (∀ z : ByteArray, z = acc ++ bs (linesOf m (fldsFrom R.quoteL x (i + j) t d)).flatten → Ev (fun k => transhumancelaw7_DentOrder.l0 k a2 L z (wrap64 ((i : Int) + 1))) RR) →
    Ev (fun k => transhumancelaw7_DentOrder.l1 k a2 L acc i (vals x) names (markB m) t) RR
  | 0, t, acc, m, ht, hz, hk => by
    refine Ev.step (fun _ => transhumancelaw7_DentOrder.l1.eq_2 ..) (Ev.neg (by omega) (hk acc ?_))
    have : linesOf m (fldsFrom R.quoteL x (i + j) t 0) = [] := by cases m <;> rfl
    rw [this]
    exact (ext_bs (by simp [ByteArray.data_append, bs])).symm
  | d + 1, t, acc, m, ht, hz, hk => by
    have ht5 : t < 5 := by omega
    have hw : wrap64 ((t : Int) + 1) = ((t + 1 : Nat) : Int) := wrap_id (by omega) (by omega)
    have hin : transhumancelaw7_within.f a2 5 = some (j : Int) := by rw [within_f a2 5 (by omega) (by omega), hj]
    have hw2 : Int.tmod (wrap64 (wrap64 ((t : Int) + (i : Int)) + (j : Int))) 5 = (((t + (i + j)) % 5 : Nat) : Int) := by
      rw [wrap_id (x := (t : Int) + (i : Int)) (by omega) (by omega), wrap_id (by omega) (by omega)]
      rw [Int.tmod_eq_emod_of_nonneg (by omega)]
      omega
    have hk5 : (t + (i + j)) % 5 < 5 := by omega
    generalize hkk : (t + (i + j)) % 5 = kk at *
    obtain ⟨hp, hzt⟩ : (x.get kk).data.toList.all plainB = true ∧ (x.get kk).size ≤ 100 := ⟨hx.1.plain kk hk5, hx.2 kk hk5⟩
    obtain ⟨hn1, hn2⟩ := names_sz kk hk5
    have hv := vals_at x kk hk5
    have hf : fldsFrom R.quoteL x (i + j) t (d + 1) = fldAt R.quoteL x (i + j) t ++ fldsFrom R.quoteL x (i + j) (t + 1) d := rfl
    by_cases he : (x.get kk).toList = []
    · have hfa : fldAt R.quoteL x (i + j) t = [] := by
        unfold fldAt
        rw [hkk, if_pos (by rw [← Lib.toList_data]; exact he)]
      rw [hf, hfa, List.nil_append] at hk
      have h1 := order_l1 a2 j hj5 hj L x hx i hi RR d (t + 1) acc m (by omega) (by omega) hk
      refine Ev.step (fun _ => transhumancelaw7_DentOrder.l1.eq_2 ..) (Ev.pos (by omega) (Ev.val hin ?_))
      simp only [hw2]
      refine Ev.pos (by omega) (Ev.pos (by show (kk : Int) < ((5 : Nat) : Int); omega) ?_)
      rw [hv, hw]
      exact Ev.pos he h1
    · have hfa : fldAt R.quoteL x (i + j) t = [⟨kk, R.quoteL (x.get kk).data.toList, (x.get kk).data.toList⟩] := by
        unfold fldAt
        rw [hkk, if_neg (by rw [← Lib.toList_data]; exact he)]
      rw [hf, hfa, List.singleton_append, linesOf_cons] at hk
      have hq := R.quoteL_length (x.get kk).data.toList
      rw [Q.data_length] at hq
      have hqz : (bs (R.quoteL (x.get kk).data.toList)).size ≤ 202 := by rw [size_bs]; omega
      have e2 : (⟨#[58, 32]⟩ : ByteArray).size = 2 := rfl
      have em := mark_size m
      have hline := line_text m kk acc (bs (R.quoteL (x.get kk).data.toList))
      rw [data_bs] at hline
      have hll := line_len m kk hk5 (R.quoteL (x.get kk).data.toList)
      have h1 := order_l1 a2 j hj5 hj L x hx i hi RR d (t + 1) (acc ++ bs (lineOf m kk (R.quoteL (x.get kk).data.toList) ++ [10])) false (by omega)
        (by rw [ByteArray.size_append, size_bs]; omega)
        (fun z hzz => hk z (by rw [hzz]; apply ext_bs; simp [ByteArray.data_append, data_bs]))
      rw [← hline] at h1
      refine Ev.step (fun _ => transhumancelaw7_DentOrder.l1.eq_2 ..) (Ev.pos (by omega) (Ev.val hin ?_))
      simp only [hw2]
      refine Ev.pos (by omega) (Ev.pos (by show (kk : Int) < ((5 : Nat) : Int); omega) ?_)
      rw [hv, hw]
      refine Ev.neg he (Ev.pos ?_ (Ev.pos (by show (kk : Int) < ((5 : Nat) : Int); omega) (Ev.pos ?_ (Ev.pos ?_ (Ev.bind (quote_ev (x.get kk) (by omega)) (Ev.pos ?_ (Ev.pos ?_ h1)))))))
      all_goals ((try simp only [ByteArray.size_append, e2]); omega)
theorem block_len (q : List UInt8 → List UInt8) (x : Lk) (hq : ∀ v, (q v).length ≤ 2 * v.length + 2) (hx : ∀ k, k < 5 → (x.get k).size ≤ 100) (s : Nat) : ∀ (d t : Nat) (m : Bool), ((linesOf m (fldsFrom q x s t d)).flatten).length ≤ d * 215
  | 0, t, m => by cases m <;> simp [linesOf, fldsFrom, blockLines, nextLines]
  | d + 1, t, m => by
    have ih := block_len q x hq hx s d (t + 1)
    have hf : fldsFrom q x s t (d + 1) = fldAt q x s t ++ fldsFrom q x s (t + 1) d := rfl
    rw [hf]
    unfold fldAt
    split
    · rw [List.nil_append]
      have := ih m
      omega
    · rw [List.singleton_append, linesOf_cons, List.flatten_cons, List.length_append]
      have h5 : (t + s) % 5 < 5 := by omega
      have h1 := line_len m ((t + s) % 5) h5 (q (x.get ((t + s) % 5)).data.toList)
      have h2 := hq (x.get ((t + s) % 5)).data.toList
      rw [Q.data_length] at h2
      have h3 := hx _ h5
      have := ih false
      simp only
      omega
theorem order_l0 (a2 : Int) (j : Nat) (hj5 : j < 5) (hj : win a2 5 = (j : Int)) (l : List Lk) (hl : l.length ≤ 40) (hf : Fines l) : ∀ (rest pre : List Lk) (acc : ByteArray), l = pre ++ rest → acc.size ≤ 7 + pre.length * 1075 →
    acc ++ bs (blocksText (blksFrom R.quoteL (fun i => i + j) pre.length rest)).flatten = bs (blocksDoc (blksFrom R.quoteL (fun i => i + j) 0 l)) →
    Ev (fun k => transhumancelaw7_DentOrder.l0 k a2 (outs l) acc pre.length) true
  | [], pre, acc, hd, hz, ht => by
    have hlen : pre.length = l.length := by rw [hd]; simp
    have ht2 : acc = bs (blocksDoc (blksFrom R.quoteL (fun i => i + j) 0 l)) := by
      rw [← ht]
      exact ext_bs (by simp [ByteArray.data_append, bs, blksFrom, blocksText])
    refine Ev.step (fun _ => transhumancelaw7_DentOrder.l0.eq_2 ..) (Ev.neg (by simp only [outs, List.length_map]; omega) ?_)
    by_cases h8 : (acc.size : Int) > 8000
    · obtain ⟨r, hr⟩ := dent_some acc (by omega)
      exact Ev.val hr (Ev.pos h8 (Ev.now _))
    · have hread := made_read quote_qk (fun i => i + j) (hf.ok hl) (by rw [← size_bs, ← ht2]; omega)
      have hr := dent_read (T := acc) (l := l) (by rw [ht2, data_bs]; exact hread) (by omega)
      exact Ev.val hr (Ev.neg h8 (Ev.pos rfl (Ev.bind (rows_ev l (by omega)) (Ev.now _))))
  | x :: rest, pre, acc, hd, hz, ht => by
    have hlt : pre.length < l.length := by rw [hd]; simp
    have hget : l[pre.length] = x := by subst hd; simp
    have hfx := hf.each x (by rw [hd]; simp)
    have hw : wrap64 ((pre.length : Int) + 1) = (((pre ++ [x]).length : Nat) : Int) := by
      rw [wrap_id (by omega) (by omega)]; simp
    have hb := block_len R.quoteL x (fun v => by have := R.quoteL_length v; omega) hfx.le (pre.length + j) 5 0 true
    have hE := order_l1 a2 j hj5 hj (outs l) x ⟨hfx.1, hfx.le⟩ pre.length (by omega) true 5 0 acc true (by omega) (by omega) (fun z hzz => by
      rw [hw]
      refine order_l0 a2 j hj5 hj l hl hf rest (pre ++ [x]) z (by rw [hd]; simp) ?_ ?_
      · rw [hzz, ByteArray.size_append, size_bs]
        simp only [List.length_append, List.length_cons, List.length_nil]
        omega
      · rw [← ht, hzz]
        have e : (pre ++ [x]).length = pre.length + 1 := by simp
        rw [e]
        apply ext_bs
        simp only [ByteArray.data_append, Array.toList_append, data_bs, bs, blksFrom, blocksText, List.flatMap_cons, List.flatten_append, List.append_assoc]
        rfl)
    refine Ev.step (fun _ => transhumancelaw7_DentOrder.l0.eq_2 ..) (Ev.pos (by simp only [outs, List.length_map]; omega) (Ev.pos (by omega) ?_))
    rw [rd_out l _ hlt, hget]
    exact hE
theorem DentOrder : transhumancelaw7_DentOrder.Pure := by
  intro l0 l1 a2 _ _ _ _ _ _ _
  apply Ev.rounds
  unfold transhumancelaw7_DentOrder.f
  refine Ev.val known_true (Ev.pos rfl ?_)
  by_cases c1 : (l1.length : Int) > 60
  · exact Ev.pos c1 (Ev.now _)
  obtain ⟨r, r1, r2, r3⟩ := locks_make l0 l1 10 (by omega)
  refine Ev.neg c1 (Ev.bind r1 ?_)
  by_cases c2 : ((outs r).length : Int) = 0
  · exact Ev.pos c2 (Ev.now _)
  obtain ⟨j, hj⟩ := win_fin a2 5 (by omega)
  refine Ev.neg c2 (order_l0 a2 j.val j.isLt hj r (by omega) r2 r [] _ rfl (by show (7 : Nat) ≤ 7 + 0 * 1075; omega) ?_)
  apply ext_bs
  simp only [ByteArray.data_append, Array.toList_append, data_bs, blocksDoc]
  rfl
end Go.Proofs.YtghencpiejbecaaGreatDoor.Pure
