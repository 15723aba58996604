/- DentLines answers true for every input: plain part. -/
import Derived.Test.YtjdjljgbfpkbdaaGreatDoorZDk
import Derived.Test.YtjdjljgbfpkbdaaGreatDoorZDPyg
import Derived.Test.YtjdjljgbfpkbdaaGreatDoorZQ28
set_option linter.unusedVariables false
set_option linter.unusedSimpArgs false
namespace Go.Proofs.YtjdjljgbfpkbdaaGreatDoor.Pure
open Go.RowKit Go.Proofs.YtjdjljgbfpkbdaaGreatDoor.Q Go.Proofs.YtjdjljgbfpkbdaaGreatDoorW.PrintWords Go.Proofs.YtjdjljgbfpkbdaaGreatDoorW.PrintLast
def gapTexts : List ByteArray := [(⟨#[]⟩ : ByteArray), (⟨#[10]⟩ : ByteArray), (⟨#[32, 32, 32, 10]⟩ : ByteArray), (⟨#[32, 32, 35, 32, 120, 10]⟩ : ByteArray)]
def gapRaw (j : Nat) : List (List UInt8) := if j = 0 then [] else if j = 1 then [[]] else if j = 2 then [[32, 32, 32]] else [[32, 32, 35, 32, 120]]
def gapBytes (j : Nat) : List UInt8 := ((gapRaw j).map fun l => l ++ [10]).flatten
theorem gap_text : ∀ j : Fin 4, rdOf ByteArray.empty gapTexts (j.val : Int) = bs (gapBytes j.val) ∧ (gapBytes j.val).length ≤ 6 ∧ (∀ g ∈ gapRaw j.val, g.all plainB = true) ∧ (∀ g ∈ gapRaw j.val, ∀ b ∈ g, b ≠ 10) ∧ (∀ g ∈ gapRaw j.val, wordL (g ++ [10]) = [] ∨ (wordL (g ++ [10])).head? = some 35) := by decide +kernel
def gapIx (gaps : List Int) (i : Nat) : Nat := if i < gaps.length then (win (rd gaps i) 4).toNat else 0
theorem gapIx_lt (gaps : List Int) (i : Nat) : gapIx gaps i < 4 := by
  unfold gapIx
  have := win_bd (rd gaps i) 4 (by omega)
  split <;> omega
def layT (gaps : List Int) : Nat → List (List UInt8) → List UInt8
  | _, [] => []
  | i, r :: rs => gapBytes (gapIx gaps i) ++ (r ++ [10]) ++ layT gaps (i + 1) rs
def layU (kx : Nat) : Nat → List (List UInt8) → List UInt8
  | _, [] => []
  | i, r :: rs => ((if i = kx then 32 :: r else r) ++ [10]) ++ layU kx (i + 1) rs
def rawT (gaps : List Int) : Nat → List (List UInt8) → List (List UInt8)
  | _, [] => []
  | i, r :: rs => gapRaw (gapIx gaps i) ++ [r] ++ rawT gaps (i + 1) rs
def psT (gaps : List Int) : Nat → List (List UInt8) → List (List UInt8 × List (List UInt8))
  | _, [] => []
  | i, r :: rs => (r ++ [10], (gapRaw (gapIx gaps i)).map fun l => l ++ [10]) :: psT gaps (i + 1) rs
theorem layT_raw (gaps : List Int) : ∀ (rs : List (List UInt8)) (i : Nat), layT gaps i rs = ((rawT gaps i rs).map fun l => l ++ [10]).flatten
  | [], i => rfl
  | r :: rs, i => by
    simp [layT, rawT, layT_raw gaps rs (i + 1), gapBytes]
theorem rawT_ps (gaps : List Int) : ∀ (rs : List (List UInt8)) (i : Nat), (rawT gaps i rs).map (fun l => l ++ [10]) = (psT gaps i rs).flatMap fun p => p.2 ++ [p.1]
  | [], i => rfl
  | r :: rs, i => by
    simp [rawT, psT, rawT_ps gaps rs (i + 1)]
theorem psT_fst (gaps : List Int) : ∀ (rs : List (List UInt8)) (i : Nat), (psT gaps i rs).map (·.1) = rs.map fun l => l ++ [10]
  | [], i => rfl
  | r :: rs, i => by simp [psT, psT_fst gaps rs (i + 1)]
theorem psT_mute (gaps : List Int) : ∀ (rs : List (List UInt8)) (i : Nat), ∀ p ∈ psT gaps i rs, ∀ g ∈ p.2, mute g
  | [], i, p, hp => by simp [psT] at hp
  | r :: rs, i, p, hp => by
    rcases List.mem_cons.1 hp with rfl | hp
    · intro g hg
      obtain ⟨m, hm, rfl⟩ := List.mem_map.1 hg
      exact (gap_text ⟨gapIx gaps i, gapIx_lt gaps i⟩).2.2.2.2 m hm
    · exact psT_mute gaps rs (i + 1) p hp
theorem rawT_tidy (gaps : List Int) : ∀ (rs : List (List UInt8)) (i : Nat), (∀ l ∈ rs, l.all plainB = true ∧ ∀ b ∈ l, b ≠ 10) → ∀ l ∈ rawT gaps i rs, l.all plainB = true ∧ ∀ b ∈ l, b ≠ 10
  | [], i, _, l, hl => by simp [rawT] at hl
  | r :: rs, i, h, l, hl => by
    have hl2 : l ∈ gapRaw (gapIx gaps i) ++ [r] ++ rawT gaps (i + 1) rs := hl
    rcases List.mem_append.1 hl2 with hl2 | hl2
    · rcases List.mem_append.1 hl2 with hl2 | hl2
      · obtain ⟨_, _, g1, g2, _⟩ := gap_text ⟨gapIx gaps i, gapIx_lt gaps i⟩
        exact ⟨g1 l hl2, g2 l hl2⟩
      · simp at hl2
        subst hl2
        exact h l List.mem_cons_self
    · exact rawT_tidy gaps rs (i + 1) (fun m hm => h m (List.mem_cons_of_mem _ hm)) l hl2
theorem layU_mid (kx : Nat) : ∀ (A : List (List UInt8)) (i : Nat) (x : List UInt8) (B : List (List UInt8)), i + A.length = kx → layU kx i (A ++ x :: B) = ((A ++ (32 :: x) :: B).map fun l => l ++ [10]).flatten
  | [], i, x, B, h => by
    have e : i = kx := by simpa using h
    have past : ∀ (B : List (List UInt8)) (j : Nat), kx < j → layU kx j B = (B.map fun l => l ++ [10]).flatten := by
      intro B
      induction B with
      | nil => intro j _; rfl
      | cons b B ih =>
        intro j hj
        simp [layU, ih (j + 1) (by omega), show ¬ j = kx from by omega]
    simp [layU, e, past B (kx + 1) (by omega)]
  | a :: A, i, x, B, h => by
    simp only [List.length_cons] at h
    simp [layU, layU_mid kx A (i + 1) x B (by omega), show ¬ i = kx from by omega]
theorem gaps_read {bl : List (List Fl)} (gaps : List Int) (h1 : ∀ b ∈ bl, Bl b) (h2 : ∀ b ∈ bl, ∀ f ∈ b, f.tidy) (ho : OkLks (blocksLocks bl)) (hz : (layT gaps 0 (rawDoc bl)).length ≤ 8000) : locksD (layT gaps 0 (rawDoc bl)) = (blocksLocks bl, 0, 0) := by
  have ht := rawT_tidy gaps (rawDoc bl) 0 (rawDoc_tidy h2)
  obtain ⟨has', hr⟩ := rawDoc_run h1 ho 0
  rw [layT_raw] at hz ⊢
  refine read_of (has' := has') ?_ hz ho ?_
  · rw [List.all_flatten]
    exact List.all_eq_true.2 fun l hl => by
      obtain ⟨m, hm, rfl⟩ := List.mem_map.1 hl
      rw [List.all_append, (ht m hm).1]
      rfl
  · have hp := pieces_lines (rawT gaps 0 (rawDoc bl)) [] fun l hl => (ht l hl).2
    rw [List.append_nil] at hp
    rw [hp, rawT_ps, List.foldl_append, show pieces [] = [[]] from rfl, List.foldl_cons, List.foldl_nil]
    have hg := gap_fold (psT gaps 0 (rawDoc bl)) ⟨0, false, .ok [] []⟩ ⟨0, false, .ok [] []⟩ (blocksLocks bl) has' rfl rfl (psT_mute gaps _ 0) (by rw [psT_fst]; exact hr)
    exact (mute_step (.inl rfl)).1.trans hg
def finE (T U : ByteArray) (L : List S43) (rows : List ByteArray) (kx : Int) (k : Nat) : Option Bool := (dent_Locks.f T).bind fun bt321 => ((dent_Locks.f U).bind fun bt328 => (if (T.size : Int) > 8000 then (some true) else (if bt321.2.2.2 = 0 then ((transhumanceref5_Rows.f k L bt321.1).bind fun t335 => (if t335 = true then (if (rows.length : Int) = 0 then (some true) else (if bt328.2.2.2 = 1 then (some (bt328.2.1 == (wrap64 (kx + 1)))) else (some false))) else (some false))) else (some false))))
theorem dl_l0 (gaps : List Int) (L : List S43) (rows : List (List UInt8)) (kx : Nat) (hrl : rows.length ≤ 10000) (hrow : ∀ r ∈ rows, r.length ≤ 10000) (T U : ByteArray)
    (fin : T.size ≤ rows.length * 10010 → U.size ≤ rows.length * 10010 → Ev (finE T U L (rows.map bs) kx) true) : ∀ (rest pre : List (List UInt8)) (t u : ByteArray), rows = pre ++ rest → t.size ≤ pre.length * 10010 → u.size ≤ pre.length * 10010 →
    t ++ bs (layT gaps pre.length rest) = T → u ++ bs (layU kx pre.length rest) = U → Ev (fun k => transhumancelaw7_DentLines.l0 k gaps L (rows.map bs) t u kx pre.length) true
  | [], pre, t, u, hd, ht, hu, hT, hU => by
    have hlen : pre.length = rows.length := by rw [hd]; simp
    have e1 : t = T := by rw [← hT]; exact ext_bs (by simp [ByteArray.data_append, bs, layT])
    have e2 : u = U := by rw [← hU]; exact ext_bs (by simp [ByteArray.data_append, bs, layU])
    subst e1 e2
    rw [hlen] at ht hu
    exact Ev.step (fun _ => transhumancelaw7_DentLines.l0.eq_2 ..) (Ev.neg (by simp only [List.length_map]; omega) (fin ht hu))
  | r :: rest, pre, t, u, hd, ht, hu, hT, hU => by
    have hlt : pre.length < rows.length := by rw [hd]; simp
    have hr := hrow r (by rw [hd]; simp)
    have hget : rdOf ByteArray.empty (rows.map bs) (pre.length : Int) = bs r := by
      subst hd
      simp [rdOf]
    have hw : wrap64 ((pre.length : Int) + 1) = (((pre ++ [r]).length : Nat) : Int) := by
      rw [wrap_id (by omega) (by omega)]; simp
    have e1 : (⟨#[32]⟩ : ByteArray).size = 1 := rfl
    obtain ⟨g1, g2, _⟩ := gap_text ⟨gapIx gaps pre.length, gapIx_lt gaps pre.length⟩
    simp only at g1 g2
    have next := dl_l0 gaps L rows kx hrl hrow T U fin rest (pre ++ [r]) ((((t ++ bs (gapBytes (gapIx gaps pre.length))) ++ bs r)) ++ (⟨#[10]⟩ : ByteArray)) (if pre.length = kx then ((u ++ (⟨#[32]⟩ : ByteArray)) ++ bs r) ++ (⟨#[10]⟩ : ByteArray) else (u ++ bs r) ++ (⟨#[10]⟩ : ByteArray)) (by rw [hd]; simp)
      (by
        simp only [ByteArray.size_append, size_bs, List.length_append, List.length_cons, List.length_nil, show (⟨#[10]⟩ : ByteArray).size = 1 from rfl]
        omega)
      (by
        split
        · simp only [ByteArray.size_append, size_bs, List.length_append, List.length_cons, List.length_nil, show (⟨#[10]⟩ : ByteArray).size = 1 from rfl, e1]
          omega
        · simp only [ByteArray.size_append, size_bs, List.length_append, List.length_cons, List.length_nil, show (⟨#[10]⟩ : ByteArray).size = 1 from rfl]
          omega)
      (by
        rw [← hT, show (pre ++ [r]).length = pre.length + 1 from by simp]
        apply ext_bs
        simp [ByteArray.data_append, bs, layT])
      (by
        rw [← hU, show (pre ++ [r]).length = pre.length + 1 from by simp]
        apply ext_bs
        by_cases h : pre.length = kx
        · simp [ByteArray.data_append, bs, layU, h]
        · simp [ByteArray.data_append, bs, layU, h])
    rw [← hw] at next
    have body : Ev (fun k => if (t ++ bs (gapBytes (gapIx gaps pre.length))).size + (bs r).size ≤ 9223372036854775807 then (if ((t ++ bs (gapBytes (gapIx gaps pre.length))) ++ bs r).size + 1 ≤ 9223372036854775807 then (if (pre.length : Int) = (kx : Int) then (if u.size + 1 ≤ 9223372036854775807 then (if (u ++ (⟨#[32]⟩ : ByteArray)).size + (bs r).size ≤ 9223372036854775807 then (if ((u ++ (⟨#[32]⟩ : ByteArray)) ++ bs r).size + 1 ≤ 9223372036854775807 then (transhumancelaw7_DentLines.l0 k gaps L (rows.map bs) (((t ++ bs (gapBytes (gapIx gaps pre.length))) ++ bs r) ++ (⟨#[10]⟩ : ByteArray)) (((u ++ (⟨#[32]⟩ : ByteArray)) ++ bs r) ++ (⟨#[10]⟩ : ByteArray)) kx (wrap64 ((pre.length : Int) + 1))) else (none)) else (none)) else (none)) else (if u.size + (bs r).size ≤ 9223372036854775807 then (if (u ++ bs r).size + 1 ≤ 9223372036854775807 then (transhumancelaw7_DentLines.l0 k gaps L (rows.map bs) (((t ++ bs (gapBytes (gapIx gaps pre.length))) ++ bs r) ++ (⟨#[10]⟩ : ByteArray)) ((u ++ bs r) ++ (⟨#[10]⟩ : ByteArray)) kx (wrap64 ((pre.length : Int) + 1))) else (none)) else (none))) else (none)) else (none)) true := by
      refine Ev.pos (by rw [ByteArray.size_append, size_bs, size_bs]; omega) (Ev.pos (by rw [ByteArray.size_append, ByteArray.size_append, size_bs, size_bs]; omega) ?_)
      by_cases h : pre.length = kx
      · rw [if_pos h] at next
        exact Ev.pos (by omega) (Ev.pos (by omega) (Ev.pos (by rw [ByteArray.size_append, size_bs, e1]; omega) (Ev.pos (by rw [ByteArray.size_append, ByteArray.size_append, size_bs, e1]; omega) next)))
      · rw [if_neg h] at next
        exact Ev.neg (by omega) (Ev.pos (by rw [size_bs]; omega) (Ev.pos (by rw [ByteArray.size_append, size_bs]; omega) next))
    refine Ev.step (fun _ => transhumancelaw7_DentLines.l0.eq_2 ..) (Ev.pos (by simp only [List.length_map]; omega) ?_)
    rw [hget]
    by_cases hg : (pre.length : Int) < (gaps.length : Int)
    · have hix : (gapIx gaps pre.length : Int) = win (rd gaps pre.length) 4 := by
        unfold gapIx
        rw [if_pos (by omega)]
        have := win_bd (rd gaps pre.length) 4 (by omega)
        omega
      have hin : transhumancelaw7_within.f (rd gaps pre.length) 4 = some (gapIx gaps pre.length : Int) := by rw [within_f _ 4 (by omega) (by omega), hix]
      have h4 := gapIx_lt gaps pre.length
      refine Ev.pos hg (Ev.pos (by omega) (Ev.val hin (Ev.val (a := gapTexts) rfl (Ev.pos (by omega) (Ev.pos (by show (gapIx gaps pre.length : Int) < ((4 : Nat) : Int); omega) ?_)))))
      rw [g1]
      exact Ev.pos (by rw [size_bs]; omega) body
    · have hix : gapIx gaps pre.length = 0 := by
        unfold gapIx
        rw [if_neg (by omega)]
      rw [hix] at g1 body
      refine Ev.neg hg (Ev.val (a := gapTexts) rfl (Ev.pos (by show (0 : Int) < ((4 : Nat) : Int); omega) ?_))
      have g1' : rdOf ByteArray.empty gapTexts 0 = bs (gapBytes 0) := g1
      rw [g1']
      exact Ev.pos (by rw [size_bs]; show t.size + 0 ≤ _; omega) (Ev.pos (by omega) body)
theorem row_bd : ∀ (rows : List (List UInt8)), rows.length ≤ ((rows.map fun l => l ++ [10]).flatten).length ∧ ∀ r ∈ rows, r.length ≤ ((rows.map fun l => l ++ [10]).flatten).length
  | [] => ⟨by simp, by simp⟩
  | r :: rows => by
    obtain ⟨h1, h2⟩ := row_bd rows
    have e : (((r :: rows).map fun l => l ++ [10]).flatten).length = r.length + 1 + ((rows.map fun l => l ++ [10]).flatten).length := by
      rw [List.map_cons, List.flatten_cons, List.length_append, List.length_append]
      rfl
    rw [e]
    refine ⟨by simp only [List.length_cons]; omega, ?_⟩
    intro x hx
    rcases List.mem_cons.1 hx with rfl | hx
    · omega
    · have := h2 x hx
      omega
theorem DentLines : transhumancelaw7_DentLines.Pure := by
  intro l0 l1 l2 a3 _ _ _ _ _ _ _ _ _ _
  apply Ev.rounds
  unfold transhumancelaw7_DentLines.f
  refine Ev.val known_true (Ev.pos rfl ?_)
  by_cases c1 : (l1.length : Int) > 60
  · exact Ev.pos c1 (Ev.now _)
  obtain ⟨r, r1, r2, r3⟩ := locks_make l0 l1 12 (by omega)
  refine Ev.neg c1 (Ev.bind r1 (Ev.bind (w7x_ev r (by omega) r2.each) ?_))
  have hok := r2.ok (l := r) (by omega)
  have hdl := doc_len r r2.each
  have g1 : ∀ b ∈ wblks r, Bl b := fun b hb => by
    obtain ⟨s, x, hx, rfl⟩ := blksFrom_mem hb
    exact blkOf_bl wq_qk (hok.each x hx) s
  have g2 : ∀ b ∈ wblks r, ∀ f ∈ b, f.tidy := fun b hb => by
    obtain ⟨s, x, hx, rfl⟩ := blksFrom_mem hb
    exact blkOf_tidy wq_qk (hok.each x hx) s
  have g3 : blocksLocks (wblks r) = r := blksFrom_locks _ _ r 0
  by_cases hne : r = []
  · subst hne
    have hT : wtext [] = [] := rfl
    rw [hT]
    obtain ⟨pos, hl⟩ := lines_ev (bs []) [] (by decide) (by simp) rfl (by simp)
    refine Ev.bind hl (Ev.val (within_f a3 1 (by omega) (by omega)) ?_)
    have hD : dent_Locks.f (⟨#[]⟩ : ByteArray) = some (outs [], 0, 0, 0) := dent_read (by rfl) (by decide)
    exact Ev.step (fun _ => transhumancelaw7_DentLines.l0.eq_2 ..) (Ev.neg (by simp) (Ev.val hD (Ev.val hD (Ev.neg (by decide) (Ev.pos rfl (Ev.bind (rows_ev [] (by simp)) (Ev.pos rfl (Ev.pos rfl (Ev.now _)))))))))
  · have hT : wtext r = blocksDoc (wblks r) := if_neg hne
    rw [hT]
    have htidy := rawDoc_tidy g2
    obtain ⟨b1, b2⟩ := row_bd (rawDoc (wblks r))
    rw [rawDoc_text] at b1 b2
    have hrne : rawDoc (wblks r) ≠ [] := by unfold rawDoc; simp
    obtain ⟨pos, hl⟩ := lines_ev (bs (blocksDoc (wblks r))) (rawDoc (wblks r)) (by rw [size_bs]; omega) (fun l hl => (htidy l hl).2) (by rw [data_bs, rawDoc_text]) (by omega)
    have hpos := List.length_pos_iff.2 hrne
    obtain ⟨j, hj⟩ := win_fin a3 (rawDoc (wblks r)).length hpos
    have hin : transhumancelaw7_within.f a3 (mx 1 (((rawDoc (wblks r)).map bs).length : Int)) = some (j.val : Int) := by
      have : mx 1 (((rawDoc (wblks r)).map bs).length : Int) = ((rawDoc (wblks r)).length : Int) := by
        rw [List.length_map]
        unfold mx
        omega
      rw [this, within_f a3 _ (by omega) (by omega), hj]
    refine Ev.bind hl (Ev.val hin ?_)
    have hjl := j.isLt
    obtain ⟨jv, hjlt⟩ := j
    simp only at hj hin hjl ⊢
    obtain ⟨A, x, B, hA, hAB⟩ : ∃ A x B, A.length = jv ∧ rawDoc (wblks r) = A ++ x :: B := by
      refine ⟨(rawDoc (wblks r)).take jv, (rawDoc (wblks r))[jv], (rawDoc (wblks r)).drop (jv + 1), by rw [List.length_take]; omega, ?_⟩
      rw [List.getElem_cons_drop, List.take_append_drop]
    have hU : layU jv 0 (rawDoc (wblks r)) = ((A ++ (32 :: x) :: B).map fun l => l ++ [10]).flatten := by
      rw [hAB]
      exact layU_mid jv A 0 x B (by omega)
    have hUz : (layU jv 0 (rawDoc (wblks r))).length ≤ 8000 := by
      have e : (layU jv 0 (rawDoc (wblks r))).length = (blocksDoc (wblks r)).length + 1 := by
        rw [hU, ← rawDoc_text, hAB]
        simp only [List.map_append, List.map_cons, List.flatten_append, List.flatten_cons, List.length_append, List.length_cons]
        omega
      omega
    obtain ⟨wh, hw1, hw2⟩ := doc_blank g1 g2 (by rw [g3]; exact hok) A B x hAB _ hU hUz
    refine dl_l0 l2 (outs r) (rawDoc (wblks r)) jv (by omega) (fun y hy => by have := b2 y hy; omega) (bs (layT l2 0 (rawDoc (wblks r)))) (bs (layU jv 0 (rawDoc (wblks r)))) ?_ (rawDoc (wblks r)) [] _ _ rfl (Nat.zero_le _) (Nat.zero_le _) (by exact ext_bs (by simp [ByteArray.data_append, bs])) (by exact ext_bs (by simp [ByteArray.data_append, bs]))
    intro z1 z2
    have hfU : dent_Locks.f (bs (layU jv 0 (rawDoc (wblks r)))) = some ([], ((place ((layU jv 0 (rawDoc (wblks r))).take wh)).1 : Int), ((place ((layU jv 0 (rawDoc (wblks r))).take wh)).2 : Int), 1) := by
      unfold dent_Locks.f
      rw [if_pos (by omega), data_bs, hw1]
      unfold dent_Locks.line
      rw [data_bs, hw1]
      rfl
    obtain ⟨rT, hrT⟩ := dent_some (bs (layT l2 0 (rawDoc (wblks r)))) (by omega)
    unfold finE
    by_cases h8 : ((bs (layT l2 0 (rawDoc (wblks r)))).size : Int) > 8000
    · exact Ev.val hrT (Ev.val hfU (Ev.pos h8 (Ev.now _)))
    · have hread := gaps_read l2 g1 g2 (by rw [g3]; exact hok) (by rw [size_bs] at h8; omega)
      rw [g3] at hread
      have hfT := dent_read (T := bs (layT l2 0 (rawDoc (wblks r)))) (l := r) (by rw [data_bs]; exact hread) (by omega)
      refine Ev.val hfT (Ev.val hfU (Ev.neg h8 (Ev.pos rfl (Ev.bind (rows_ev r (by omega)) (Ev.pos rfl (Ev.neg (by rw [List.length_map]; omega) (Ev.pos rfl (Ev.ret ?_))))))))
      rw [hw2, hA, wrap_id (by omega) (by omega)]
      simp
end Go.Proofs.YtjdjljgbfpkbdaaGreatDoor.Pure
