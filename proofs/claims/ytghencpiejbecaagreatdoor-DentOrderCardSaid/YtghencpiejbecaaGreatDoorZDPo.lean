import Derived.Test.YtghencpiejbecaaGreatDoorZDPc
set_option linter.unusedVariables false
set_option linter.unusedSimpArgs false
namespace Go.Proofs.YtghencpiejbecaaGreatDoor.Q
open Go.RowKit Go.Proofs.YtghencpiejbecaaGreatDoorW.PrintWords Go.Proofs.YtghencpiejbecaaGreatDoorW.PrintLast Go.Proofs.YtghencpiejbecaaGreatDoorW.PrintMore
theorem badAt_none : ∀ s : List UInt8, s.all plainB = true → badAt s = none
  | [], _ => rfl
  | b :: t, h => by
    simp only [List.all_cons, Bool.and_eq_true] at h
    unfold badAt
    rw [if_pos h.1, badAt_none t h.2]
    rfl
def Fl.tidy (f : Fl) : Prop := f.ok ∧ f.w.all plainB = true ∧ ∀ b ∈ f.w, b ≠ 10
theorem nm_plain : ∀ k : Fin 5, (nm k.val).data.toList.all plainB = true := by decide +kernel
theorem lineOf_tidy (first : Bool) (f : Fl) (h : f.tidy) : (lineOf first f.k f.w).all plainB = true ∧ ∀ b ∈ lineOf first f.k f.w, b ≠ 10 := by
  obtain ⟨⟨h1, _, _⟩, h2, h3⟩ := h
  obtain ⟨g1, _⟩ := nm_ok ⟨f.k, h1⟩
  have g2 := nm_plain ⟨f.k, h1⟩
  refine ⟨?_, ?_⟩
  · unfold lineOf
    rw [List.all_append, List.all_append, List.all_cons, List.all_cons, g2, h2]
    cases first <;> rfl
  · intro b hb
    unfold lineOf at hb
    rcases List.mem_append.1 hb with h | h
    · cases first
      · simp at h; subst h; decide
      · simp at h; rcases h with rfl | rfl <;> decide
    · rcases List.mem_append.1 h with h | h
      · exact (g1 b h).2
      · simp only [List.mem_cons] at h
        rcases h with rfl | rfl | h
        · decide
        · decide
        · exact h3 b h
def rawBlock : List Fl → List (List UInt8)
  | [] => []
  | f :: fs => lineOf true f.k f.w :: fs.map fun g => lineOf false g.k g.w
theorem rawBlock_lines (b : List Fl) : (rawBlock b).map (fun l => l ++ [10]) = blockLines b := by
  cases b with
  | nil => rfl
  | cons f fs => simp [rawBlock, blockLines, nextLines]
theorem rawBlocks_lines (bl : List (List Fl)) : (bl.flatMap rawBlock).map (fun l => l ++ [10]) = blocksText bl := by
  unfold blocksText
  rw [List.map_flatMap]
  congr 1
  funext b
  exact rawBlock_lines b
theorem raw_tidy {bl : List (List Fl)} (h : ∀ b ∈ bl, ∀ f ∈ b, f.tidy) : ∀ l ∈ bl.flatMap rawBlock, l.all plainB = true ∧ ∀ b ∈ l, b ≠ 10 := by
  intro l hl
  obtain ⟨b, hb, hl2⟩ := List.mem_flatMap.1 hl
  cases b with
  | nil => simp [rawBlock] at hl2
  | cons f fs =>
    rcases List.mem_cons.1 hl2 with rfl | hl3
    · exact lineOf_tidy true f (h _ hb f List.mem_cons_self)
    · obtain ⟨g, hg, rfl⟩ := List.mem_map.1 hl3
      exact lineOf_tidy false g (h _ hb g (List.mem_cons_of_mem _ hg))
def blocksDoc (bl : List (List Fl)) : List UInt8 := (locksWordL ++ [10]) ++ (blocksText bl).flatten
theorem doc_plain {bl : List (List Fl)} (h : ∀ b ∈ bl, ∀ f ∈ b, f.tidy) : (blocksDoc bl).all plainB = true := by
  unfold blocksDoc
  rw [List.all_append, ← rawBlocks_lines]
  have : (((bl.flatMap rawBlock).map fun l => l ++ [10]).flatten).all plainB = true := by
    rw [List.all_flatten]
    exact List.all_eq_true.2 fun l hl => by
      obtain ⟨m, hm, rfl⟩ := List.mem_map.1 hl
      rw [List.all_append, (raw_tidy h m hm).1]
      rfl
  rw [this]
  rfl
theorem doc_pieces {bl : List (List Fl)} (h : ∀ b ∈ bl, ∀ f ∈ b, f.tidy) : pieces (blocksDoc bl) = (locksWordL ++ [10]) :: (blocksText bl ++ [[]]) := by
  have e : blocksDoc bl = (([locksWordL] : List (List UInt8)).map fun l => l ++ [10]).flatten ++ (((bl.flatMap rawBlock).map fun l => l ++ [10]).flatten ++ []) := by
    rw [rawBlocks_lines]
    simp [blocksDoc]
  rw [e, pieces_lines _ _ (by intro l hl; simp at hl; subst hl; decide), pieces_lines _ [] (fun l hl => (raw_tidy h l hl).2), rawBlocks_lines]
  rfl
theorem doc_read (bl : List (List Fl)) (h1 : ∀ b ∈ bl, Bl b) (h2 : ∀ b ∈ bl, ∀ f ∈ b, f.tidy) (ho : OkLks (blocksLocks bl)) (hz : (blocksDoc bl).length ≤ 8000) : locksD (blocksDoc bl) = (blocksLocks bl, 0, 0) := by
  have hs : start (blocksDoc bl) = ⟨0, false, .ok [] []⟩ := by
    unfold start
    rw [badAt_none _ (doc_plain h2)]
  obtain ⟨has', hr⟩ := blocks_run bl (0 + 7) [] [] h1 (by simpa using ho)
  have hl : (linesD (blocksDoc bl) (pieces (blocksDoc bl))).r = .ok (blocksLocks bl) has' := by
    unfold linesD
    rw [hs, doc_pieces h2, List.foldl_cons, header_step, List.foldl_append, hr, List.foldl_cons, List.foldl_nil, step_skip _ _ _ _ [] (.inl rfl)]
    simp
  rw [locksD_eq _ hz, hl]
  simp only
  rw [if_pos (ended_ok ho)]
theorem set_get (x : Lk) (k j : Nat) (hk : k < 5) (hj : j < 5) (v : ByteArray) : (x.set k v).get j = if j = k then v else x.get j := by
  rcases k with _ | _ | _ | _ | _ | k <;> rcases j with _ | _ | _ | _ | _ | j
  all_goals first | rfl | omega
theorem Lk.ext_get {x y : Lk} (h : ∀ k, k < 5 → x.get k = y.get k) : x = y := by
  obtain ⟨a, b, c, d, e⟩ := x
  obtain ⟨a', b', c', d', e'⟩ := y
  have h0 := h 0 (by omega)
  have h1 := h 1 (by omega)
  have h2 := h 2 (by omega)
  have h3 := h 3 (by omega)
  have h4 := h 4 (by omega)
  simp only [Lk.get] at h0 h1 h2 h3 h4
  subst h0 h1 h2 h3 h4
  rfl
theorem setAll_get (y : Lk) : ∀ (fs : List Fl) (x : Lk) (j : Nat), j < 5 → (∀ f ∈ fs, f.k < 5 ∧ ofL f.v = y.get f.k) → (setAll x fs).get j = if fs.any (fun f => f.k == j) = true then y.get j else x.get j
  | [], x, j, _, _ => by simp [setAll]
  | f :: fs, x, j, hj, hf => by
    obtain ⟨h1, h2⟩ := hf f List.mem_cons_self
    have ih := setAll_get y fs (x.set f.k (ofL f.v)) j hj fun g hg => hf g (List.mem_cons_of_mem _ hg)
    show (setAll (x.set f.k (ofL f.v)) fs).get j = _
    rw [ih, set_get x f.k j h1 hj, List.any_cons]
    by_cases hk : f.k = j
    · subst hk
      simp [h2]
    · have : (f.k == j) = false := by simpa using hk
      rw [this, Bool.false_or, if_neg (fun e : j = f.k => hk e.symm)]
def fldAt (q : List UInt8 → List UInt8) (y : Lk) (s k : Nat) : List Fl := if (y.get ((k + s) % 5)).data.toList = [] then [] else [⟨(k + s) % 5, q (y.get ((k + s) % 5)).data.toList, (y.get ((k + s) % 5)).data.toList⟩]
def fldsFrom (q : List UInt8 → List UInt8) (y : Lk) (s : Nat) : Nat → Nat → List Fl
  | _, 0 => []
  | k, d + 1 => fldAt q y s k ++ fldsFrom q y s (k + 1) d
def blkOf (q : List UInt8 → List UInt8) (s : Nat) (y : Lk) : List Fl := fldsFrom q y s 0 5
theorem blkOf_eq (q : List UInt8 → List UInt8) (s : Nat) (y : Lk) : blkOf q s y = fldAt q y s 0 ++ (fldAt q y s 1 ++ (fldAt q y s 2 ++ (fldAt q y s 3 ++ (fldAt q y s 4 ++ [])))) := rfl
theorem fldAt_mem {q : List UInt8 → List UInt8} {y : Lk} {s k : Nat} {f : Fl} (h : f ∈ fldAt q y s k) : f.k = (k + s) % 5 ∧ f.w = q (y.get f.k).data.toList ∧ f.v = (y.get f.k).data.toList ∧ f.v ≠ [] := by
  unfold fldAt at h
  split at h
  · simp at h
  · rename_i hn
    simp only [List.mem_singleton] at h
    subst h
    exact ⟨rfl, rfl, rfl, hn⟩
theorem blkOf_mem {q : List UInt8 → List UInt8} {y : Lk} {s : Nat} {f : Fl} (h : f ∈ blkOf q s y) : f.k < 5 ∧ f.w = q (y.get f.k).data.toList ∧ f.v = (y.get f.k).data.toList ∧ f.v ≠ [] := by
  have all : ∀ d k, f ∈ fldsFrom q y s k d → f.k < 5 ∧ f.w = q (y.get f.k).data.toList ∧ f.v = (y.get f.k).data.toList ∧ f.v ≠ [] := by
    intro d
    induction d with
    | zero => intro k hk; simp [fldsFrom] at hk
    | succ d ih =>
      intro k hk
      rcases List.mem_append.1 hk with h | h
      · obtain ⟨h1, h2, h3, h4⟩ := fldAt_mem h
        exact ⟨by rw [h1]; omega, h2, h3, h4⟩
      · exact ih (k + 1) h
  exact all 5 0 h
theorem blkOf_has (q : List UInt8 → List UInt8) (s : Nat) (y : Lk) (j : Nat) (hj : j < 5) : (blkOf q s y).any (fun f => f.k == j) = !(y.get j).data.toList.isEmpty := by
  have one : ∀ k, (fldAt q y s k).any (fun f => f.k == j) = (((k + s) % 5 == j) && !(y.get j).data.toList.isEmpty) := by
    intro k
    unfold fldAt
    by_cases hk : (k + s) % 5 = j
    · rw [hk]
      split
      · rename_i h; simp [h]
      · rename_i h
        have : (y.get j).data.toList.isEmpty = false := by simpa using h
        simp [this]
    · have hb : ((k + s) % 5 == j) = false := by simpa using hk
      split
      · simp [hb]
      · simp [hb]
  rw [blkOf_eq]
  simp only [List.any_append, one, List.any_nil, Bool.or_false]
  cases (y.get j).data.toList.isEmpty with
  | true => simp
  | false =>
    simp only [Bool.not_false, Bool.and_true]
    have h5 : s % 5 = 0 ∨ s % 5 = 1 ∨ s % 5 = 2 ∨ s % 5 = 3 ∨ s % 5 = 4 := by omega
    have hj5 : j = 0 ∨ j = 1 ∨ j = 2 ∨ j = 3 ∨ j = 4 := by omega
    have e0 : (0 + s) % 5 = s % 5 := by omega
    have e1 : (1 + s) % 5 = (1 + s % 5) % 5 := by omega
    have e2 : (2 + s) % 5 = (2 + s % 5) % 5 := by omega
    have e3 : (3 + s) % 5 = (3 + s % 5) % 5 := by omega
    have e4 : (4 + s) % 5 = (4 + s % 5) % 5 := by omega
    rw [e0, e1, e2, e3, e4]
    rcases h5 with h | h | h | h | h <;> rw [h] <;> rcases hj5 with rfl | rfl | rfl | rfl | rfl <;> rfl
theorem zero_get (j : Nat) : Lk.zero.get j = ⟨#[]⟩ := by
  rcases j with _ | _ | _ | _ | _ | j <;> rfl
theorem blkOf_set (q : List UInt8 → List UInt8) (s : Nat) (y : Lk) : setAll Lk.zero (blkOf q s y) = y := by
  refine Lk.ext_get fun j hj => ?_
  rw [setAll_get y (blkOf q s y) Lk.zero j hj fun f hf => by
    obtain ⟨h1, _, h3, _⟩ := blkOf_mem hf
    exact ⟨h1, by rw [h3]; exact ofL_of _⟩, blkOf_has q s y j hj]
  cases h : (y.get j).data.toList with
  | nil =>
    have : y.get j = ⟨#[]⟩ := by rw [← ofL_of (y.get j), h]; rfl
    rw [this, zero_get]
    simp
  | cons b t => simp
structure Qk (q : List UInt8 → List UInt8) : Prop where
  val : ∀ v : List UInt8, v.all plainB = true → v ≠ [] → valueL (q v) = (v, true)
  plain : ∀ v : List UInt8, v.all plainB = true → v ≠ [] → (q v).all plainB = true
  ends : ∀ v : List UInt8, v.all plainB = true → v ≠ [] → ∀ b ∈ q v, b ≠ 10
theorem quoteB_10 (b : UInt8) : ∀ x ∈ R.quoteB b, x ≠ 10 := by
  intro x hx
  unfold R.quoteB at hx
  split at hx
  · simp at hx; rcases hx with rfl | rfl <;> decide
  · split at hx
    · simp at hx; subst hx; decide
    · split at hx
      · simp at hx; rcases hx with rfl | rfl <;> decide
      · split at hx
        · simp at hx; rcases hx with rfl | rfl <;> decide
        · rename_i h2 h1 h0 h3
          simp only [List.mem_singleton] at hx
          subst hx
          assumption
theorem quote_qk : Qk R.quoteL := by
  refine ⟨fun v h _ => value_quote v h, fun v h _ => quote_plain h, ?_⟩
  intro v _ _ b hb
  unfold R.quoteL at hb
  rcases List.mem_cons.1 hb with rfl | hb
  · decide
  · rcases List.mem_append.1 hb with hb | hb
    · obtain ⟨x, _, hx⟩ := List.mem_flatMap.1 hb
      exact quoteB_10 x b hx
    · simp at hb
      subst hb
      decide
theorem blkOf_tidy {q : List UInt8 → List UInt8} (hq : Qk q) {y : Lk} (hy : OkLk y) (s : Nat) : ∀ f ∈ blkOf q s y, f.tidy := by
  intro f hf
  obtain ⟨h1, h2, h3, h4⟩ := blkOf_mem hf
  have hp := hy.plain f.k h1
  have hne : (y.get f.k).data.toList ≠ [] := by rw [← h3]; exact h4
  refine ⟨⟨h1, ?_, ?_⟩, ?_, ?_⟩
  · rw [h2, h3]; exact hq.val _ hp hne
  · rw [h3]
    rintro (h | h)
    · rw [h]; exact hy.root
    · rw [h] at hne ⊢; exact hy.source hne
  · rw [h2]; exact hq.plain _ hp hne
  · rw [h2]; exact hq.ends _ hp hne
theorem fldAt_names (q : List UInt8 → List UInt8) (y : Lk) (s k : Nat) : List.Sublist ((fldAt q y s k).map fun f => nm f.k) [nm ((k + s) % 5)] := by
  unfold fldAt
  split
  · simp
  · simp
theorem names_apart (s : Nat) : [nm ((0 + s) % 5), nm ((1 + s) % 5), nm ((2 + s) % 5), nm ((3 + s) % 5), nm ((4 + s) % 5)].Nodup := by
  have h5 : s % 5 = 0 ∨ s % 5 = 1 ∨ s % 5 = 2 ∨ s % 5 = 3 ∨ s % 5 = 4 := by omega
  have e0 : (0 + s) % 5 = s % 5 := by omega
  have e1 : (1 + s) % 5 = (1 + s % 5) % 5 := by omega
  have e2 : (2 + s) % 5 = (2 + s % 5) % 5 := by omega
  have e3 : (3 + s) % 5 = (3 + s % 5) % 5 := by omega
  have e4 : (4 + s) % 5 = (4 + s % 5) % 5 := by omega
  rw [e0, e1, e2, e3, e4]
  rcases h5 with h | h | h | h | h <;> rw [h] <;> decide +kernel
theorem blkOf_bl {q : List UInt8 → List UInt8} (hq : Qk q) {y : Lk} (hy : OkLk y) (s : Nat) : Bl (blkOf q s y) := by
  refine ⟨?_, fun f hf => (blkOf_tidy hq hy s f hf).1, ?_⟩
  · intro h
    have := blkOf_has q s y 0 (by omega)
    rw [h] at this
    have hr : y.root.data.toList ≠ [] := right_ne hy.root
    have hr2 : (y.get 0).data.toList.isEmpty = false := by
      show y.root.data.toList.isEmpty = false
      cases hd : y.root.data.toList with
      | nil => exact absurd hd hr
      | cons b t => rfl
    rw [hr2] at this
    simp at this
  · refine List.Nodup.sublist ?_ (names_apart s)
    rw [blkOf_eq]
    simp only [List.map_append, List.map_nil]
    exact (fldAt_names q y s 0).append ((fldAt_names q y s 1).append ((fldAt_names q y s 2).append ((fldAt_names q y s 3).append ((fldAt_names q y s 4).append (List.Sublist.refl [])))))
def blksFrom (q : List UInt8 → List UInt8) (g : Nat → Nat) : Nat → List Lk → List (List Fl)
  | _, [] => []
  | i, x :: l => blkOf q (g i) x :: blksFrom q g (i + 1) l
theorem blksFrom_mem {q : List UInt8 → List UInt8} {g : Nat → Nat} {b : List Fl} : ∀ {l : List Lk} {i : Nat}, b ∈ blksFrom q g i l → ∃ s x, x ∈ l ∧ b = blkOf q s x
  | [], i, h => by simp [blksFrom] at h
  | x :: l, i, h => by
    rcases List.mem_cons.1 h with rfl | h
    · exact ⟨g i, x, List.mem_cons_self, rfl⟩
    · obtain ⟨s, z, hz, e⟩ := blksFrom_mem h
      exact ⟨s, z, List.mem_cons_of_mem _ hz, e⟩
theorem blksFrom_locks (q : List UInt8 → List UInt8) (g : Nat → Nat) : ∀ (l : List Lk) (i : Nat), blocksLocks (blksFrom q g i l) = l
  | [], i => rfl
  | x :: l, i => by
    have := blksFrom_locks q g l (i + 1)
    unfold blocksLocks at this ⊢
    show setAll Lk.zero (blkOf q (g i) x) :: _ = _
    rw [blkOf_set, this]
theorem made_read {q : List UInt8 → List UInt8} (hq : Qk q) (g : Nat → Nat) {l : List Lk} (hl : OkLks l) (hz : (blocksDoc (blksFrom q g 0 l)).length ≤ 8000) : locksD (blocksDoc (blksFrom q g 0 l)) = (l, 0, 0) := by
  have := doc_read (blksFrom q g 0 l) (fun b hb => by
    obtain ⟨s, x, hx, rfl⟩ := blksFrom_mem hb
    exact blkOf_bl hq (hl.each x hx) s) (fun b hb => by
    obtain ⟨s, x, hx, rfl⟩ := blksFrom_mem hb
    exact blkOf_tidy hq (hl.each x hx) s) (by rw [blksFrom_locks]; exact hl) hz
  rw [this, blksFrom_locks]
end Go.Proofs.YtghencpiejbecaaGreatDoor.Q
