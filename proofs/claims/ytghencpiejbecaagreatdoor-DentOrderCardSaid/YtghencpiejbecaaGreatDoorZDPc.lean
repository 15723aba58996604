import Derived.Test.YtghencpiejbecaaGreatDoorZDPw
set_option linter.unusedVariables false
set_option linter.unusedSimpArgs false
namespace Go.Proofs.YtghencpiejbecaaGreatDoor.Q
open Go.RowKit Go.Proofs.YtghencpiejbecaaGreatDoorW.PrintWords Go.Proofs.YtghencpiejbecaaGreatDoorW.PrintLast Go.Proofs.YtghencpiejbecaaGreatDoorW.PrintMore
theorem index_colon (w : List UInt8) : ∀ p : List UInt8, (∀ b ∈ p, b ≠ 58) → Lib.index (p ++ 58 :: 32 :: w) [58, 32] = (p.length : Nat)
  | [], _ => by simp [Lib.index]
  | b :: p, h => by
    have ih := index_colon w p fun x hx => h x (List.mem_cons_of_mem _ hx)
    have hb : ¬ b = 58 := h b List.mem_cons_self
    have hpre : ([58, 32] : List UInt8).isPrefixOf (b :: (p ++ 58 :: 32 :: w)) = false := by
      simp [List.isPrefixOf, Ne.symm hb]
    show Lib.index (b :: (p ++ 58 :: 32 :: w)) [58, 32] = _
    unfold Lib.index
    rw [hpre, if_neg (by simp), ih]
    have : (((p.length : Nat) : Int) == -1) = false := by simp
    rw [this]
    simp
theorem cut_colon (p w : List UInt8) (h : ∀ b ∈ p, b ≠ 58) : Lib.cut (p ++ 58 :: 32 :: w) [58, 32] = (p, w, true) := by
  have e : p ++ 58 :: 32 :: w = (p ++ [58, 32]) ++ w := by simp
  unfold Lib.cut
  rw [index_colon w p h, if_pos (by omega)]
  simp only [Int.toNat_natCast]
  rw [List.take_append_of_le_length (Nat.le_refl _), List.take_length, e, List.drop_append_of_le_length (by simp), List.drop_of_length_le (by simp)]
  simp
def nm (k : Nat) : ByteArray := names.getD k ByteArray.empty
theorem nm_ok : ∀ k : Fin 5, (∀ b ∈ (nm k.val).data.toList, b ≠ 58 ∧ b ≠ 10) ∧ Lib.containsS names (nm k.val) = true ∧ Lib.idxOfS names (nm k.val) = (k.val : Int) ∧ needsPath (nm k.val) = (k.val == 0 || k.val == 4) ∧ ((nm k.val).data.toList.head? = some 114 ∨ (nm k.val).data.toList.head? = some 118 ∨ (nm k.val).data.toList.head? = some 119 ∨ (nm k.val).data.toList.head? = some 115) := by decide +kernel
theorem pair_line (k : Nat) (hk : k < 5) (w v : List UInt8) (hw : valueL w = (v, true)) : pairL ((nm k).data.toList ++ 58 :: 32 :: w) = some (nm k, v) := by
  obtain ⟨h1, h2, _⟩ := nm_ok ⟨k, hk⟩
  unfold pairL
  rw [cut_colon _ _ fun b hb => (h1 b hb).1]
  have e : (⟨(nm k).data.toList.toArray⟩ : ByteArray) = nm k := ofL_of (nm k)
  simp only [e]
  rw [if_pos ⟨by simp, h2⟩, hw, if_pos rfl]
def lineOf (first : Bool) (k : Nat) (w : List UInt8) : List UInt8 := (if first then [45, 32] else [32, 32]) ++ ((nm k).data.toList ++ 58 :: 32 :: w)
theorem line_first (k : Nat) (hk : k < 5) (w v : List UInt8) (hw : valueL w = (v, true)) (a : Nat) (l : List Lk) (has : List ByteArray) :
    lineD (lineOf true k w) a l has = if beginE l = 0 then fieldD a (l ++ [Lk.zero]) [] (nm k) v else .bad a (beginE l) := by
  unfold lineD
  have hp : Lib.hasPrefix (lineOf true k w) [45, 32] = true := by simp [lineOf, Lib.hasPrefix]
  have hd : (lineOf true k w).drop 2 = (nm k).data.toList ++ 58 :: 32 :: w := by simp [lineOf]
  rw [if_pos hp, hd, pair_line k hk w v hw]
theorem line_next (k : Nat) (hk : k < 5) (w v : List UInt8) (hw : valueL w = (v, true)) (a : Nat) (l : List Lk) (hl : l ≠ []) (has : List ByteArray) :
    lineD (lineOf false k w) a l has = fieldD a l has (nm k) v := by
  unfold lineD
  have hp : ¬ Lib.hasPrefix (lineOf false k w) [45, 32] = true := by simp [lineOf, Lib.hasPrefix]
  have hp2 : Lib.hasPrefix (lineOf false k w) [32, 32] = true := by simp [lineOf, Lib.hasPrefix]
  have hd : (lineOf false k w).drop 2 = (nm k).data.toList ++ 58 :: 32 :: w := by simp [lineOf]
  rw [if_neg hp, if_pos ⟨hp2, hl⟩, hd, pair_line k hk w v hw]
theorem field_ok (a k : Nat) (hk : k < 5) (init : List Lk) (x : Lk) (has : List ByteArray) (v : List UInt8) (hn : nm k ∉ has) (hr : (k = 0 ∨ k = 4) → rightL v = true) :
    fieldD a (init ++ [x]) has (nm k) v = .ok (init ++ [x.set k (ofL v)]) (has ++ [nm k]) := by
  obtain ⟨_, _, h3, h4, _⟩ := nm_ok ⟨k, hk⟩
  unfold fieldD
  have h1 : ¬ Lib.containsS has (nm k) = true := fun h => hn ((Lib.containsS_iff has (nm k)).1 h)
  have h2 : ¬ (needsPath (nm k) && !rightL v) = true := by
    intro h
    simp only [Bool.and_eq_true] at h
    rw [h4] at h
    simp only [Bool.or_eq_true, beq_iff_eq] at h
    rw [hr h.1] at h
    simp at h
  rw [if_neg h1, if_neg h2, List.getLast?_append]
  simp only [List.getLast?_singleton, Option.some_or, List.dropLast_concat, h3, Int.toNat_natCast]
  rfl
theorem whole_nl (x : List UInt8) : wholeL (x ++ [10]) = x := by
  unfold wholeL Lib.trimSuffix
  rw [if_pos (by simp [Lib.hasSuffix])]
  simp
theorem word_first (k : Nat) (w : List UInt8) : (wordL (lineOf true k w ++ [10])).head? = some 45 ∧ (wordL (lineOf true k w ++ [10])).length = (lineOf true k w).length := by
  unfold wordL
  rw [whole_nl]
  simp [lineOf, Lib.trimLeftB]
theorem word_next (k : Nat) (hk : k < 5) (w : List UInt8) : (wordL (lineOf false k w ++ [10])).head? ≠ some 35 ∧ wordL (lineOf false k w ++ [10]) ≠ [] := by
  obtain ⟨_, _, _, _, h5⟩ := nm_ok ⟨k, hk⟩
  unfold wordL
  rw [whole_nl]
  have e : Lib.trimLeftB (lineOf false k w) 32 = (nm k).data.toList ++ 58 :: 32 :: w := by
    unfold lineOf Lib.trimLeftB
    cases hn : (nm k).data.toList with
    | nil => simp [hn] at h5
    | cons b t =>
      rw [hn] at h5
      simp only [List.head?_cons, Option.some.injEq] at h5
      have hb : (b == (32 : UInt8)) = false := by
        rcases h5 with rfl | rfl | rfl | rfl <;> rfl
      simp [List.dropWhile, hb]
  rw [e]
  cases hn : (nm k).data.toList with
  | nil => simp [hn] at h5
  | cons b t =>
    rw [hn] at h5
    simp only [List.head?_cons, Option.some.injEq] at h5
    refine ⟨?_, by simp⟩
    simp only [List.cons_append, List.head?_cons, ne_eq, Option.some.injEq]
    rcases h5 with rfl | rfl | rfl | rfl <;> decide
theorem step_first (k : Nat) (hk : k < 5) (w v : List UInt8) (hw : valueL w = (v, true)) (frm : Nat) (l : List Lk) (has : List ByteArray) (hb : beginE l = 0) (hr : (k = 0 ∨ k = 4) → rightL v = true) :
    stepD ⟨frm, true, .ok l has⟩ (lineOf true k w ++ [10]) = ⟨frm + (lineOf true k w ++ [10]).length, true, .ok (l ++ [Lk.zero.set k (ofL v)]) [nm k]⟩ := by
  obtain ⟨h1, _⟩ := word_first k w
  unfold stepD
  simp only
  rw [if_neg, if_pos trivial, whole_nl, line_first k hk w v hw, if_pos hb, field_ok _ k hk l Lk.zero [] v (by simp) hr]
  · rfl
  · rintro (h | h)
    · rw [h] at h1
      simp at h1
    · rw [h1] at h
      simp at h
theorem step_next (k : Nat) (hk : k < 5) (w v : List UInt8) (hw : valueL w = (v, true)) (frm : Nat) (init : List Lk) (x : Lk) (has : List ByteArray) (hn : nm k ∉ has) (hr : (k = 0 ∨ k = 4) → rightL v = true) :
    stepD ⟨frm, true, .ok (init ++ [x]) has⟩ (lineOf false k w ++ [10]) = ⟨frm + (lineOf false k w ++ [10]).length, true, .ok (init ++ [x.set k (ofL v)]) (has ++ [nm k])⟩ := by
  obtain ⟨h1, h2⟩ := word_next k hk w
  unfold stepD
  simp only
  rw [if_neg, if_pos trivial, whole_nl, line_next k hk w v hw _ _ (by simp), field_ok _ k hk init x has v hn hr]
  rintro (h | h)
  · exact h2 h
  · exact h1 h
theorem unqGo_cons (x : UInt8) (r acc : List UInt8) (n : Nat) : unqGo (x :: r) acc n = if x < 32 ∨ 126 < x then none else if x = 34 then some (acc, n + 1) else if x = 92 then (match r with | [] => none | y :: r' => match esc y with | none => none | some z => unqGo r' (acc ++ [z]) (n + 2)) else unqGo r (acc ++ [x]) (n + 1) := by
  cases r <;> rfl
theorem unqGo_quoteB (b : UInt8) (hb : plainB b = true) (rest acc : List UInt8) (n : Nat) : unqGo (R.quoteB b ++ rest) acc n = unqGo rest (acc ++ [b]) (n + (R.quoteB b).length) := by
  unfold R.quoteB
  by_cases h0 : b = 34
  · subst h0; rw [if_pos rfl]; rfl
  rw [if_neg h0]
  by_cases h1 : b = 92
  · subst h1; rw [if_pos rfl]; rfl
  rw [if_neg h1]
  by_cases h2 : b = 10
  · subst h2; rw [if_pos rfl]; rfl
  rw [if_neg h2]
  by_cases h3 : b = 9
  · subst h3; rw [if_pos rfl]; rfl
  rw [if_neg h3]
  have hr : ¬ (b < 32 ∨ 126 < b) := by
    simp only [plainB, Bool.or_eq_true, Bool.and_eq_true, beq_iff_eq, decide_eq_true_eq] at hb
    rcases hb with (h | h) | ⟨h4, h5⟩
    · exact absurd h h3
    · exact absurd h h2
    · rintro (h | h)
      · rw [UInt8.lt_iff_toNat_lt] at h; rw [UInt8.le_iff_toNat_le] at h4; omega
      · rw [UInt8.lt_iff_toNat_lt] at h; rw [UInt8.le_iff_toNat_le] at h5; omega
  rw [List.singleton_append, unqGo_cons, if_neg hr, if_neg h0, if_neg h1]
  rfl
theorem unqGo_quote (v : List UInt8) (hv : v.all plainB = true) (rest acc : List UInt8) (n : Nat) :
    unqGo (v.flatMap R.quoteB ++ (34 :: rest)) acc n = some (acc ++ v, n + (v.flatMap R.quoteB).length + 1) := by
  induction v generalizing acc n with
  | nil => rw [List.flatMap_nil, List.nil_append, unqGo_cons, if_neg (by decide), if_pos rfl]; simp
  | cons b v ih =>
    simp only [List.all_cons, Bool.and_eq_true] at hv
    rw [List.flatMap_cons, List.append_assoc, unqGo_quoteB b hv.1, ih hv.2, List.length_append]
    simp [Nat.add_assoc]
theorem unq_quote (v rest : List UInt8) (hv : v.all plainB = true) : unq (R.quoteL v ++ rest) = some (v, (R.quoteL v).length) := by
  have : R.quoteL v ++ rest = 34 :: (v.flatMap R.quoteB ++ (34 :: rest)) := by simp [R.quoteL]
  rw [this, unq, unqGo_quote v hv]
  simp [R.quoteL]
  omega
theorem value_quote (v : List UInt8) (hv : v.all plainB = true) : valueL (R.quoteL v) = (v, true) := by
  have h := unq_quote v [] hv
  rw [List.append_nil] at h
  unfold valueL
  rw [h]
  simp
theorem toList_data (b : ByteArray) : b.toList = b.data.toList := Lib.toList_data b
theorem right_ne {l : List UInt8} (h : rightL l = true) : l ≠ [] := by
  rintro rfl
  simp [rightL] at h
theorem ended_snoc {init : List Lk} {x : Lk} (hx : OkLk x) (ha : x.root.data.toList ∉ init.map fun x => x.root.data.toList) : endedE (init ++ [x]) = 0 := by
  rw [endedE_snoc, if_neg, if_neg]
  · rw [List.any_eq_true]
    rintro ⟨z, hz, he⟩
    simp only [toList_data, beq_iff_eq] at he
    exact ha (List.mem_map.2 ⟨z, hz, he⟩)
  · simp only [toList_data, Bool.or_eq_true, Bool.and_eq_true, List.isEmpty_iff]
    rintro (h | ⟨h1, h2⟩)
    · exact right_ne hx.root h
    · rcases hx.some with h | h
      · exact h h1
      · exact h h2
theorem ended_ok {l : List Lk} (h : OkLks l) : endedE l = 0 := by
  rcases List.eq_nil_or_concat l with rfl | ⟨init, x, rfl⟩
  · rfl
  · rw [List.concat_eq_append] at *
    refine ended_snoc (h.each x (by simp)) ?_
    have := h.apart
    rw [List.map_append, List.nodup_append] at this
    intro hm
    exact this.2.2 _ hm _ (by simp) rfl
theorem OkLks.prefix {l m : List Lk} (h : OkLks (l ++ m)) : OkLks l := by
  refine ⟨fun x hx => h.each x (List.mem_append_left _ hx), ?_, ?_⟩
  · have := h.apart
    rw [List.map_append, List.nodup_append] at this
    exact this.1
  · have := h.few
    rw [List.length_append] at this
    omega
theorem begin_ok {l : List Lk} (h : OkLks l) (hn : l.length < 40) : beginE l = 0 := by
  unfold beginE
  rw [if_pos (ended_ok h), if_neg (by omega)]
structure Fl where
  k : Nat
  w : List UInt8
  v : List UInt8
def Fl.ok (f : Fl) : Prop := f.k < 5 ∧ valueL f.w = (f.v, true) ∧ ((f.k = 0 ∨ f.k = 4) → rightL f.v = true)
def setAll (x : Lk) (fs : List Fl) : Lk := fs.foldl (fun x f => x.set f.k (ofL f.v)) x
def nextLines (fs : List Fl) : List (List UInt8) := fs.map fun f => lineOf false f.k f.w ++ [10]
theorem next_run : ∀ (fs : List Fl) (frm : Nat) (init : List Lk) (x : Lk) (has : List ByteArray), (∀ f ∈ fs, f.ok) → (has ++ fs.map fun f => nm f.k).Nodup →
    (nextLines fs).foldl stepD ⟨frm, true, .ok (init ++ [x]) has⟩ = ⟨frm + (nextLines fs).flatten.length, true, .ok (init ++ [setAll x fs]) (has ++ fs.map fun f => nm f.k)⟩
  | [], frm, init, x, has, _, _ => by simp [nextLines, setAll]
  | f :: fs, frm, init, x, has, hf, hd => by
    obtain ⟨h1, h2, h3⟩ := hf f List.mem_cons_self
    have hn : nm f.k ∉ has := by
      intro h
      rw [List.map_cons, List.nodup_append] at hd
      exact hd.2.2 _ h _ List.mem_cons_self rfl
    have e : nextLines (f :: fs) = (lineOf false f.k f.w ++ [10]) :: nextLines fs := rfl
    rw [e, List.foldl_cons, step_next f.k h1 f.w f.v h2 frm init x has hn h3]
    rw [next_run fs _ init (x.set f.k (ofL f.v)) (has ++ [nm f.k]) (fun g hg => hf g (List.mem_cons_of_mem _ hg)) (by simpa using hd)]
    simp [setAll, List.append_assoc, Nat.add_assoc]
    omega
def blockLines : List Fl → List (List UInt8)
  | [] => []
  | f :: fs => (lineOf true f.k f.w ++ [10]) :: nextLines fs
theorem block_run (f : Fl) (fs : List Fl) (frm : Nat) (l : List Lk) (has : List ByteArray) (hb : beginE l = 0) (hf : ∀ g ∈ f :: fs, g.ok) (hd : ((f :: fs).map fun f => nm f.k).Nodup) :
    (blockLines (f :: fs)).foldl stepD ⟨frm, true, .ok l has⟩ = ⟨frm + (blockLines (f :: fs)).flatten.length, true, .ok (l ++ [setAll Lk.zero (f :: fs)]) ((f :: fs).map fun f => nm f.k)⟩ := by
  obtain ⟨h1, h2, h3⟩ := hf f List.mem_cons_self
  show List.foldl stepD _ ((lineOf true f.k f.w ++ [10]) :: nextLines fs) = _
  rw [List.foldl_cons, step_first f.k h1 f.w f.v h2 frm l has hb h3, next_run fs _ l _ [nm f.k] (fun g hg => hf g (List.mem_cons_of_mem _ hg)) (by simpa using hd)]
  simp [blockLines, setAll, Nat.add_assoc]
  omega
def blocksText (bl : List (List Fl)) : List (List UInt8) := bl.flatMap blockLines
def blocksLocks (bl : List (List Fl)) : List Lk := bl.map (setAll Lk.zero)
structure Bl (b : List Fl) : Prop where
  some : b ≠ []
  each : ∀ f ∈ b, f.ok
  apart : (b.map fun f => nm f.k).Nodup
theorem blocks_run : ∀ (bl : List (List Fl)) (frm : Nat) (l : List Lk) (has : List ByteArray), (∀ b ∈ bl, Bl b) → OkLks (l ++ blocksLocks bl) →
    ∃ has', (blocksText bl).foldl stepD ⟨frm, true, .ok l has⟩ = ⟨frm + (blocksText bl).flatten.length, true, .ok (l ++ blocksLocks bl) has'⟩
  | [], frm, l, has, _, _ => ⟨has, by simp [blocksText, blocksLocks]⟩
  | b :: bl, frm, l, has, hb, ho => by
    obtain ⟨h1, h2, h3⟩ := hb b List.mem_cons_self
    have ho2 : OkLks ((l ++ [setAll Lk.zero b]) ++ blocksLocks bl) := by simpa [blocksLocks] using ho
    have hlen := ho.few
    have hl : l.length < 40 := by
      simp only [blocksLocks, List.length_append, List.length_map, List.length_cons] at hlen
      omega
    cases b with
    | nil => exact absurd rfl h1
    | cons f fs =>
      have hr := block_run f fs frm l has (begin_ok ho.prefix hl) h2 h3
      obtain ⟨has', hr2⟩ := blocks_run bl (frm + (blockLines (f :: fs)).flatten.length) (l ++ [setAll Lk.zero (f :: fs)]) ((f :: fs).map fun f => nm f.k) (fun b h => hb b (List.mem_cons_of_mem _ h)) ho2
      refine ⟨has', ?_⟩
      have e : blocksText ((f :: fs) :: bl) = blockLines (f :: fs) ++ blocksText bl := rfl
      rw [e, List.foldl_append, hr, hr2]
      simp [blocksLocks, Nat.add_assoc]
theorem step_skip (frm : Nat) (begun : Bool) (l : List Lk) (has : List ByteArray) (x : List UInt8) (h : wordL x = [] ∨ (wordL x).head? = some 35) : stepD ⟨frm, begun, .ok l has⟩ x = ⟨frm + x.length, begun, .ok l has⟩ := by
  unfold stepD
  simp only
  rw [if_pos h]
theorem pieces_lines : ∀ (ls : List (List UInt8)) (t : List UInt8), (∀ l ∈ ls, ∀ b ∈ l, b ≠ 10) → pieces ((ls.map fun l => l ++ [10]).flatten ++ t) = (ls.map fun l => l ++ [10]) ++ pieces t
  | [], t, _ => rfl
  | l :: ls, t, h => by
    have e : ((l :: ls).map fun l => l ++ [10]).flatten ++ t = l ++ 10 :: ((ls.map fun l => l ++ [10]).flatten ++ t) := by simp
    rw [e, pieces_step l _ (h l List.mem_cons_self), pieces_lines ls t fun m hm => h m (List.mem_cons_of_mem _ hm)]
    rfl
theorem header_step (frm : Nat) : stepD ⟨frm, false, .ok [] []⟩ (locksWordL ++ [10]) = ⟨frm + 7, true, .ok [] []⟩ := by
  unfold stepD
  simp only
  rw [if_neg (by decide), if_neg (by simp), if_pos (whole_nl locksWordL)]
  rfl
end Go.Proofs.YtghencpiejbecaaGreatDoor.Q
