import Derived.Test.YtljfcdfdedkajaaDoorZTd
import Derived.Test.YtljfcdfdedkajaaDoorZEnv
import Derived.Test.YtljfcdfdedkajaaDoorZUnq
import Derived.Test.YtljfcdfdedkajaaDoorZPath
import Derived.StillTailTactics
import Derived.Deep.RegionWith
import Derived.BigRegion
import Derived.Deep.CutRange
set_option linter.unusedVariables false
set_option linter.unusedSimpArgs false
namespace Go.Proofs.YtljfcdfdedkajaaDoor.Q
open Go.RowKit Go.Proofs.YtljfcdfdedkajaaDoorW.PrintWords
def Lk.set (x : Lk) (k : Nat) (v : ByteArray) : Lk :=
  match k with
  | 0 => { x with root := v }
  | 1 => { x with version := v }
  | 2 => { x with rev := v }
  | 3 => { x with within := v }
  | _ => { x with source := v }
theorem Lk.set_cells (x : Lk) (k : Nat) (hk : k < 5) (v : ByteArray) : (x.set k v).cells = x.cells.set k (.string v) := by
  rcases k with _ | _ | _ | _ | _ | k
  all_goals first | rfl | omega
theorem lkCells_set (l : List Lk) (x : Lk) (k : Nat) (hk : k < 5) (v : ByteArray) : (lkCells (l ++ [x])).set (l.length * 5 + k) (.string v) = lkCells (l ++ [x.set k v]) := by
  have h1 : ∀ y : Lk, lkCells [y] = y.cells := fun y => by simp [lkCells]
  rw [lkCells_append, lkCells_append, h1, h1, Lk.set_cells x k hk]
  have hl := lkCells_length l
  rw [List.set_append_right _ _ (by omega)]
  congr 2
  omega
theorem Ls.put {w : World} {base q c : Nat} {l : List Lk} {x : Lk} (h : Ls w base (.slice (some ⟨q, 0, none⟩) (l.length + 1) c) (l ++ [x])) (k : Nat) (hk : k < 5) (v : ByteArray) :
    Ls (w.setCell ⟨q, l.length * 5 + k, none⟩ (.string v)) base (.slice (some ⟨q, 0, none⟩) (l.length + 1) c) (l ++ [x.set k v]) := by
  obtain ⟨h1, h2⟩ := h
  refine ⟨by rw [lkCells_length], .inr ?_⟩
  rcases h2 with ⟨h2, _⟩ | ⟨g, cap, cs, he, hb, hh, hle, hcap, hs, ht⟩
  · cases h2
  · injection he with he1 he2 he3
    injection he1 with he1
    injection he1 with he1
    subst he1 he3
    refine ⟨q, c, cs.setIfInBounds (l.length * 5 + k) (.string v), by simp, hb, blk_set hh _ _, by simpa using hle, hcap, by simpa using hs, ?_⟩
    rw [Array.toList_setIfInBounds, ← lkCells_set l x k hk v, ← ht]
    simp only [List.length_append, List.length_cons, List.length_nil]
    rw [List.take_set]
def lower : UInt8 → Bool := inSet ⟨#[97, 98, 99, 100, 101, 102, 103, 104, 105, 106, 107, 108, 109, 110, 111, 112, 113, 114, 115, 116, 117, 118, 119, 120, 121, 122]⟩
def names : List ByteArray := [wordRoot, wordVersion, wordRev, wordWithin, wordSource]
def spc : ByteArray := ⟨#[32]⟩
def eqs : ByteArray := ⟨#[61]⟩
def needsPath (word : ByteArray) : Bool := word.toList == [114, 111, 111, 116] || word.toList == [115, 111, 117, 114, 99, 101]
def tailR (s : ByteArray) (l : List Lk) (x : Lk) (hv word : ByteArray) (k a : Nat) : Res :=
  match unq (s.data.toList.drop a) with
  | none => .bad a 1
  | some (out, used) => if (needsPath word && !rightL out) = true then .bad a 7 else .ok ⟨a + used, l ++ [x.set k ⟨out.toArray⟩], hv ++ (word ++ spc)⟩
def fieldR (s : ByteArray) (st : PSt) : Res :=
  let e := spanEnd lower s st.a
  let word := s.extract st.a e
  match st.l.getLast? with
  | none => .bad st.a 1
  | some x =>
    let k := Lib.idxOfS names word
    if k < 0 then .bad st.a 1
    else if Lib.contains st.hv.data.toList (word ++ spc).data.toList = true then .bad st.a 4
    else
      let b := spanEnd blank s e
      if Lib.hasPrefix (s.data.toList.drop b) eqs.data.toList = true then tailR s st.l.dropLast x st.hv word k.toNat (spanEnd blank s (b + 1)) else .bad b 1
theorem fieldR_nil (s : ByteArray) (a : Nat) (hv : ByteArray) : fieldR s ⟨a, [], hv⟩ = .bad a 1 := rfl
theorem fieldR_snoc (s : ByteArray) (a : Nat) (l : List Lk) (x : Lk) (hv : ByteArray) : fieldR s ⟨a, l ++ [x], hv⟩ =
    if Lib.idxOfS names (s.extract a (spanEnd lower s a)) < 0 then .bad a 1
    else if Lib.contains hv.data.toList (s.extract a (spanEnd lower s a) ++ spc).data.toList = true then .bad a 4
    else if Lib.hasPrefix (s.data.toList.drop (spanEnd blank s (spanEnd lower s a))) eqs.data.toList = true then
      tailR s l x hv (s.extract a (spanEnd lower s a)) (Lib.idxOfS names (s.extract a (spanEnd lower s a))).toNat (spanEnd blank s (spanEnd blank s (spanEnd lower s a) + 1))
    else .bad (spanEnd blank s (spanEnd lower s a)) 1 := by
  simp only [fieldR, List.getLast?_append, List.getLast?_singleton, Option.or_some, Option.some_or, List.dropLast_concat]
theorem idx_lt (x : ByteArray) (h : ¬ Lib.idxOfS names x < 0) : ∃ k : Nat, k < 5 ∧ Lib.idxOfS names x = k := by
  have e : Lib.idxOfS names x = if wordRoot = x then 0 else if wordVersion = x then 1 else if wordRev = x then 2 else if wordWithin = x then 3 else if wordSource = x then 4 else -1 := rfl
  rw [e] at h ⊢
  by_cases h0 : wordRoot = x
  · exact ⟨0, by omega, by rw [if_pos h0]; rfl⟩
  rw [if_neg h0] at h ⊢
  by_cases h1 : wordVersion = x
  · exact ⟨1, by omega, by rw [if_pos h1]; rfl⟩
  rw [if_neg h1] at h ⊢
  by_cases h2 : wordRev = x
  · exact ⟨2, by omega, by rw [if_pos h2]; rfl⟩
  rw [if_neg h2] at h ⊢
  by_cases h3 : wordWithin = x
  · exact ⟨3, by omega, by rw [if_pos h3]; rfl⟩
  rw [if_neg h3] at h ⊢
  by_cases h4 : wordSource = x
  · exact ⟨4, by omega, by rw [if_pos h4]; rfl⟩
  rw [if_neg h4] at h
  simp at h
theorem Ls.keep2 {w w' : World} {base p c : Nat} {s : ByteArray} {lv lv' : Value} {hv : ByteArray} {wh e a : Int} {l : List Lk} (h : Ls w base lv l) (hp : Rd w p c s lv' hv wh e) (hc : Cur w c s a) (hf : Fr (fun k => k = p ∨ k = c) w w') : Ls w' base lv l :=
  h.keep hf (fun k cs hk => by
    rcases hk with hk | hk
    · exact Blk.ty hp (by decide) k cs hk
    · exact Blk.ty hc (by decide) k cs hk)
theorem nl_size (s x : ByteArray) (k : Nat) (hk : k ≤ s.size) (h : Lib.hasPrefix (s.data.toList.drop k) x.data.toList = true) : k + x.size ≤ s.size := by
  have h1 := List.IsPrefix.length_le (List.isPrefixOf_iff_prefix.1 h)
  rw [List.length_drop, data_length, data_length] at h1
  omega
theorem unq_bound (l : List UInt8) (r : List UInt8 × Nat) (h : unq l = some r) : r.2 ≤ l.length ∧ r.1.length ≤ l.length := by
  unfold unq at h
  split at h
  · have := unqGo_bound _ _ _ _ h
    simp only [List.length_cons, List.length_nil] at this ⊢
    omega
  · cases h
def MustRel (s : ByteArray) (E : Nat) (wh1 e1 : Int) (b : Nat) : Prop :=
  (Lib.hasPrefix (s.data.toList.drop (spanEnd blank s E)) eqs.data.toList = true ∧ e1 = 0 ∧ b = spanEnd blank s E + eqs.size) ∨ (Lib.hasPrefix (s.data.toList.drop (spanEnd blank s E)) eqs.data.toList = false ∧ e1 = 1 ∧ wh1 = (spanEnd blank s E : Nat) ∧ b = spanEnd blank s E)
theorem field_bad {w : World} {base p c : Nat} {s : ByteArray} {l : List Lk} {x : Lk} {hv word : ByteArray} {k E : Nat} {R : Res} {wh1 e1 y : Int} {b a2 : Nat} {lv : Value} {hv' : ByteArray}
    (hR : R = if Lib.hasPrefix (s.data.toList.drop (spanEnd blank s E)) eqs.data.toList = true then tailR s l x hv word k (spanEnd blank s (spanEnd blank s E + 1)) else .bad (spanEnd blank s E) 1)
    (hrel : MustRel s E wh1 e1 b) (ha : spanEnd blank s b = a2) (hT : tailR s l x hv word k a2 = .bad a2 y) (hy : y ≠ 0) (h : Rd w p c s lv hv' (if e1 = 0 then a2 else wh1) (if e1 = 0 then y else e1)) : Holds w base p c s R := by
  rcases hrel with ⟨hp, he, hb⟩ | ⟨hp, he, hw, hb⟩
  · have hb' : spanEnd blank s E + 1 = b := hb.symm
    rw [hR, if_pos hp, hb', ha, hT]
    rw [if_pos he, if_pos he] at h
    exact ⟨hy, lv, hv', h⟩
  · rw [hR, if_neg (by rw [hp]; simp)]
    subst he
    rw [if_neg (by decide), if_neg (by decide), hw] at h
    exact ⟨by decide, lv, hv', h⟩
theorem tailR_none (s : ByteArray) (l : List Lk) (x : Lk) (hv word : ByteArray) (k a : Nat) (h : unq (s.data.toList.drop a) = none) : tailR s l x hv word k a = .bad a 1 := by
  unfold tailR
  rw [h]
theorem tailR_some (s : ByteArray) (l : List Lk) (x : Lk) (hv word : ByteArray) (k a : Nat) (out : List UInt8) (used : Nat) (h : unq (s.data.toList.drop a) = some (out, used)) :
    tailR s l x hv word k a = if (needsPath word && !rightL out) = true then .bad a 7 else .ok ⟨a + used, l ++ [x.set k ⟨out.toArray⟩], hv ++ (word ++ spc)⟩ := by
  unfold tailR
  rw [h]
theorem take_pre (s : ByteArray) (a n : Nat) (h : a + n ≤ s.size) : Lib.hasPrefix (s.data.toList.drop a) (s.extract a (a + n)).data.toList = true := by
  unfold Lib.hasPrefix
  rw [List.isPrefixOf_iff_prefix, ByteArray.data_extract, Array.toList_extract, List.extract_eq_take_drop]
  exact List.take_prefix _ _
theorem take_size (s : ByteArray) (a n : Nat) (h : a + n ≤ s.size) : (a : Int) + ((s.extract a (a + n)).size : Nat) = ((a + n : Nat) : Int) := by
  rw [ByteArray.size_extract]
  omega
theorem key_cell {w : World} {b2 q o : Nat} (h : Blk w b2 80 #[.pointer (some ⟨q, o, none⟩), .pointer (some ⟨q, o + 1, none⟩), .pointer (some ⟨q, o + 2, none⟩), .pointer (some ⟨q, o + 3, none⟩), .pointer (some ⟨q, o + 4, none⟩)])
    (k : Nat) (hk : k < 5) : w.cell? ⟨b2, k, none⟩ = some (.pointer (some ⟨q, o + k, none⟩)) := by
  rw [h.cell k]
  rcases k with _ | _ | _ | _ | _ | k
  all_goals first | rfl | omega
theorem Ls.last {w : World} {base q c : Nat} {l : List Lk} {x : Lk} (h : Ls w base (.slice (some ⟨q, 0, none⟩) (l.length + 1) c) (l ++ [x])) (k : Nat) (hk : k < 5) :
    ∃ v, w.cell? ⟨q, l.length * 5 + k, none⟩ = some v ∧ w.frozen? ⟨q, l.length * 5 + k, none⟩ = false := by
  obtain ⟨q', c', he, at_⟩ := h.at_ (by simp)
  injection he with he1 he2 he3
  injection he1 with he1
  injection he1 with he1
  subst he1
  have h1 := at_.cell l.length k (by simp) hk
  have h2 : k < ((l ++ [x])[l.length]'(by simp)).cells.length := hk
  rw [List.getElem?_eq_getElem h2] at h1
  obtain ⟨cs, hcs, _⟩ := at_.blk
  exact ⟨_, h1, by simp [World.frozen?, hcs]⟩
theorem field_good {w w' : World} {base p c q cc : Nat} {s : ByteArray} {l : List Lk} {x : Lk} {hv word : ByteArray} {k E : Nat} {kI : Int} {R : Res} {wh1 e1 : Int} {b a2 a3 : Nat} {hv' hv2 : ByteArray} {v : ByteArray}
    (hR : R = if Lib.hasPrefix (s.data.toList.drop (spanEnd blank s E)) eqs.data.toList = true then tailR s l x hv word kI.toNat (spanEnd blank s (spanEnd blank s E + 1)) else .bad (spanEnd blank s E) 1)
    (hk : kI = k) (hrel : MustRel s E wh1 e1 b) (ha : spanEnd blank s b = a2) (hT : tailR s l x hv word k a2 = .ok ⟨a3, l ++ [x.set k v], hv2⟩) (hhv : hv2 = hv')
    (hl : Ls w' base (.slice (some ⟨q, 0, none⟩) (l.length + 1) cc) (l ++ [x.set k v])) (h : Rd w' p c s (.slice (some ⟨q, 0, none⟩) (l.length + 1) cc) hv' wh1 e1) (hc : Cur w' c s a3) (hb : Below base w w') :
    StepPost w base p c s R (.returned (.tuple #[])) w' := by
  refine ⟨rfl, ?_, hb⟩
  rcases hrel with ⟨hp, he, hbe⟩ | ⟨hp, he, hw, hbe⟩
  · have hb' : spanEnd blank s E + 1 = b := hbe.symm
    have hk' : kI.toNat = k := by omega
    rw [hR, if_pos hp, hb', ha, hk', hT]
    subst he hhv
    exact ⟨_, _, h, hl, hc⟩
  · rw [hR, if_neg (by rw [hp]; simp)]
    subst he
    rw [hw] at h
    exact ⟨by decide, _, _, h⟩
def KeysAt (w w' : World) (q o b1 b2 : Nat) : Prop :=
  w.heap.size ≤ b1 ∧ w.heap.size ≤ b2 ∧ b1 ≠ b2
    ∧ Blk w' b1 9 #[.string wordRoot, .string wordVersion, .string wordRev, .string wordWithin, .string wordSource]
    ∧ Blk w' b2 80 #[.pointer (some ⟨q, o, none⟩), .pointer (some ⟨q, o + 1, none⟩), .pointer (some ⟨q, o + 2, none⟩), .pointer (some ⟨q, o + 3, none⟩), .pointer (some ⟨q, o + 4, none⟩)]
    ∧ Below w.heap.size w w'
section
variable (w : World) (p c : Nat) (s : ByteArray) (lv : Value) (hv : ByteArray) (wh : Int)
theorem must_any (x : ByteArray) (a : Nat) (h : Rd w p c s lv hv wh 0) (hc : Cur w c s a) (ha : a ≤ s.size) (hs : s.size ≤ 140737488351232) (P : Bool)
    (hp : Lib.hasPrefix (s.data.toList.drop (spanEnd blank s a)) x.data.toList = P) :
    Calls Tryd.prog 53 #[.pointer (some ⟨p, 0, none⟩), .string x] w fun e w' => e = .returned (.tuple #[])
      ∧ (∃ (wh1 e1 : Int) (b : Nat), Rd w' p c s lv hv wh1 e1 ∧ Cur w' c s b ∧ ((P = true ∧ e1 = 0 ∧ b = spanEnd blank s a + x.size) ∨ (P = false ∧ e1 = 1 ∧ wh1 = (spanEnd blank s a : Nat) ∧ b = spanEnd blank s a))) ∧ Fr (fun k => k = p ∨ k = c) w w' := by
  cases P with
  | true =>
    refine (must_yes w p c s lv hv wh x a h hc ha hs hp).mono ?_
    rintro e w1 ⟨rfl, hc1, hf1⟩
    exact ⟨rfl, ⟨wh, 0, _, Blk.fr h hf1 (rd_ne _ _ _ _ _ _ _ _ h hc), hc1, .inl ⟨rfl, rfl, rfl⟩⟩, hf1.mono fun k hk => .inr hk⟩
  | false =>
    refine (must_no w p c s lv hv wh x a h hc ha hs hp).mono ?_
    rintro e w1 ⟨rfl, hr1, hc1, hf1⟩
    exact ⟨rfl, ⟨_, 1, _, hr1, hc1, .inr ⟨rfl, rfl, rfl, rfl⟩⟩, hf1⟩
theorem word_calls (a : Nat) (h : Cur w c s a) (ha : a ≤ s.size) (hs : s.size ≤ 140737488351232) :
    Calls Tryd.prog 46 #[.pointer (some ⟨c, 0, none⟩), .string ⟨#[97, 98, 99, 100, 101, 102, 103, 104, 105, 106, 107, 108, 109, 110, 111, 112, 113, 114, 115, 116, 117, 118, 119, 120, 121, 122]⟩] w fun e w' => e = .returned (.string (s.extract a (spanEnd lower s a))) ∧ Cur w' c s (spanEnd lower s a : Nat) ∧ Fr (· = c) w w' :=
  while_calls w c s _ a h ha hs
theorem field_none (base : Nat) (a : Nat) (hv : ByteArray) (hg : Good w base p c s ⟨a, [], hv⟩) (hbp : base ≤ p) (hbc : base ≤ c) (ha : a ≤ s.size) (hs : s.size ≤ 140737488351232) :
    Calls Tryd.prog 23 #[.pointer (some ⟨p, 0, none⟩)] w (StepPost w base p c s (fieldR s ⟨a, [], hv⟩)) := by
  obtain ⟨lv, wh, h, hl, hc⟩ := hg
  simp only at h hl hc
  rw [fieldR_nil]
  obtain ⟨A, cc, rfl⟩ := own_slice hl
  have h0 := h.cell 0
  have HPC := Lib.hid (rd_ne _ _ _ _ _ _ _ _ h hc)
  have HC := Lib.hid hc
  have H := Lib.hid h
  have hbs : base ≤ w.heap.size := Nat.le_trans hbp (Nat.le_of_lt (Blk.lt h))
  have HBS := Lib.hid hbs
  clear h hc hl hbs
  go_enter Tryd.func23, Tryd.ntmps23
  go_wp2_with (fail)
  refine (at_calls _ c s _ HC.out).mono ?_
  rintro e w1 ⟨rfl, rfl⟩
  go_wp2_with (fail)
  refine (while_calls _ c s _ a HC.out ha hs).mono ?_
  rintro e w2 ⟨rfl, hc2, hf2⟩
  have h2 : Rd w2 p c s _ hv wh 0 := Blk.fr H.out hf2 HPC.out
  have h22 := h2.cell 2
  have H2 := Lib.hid h2
  have HF2 := Lib.hid hf2
  clear hc2 h2 hf2
  go_wp2_with (fail)
  refine (wrong_set _ p c s _ hv wh H2.out a 1).mono ?_
  rintro e w3 ⟨rfl, h3, hf3⟩
  have H3 := Lib.hid h3
  have HF3 := Lib.hid hf3
  clear h3 hf3
  go_wp2_with (fail)
  refine bodyPost_ret (results_none rfl _ _ _) rfl ?_
  exact ⟨rfl, ⟨by decide, _, _, H3.out⟩, ((HF2.out.mono (fun k hk => Or.inr hk)).same (HF3.out.mono (fun k hk => Or.inl hk))).below (S := fun k => k = p ∨ k = c) HBS.out (fun k hk => by rcases hk with rfl | rfl <;> assumption)⟩
set_option maxHeartbeats 2000000 in
set_option maxRecDepth 100000 in
theorem field_some (base : Nat) (a : Nat) (l : List Lk) (x : Lk) (hv : ByteArray) (hg : Good w base p c s ⟨a, l ++ [x], hv⟩) (hbp : base ≤ p) (hbc : base ≤ c) (ha : a ≤ s.size) (hs : s.size ≤ 140737488351232)
    (hn : l.length ≤ 39) (hh : hv.size ≤ 1000000) (hG : GL w) (hb0 : GLtop < base) :
    Calls Tryd.prog 23 #[.pointer (some ⟨p, 0, none⟩)] w (StepPost w base p c s (fieldR s ⟨a, l ++ [x], hv⟩)) := by
  obtain ⟨lv, wh, h, hl, hc⟩ := hg
  simp only at h hl hc
  have HR := Lib.hid (fieldR_snoc s a l x hv)
  generalize fieldR s ⟨a, l ++ [x], hv⟩ = R at *
  obtain ⟨q, cc, rfl, at_⟩ := hl.at_ (by simp)
  have hlen : (l ++ [x]).length = l.length + 1 := by simp
  rw [hlen] at h hl
  have hcap : l.length + 1 ≤ cc := by have := at_.le; simp at this; omega
  have HQ := Lib.hid (show p ≠ q ∧ c ≠ q ∧ base ≤ q from by
    obtain ⟨cs, hcs, _⟩ := at_.blk
    exact ⟨fun e => Blk.ty h (by decide) q cs e.symm hcs, fun e => Blk.ty hc (by decide) q cs e.symm hcs, at_.base⟩)
  have h0 := h.cell 0
  have HPC := Lib.hid (rd_ne _ _ _ _ _ _ _ _ h hc)
  have HC := Lib.hid hc
  have H := Lib.hid h
  have HL := Lib.hid hl
  have hbs : base ≤ w.heap.size := Nat.le_trans hbp (Nat.le_of_lt (Blk.lt h))
  have HBS := Lib.hid hbs
  have HG := Lib.hid hG
  have HHV := Lib.hid hh
  clear h hc hl hbs hlen at_ hG hh
  go_enter Tryd.func23, Tryd.ntmps23
  go_wp2_with (fail)
  refine (at_calls _ c s _ HC.out).mono ?_
  rintro e w1 ⟨rfl, rfl⟩
  go_wp2_with (fail)
  refine (word_calls _ c s a HC.out ha hs).mono ?_
  rintro e w2 ⟨rfl, hc2, hf2⟩
  have hE : spanEnd lower s a ≤ s.size := spanEnd_le lower s a ha
  have hwz : (s.extract a (spanEnd lower s a)).size ≤ s.size := by rw [ByteArray.size_extract]; omega
  generalize spanEnd lower s a = E at *
  generalize s.extract a E = word at *
  have h2 : Rd w2 p c s _ hv wh 0 := Blk.fr H.out hf2 HPC.out
  have h22 := h2.cell 2
  have hl2 := Ls.keep HL.out hf2 (Blk.ty HC.out (by decide))
  have HC2 := Lib.hid hc2
  have H2 := Lib.hid h2
  have HL2 := Lib.hid hl2
  have HB2 := Lib.hid (hf2.below HBS.out (fun k hk => by rw [hk]; exact hbc))
  clear hc2 h2 hl2 hf2
  go_wp2_with (fail)
  have i1 : (0 : Int) ≤ (l.length : Int) ∧ (l.length : Int) < (l.length : Int) + 1 := ⟨by omega, by omega⟩
  have i2 : IntKind.i64.wrap (l.length : Int) = l.length := IntWalk.i64_in _ ⟨by omega, by omega⟩
  go_cut [4, 5] from 31 to 45 (fun x4 x5 wx => ∃ b1 b2 : Nat, x4 = .slice (some ⟨b1, 0, none⟩) 5 5 ∧ x5 = .slice (some ⟨b2, 0, none⟩) 5 5 ∧ KeysAt w2 wx q (l.length * 5) b1 b2)
  case first =>
    go_region_with (go_at_call 36; refine (keys_calls _ q (l.length * 5)).mono ?_; rintro e w4 ⟨b1, b2, rfl, hb1, hb2, hb12, hk1, hk2, hbl4⟩)
    all_goals (go_wp2_with (fail); go_meet)
    all_goals exact ⟨_, _, rfl, rfl, hb1, hb2, hb12, hk1, hk2, ⟨hbl4.os, hbl4.tape, hbl4.output, hbl4.size, hbl4.block⟩⟩
  case rest =>
    obtain ⟨b1, b2, rfl, rfl, hb1, hb2, hb12, hk1, hk2, hbl⟩ := hcut
    have HC4 := Lib.hid (HC2.out.below hbl)
    have H4 := Lib.hid (H2.out.below hbl)
    have HL4 := Lib.hid (pw_own_below HL2.out hbl)
    have hbs2 : base ≤ w2.heap.size := Nat.le_trans HBS.out HB2.out.size
    have HB4 := Lib.hid (below_then HB2.out hbs2 hbl)
    have HK1 := Lib.hid hk1
    have HK2 := Lib.hid hk2
    have HNK := Lib.hid (show ¬ (b2 = p ∨ b2 = c) from by
      have h1 := Blk.lt H2.out
      have h2 := Blk.lt HC2.out
      omega)
    have hhv := H4.out.cell 3
    have hpl : p < wc.heap.size := Blk.lt H4.out
    clear hb1 hb2 hb12 hk1 hk2 hbl hbs2
    have HIX : Hid (Calls Tryd.prog 51 #[.slice (some ⟨b1, 0, none⟩) 5 5, .string word] wc fun e w' => e = .returned (.int .i64 (Lib.idxOfS names word)) ∧ wc = w') := Lib.hid (Calls.mono (Tryd.slices_Index_string b1 0 5 5 names word wc (by decide) (by decide) (by
        intro j hj
        have := HK1.out.cell j
        rw [Nat.zero_add, this]
        have hj' : j < 5 := hj
        rcases j with _ | _ | _ | _ | _ | j
        all_goals first | rfl | omega)) fun _ _ h => ⟨h.1, h.2.symm⟩)
    go_wp2_with (fail)
    refine HIX.out.mono ?_
    rintro e w5 ⟨rfl, rfl⟩
    clear HIX
    by_cases hk : Lib.idxOfS names word < 0
    · rw [if_pos hk] at HR
      go_wp2_with (fail)
      refine (wrong_set _ p c s _ hv wh H4.out a 1).mono ?_
      rintro e w6 ⟨rfl, h6, hf6⟩
      have H6 := Lib.hid h6
      have HF6 := Lib.hid hf6
      clear h6 hf6
      go_wp2_with (fail)
      refine bodyPost_ret (results_none rfl _ _ _) rfl ?_
      refine ⟨rfl, ?_, HB4.out.trans (HF6.out.below (Nat.le_trans HBS.out HB4.out.size) (fun k hk => by rw [hk]; exact hbp))⟩
      rw [HR.out]
      exact ⟨by decide, _, _, H6.out⟩
    · rw [if_neg hk] at HR
      obtain ⟨k, hk5, hke⟩ := idx_lt word hk
      rw [hke] at HR ⊢
      have HKE := Lib.hid hke
      clear hk hke
      have HCT : Hid (Calls Tryd.prog 52 #[.string hv, .string (word ++ spc)] wc fun e w' => e = .returned (.bool (Lib.contains hv.data.toList (word ++ spc).data.toList)) ∧ wc = w') := by
        obtain ⟨m, hm⟩ := GL.maxLen (GL.below HG.out HB4.out hb0)
        exact Lib.hid (Calls.mono (Tryd.strings_Contains hv (word ++ spc) m wc (by have := HHV.out; omega) hm) fun _ _ h => ⟨h.1, h.2.symm⟩)
      go_wp2_with (fail)
      refine HCT.out.mono ?_
      rintro e w6 ⟨rfl, rfl⟩
      clear HCT
      cases hct : Lib.contains hv.data.toList (word ++ spc).data.toList with
      | true =>
        rw [hct, if_pos rfl] at HR
        have HCT := Lib.hid hct
        clear hct
        go_wp2_with (fail)
        refine (wrong_set _ p c s _ hv wh H4.out a 4).mono ?_
        rintro e w6 ⟨rfl, h6, hf6⟩
        have H6 := Lib.hid h6
        have HF6 := Lib.hid hf6
        clear h6 hf6
        go_wp2_with (fail)
        refine bodyPost_ret (results_none rfl _ _ _) rfl ?_
        refine ⟨rfl, ?_, HB4.out.trans (HF6.out.below (Nat.le_trans HBS.out HB4.out.size) (fun k hk => by rw [hk]; exact hbp))⟩
        rw [HR.out]
        exact ⟨by decide, _, _, H6.out⟩
      | false =>
        rw [hct, if_neg (by simp)] at HR
        have HCT := Lib.hid hct
        clear hct
        have u3 := H4.out.unfrozen 3
        have hh := HHV.out
        go_wp2_with (fail)
        have hf5 := (Fr.refl (fun k => k = p ∨ k = c) wc).put (p := ⟨p, 3, none⟩) (.inl (.inl rfl)) (.string (hv ++ (word ++ spc)))
        have HL5 := Lib.hid (Ls.keep2 HL4.out H4.out HC4.out hf5)
        have H5 : Hid (Rd (wc.setCell ⟨p, 3, none⟩ (.string (hv ++ (word ++ spc)))) p c s (.slice (some ⟨q, 0, none⟩) (l.length + 1) cc) (hv ++ (word ++ spc)) wh 0) := Lib.hid (H4.out.put 3 (.string (hv ++ (word ++ spc))))
        have HC5 := Lib.hid (HC4.out.far (p := ⟨p, 3, none⟩) (fun e => HPC.out e.symm) (.string (hv ++ (word ++ spc))))
        have HK5 := Lib.hid (HK2.out.fr hf5 HNK.out)
        have HB5 := Lib.hid (HB4.out.trans (hf5.below (Nat.le_trans HBS.out HB4.out.size) (fun k hk => by rcases hk with rfl | rfl <;> assumption)))
        change Calls _ _ _ (wc.setCell ⟨p, 3, none⟩ (.string (hv ++ (word ++ spc)))) _
        clear hf5 hhv
        generalize hW5 : wc.setCell ⟨p, 3, none⟩ (.string (hv ++ (word ++ spc))) = w5 at *
        generalize hHV : hv ++ (word ++ spc) = hv' at *
        have HHV2 := Lib.hid hHV
        clear hHV
        clear hW5 u3
        refine (must_any _ p c s _ hv' wh eqs E H5.out HC5.out hE hs _ rfl).mono ?_
        rintro e w6 ⟨rfl, ⟨wh1, e1, b, h6, hc6, hrel⟩, hf6⟩
        have HL6 := Lib.hid (Ls.keep2 HL5.out H5.out HC5.out hf6)
        have HK6 := Lib.hid (HK5.out.fr hf6 HNK.out)
        have HB6 := Lib.hid (HB5.out.trans (hf6.below (Nat.le_trans HBS.out HB5.out.size) (fun k hk => by rcases hk with rfl | rfl <;> assumption)))
        have H6 := Lib.hid h6
        have HC6 := Lib.hid hc6
        have hbz : b ≤ s.size := by
          rcases hrel with ⟨hp, _, rfl⟩ | ⟨_, _, _, rfl⟩
          · exact nl_size s eqs _ (spanEnd_le blank s E hE) hp
          · exact spanEnd_le blank s E hE
        have HREL := Lib.hid hrel
        clear h6 hc6 hrel hf6
        go_wp2_with (fail)
        refine (blanks_calls _ p c s _ hv' wh1 e1 b H6.out HC6.out hbz hs).mono ?_
        rintro e w7 ⟨rfl, hc7, hf7⟩
        have haz : spanEnd blank s b ≤ s.size := spanEnd_le blank s b hbz
        have h7 : Rd w7 p c s _ hv' wh1 e1 := Blk.fr H6.out hf7 HPC.out
        have hf7' : Fr (fun k => k = p ∨ k = c) w6 w7 := hf7.mono fun k hk => .inr hk
        have HL7 := Lib.hid (Ls.keep2 HL6.out H6.out HC6.out hf7')
        have HK7 := Lib.hid (HK6.out.fr hf7' HNK.out)
        have HB7 := Lib.hid (HB6.out.trans (hf7'.below (Nat.le_trans HBS.out HB6.out.size) (fun k hk => by rcases hk with rfl | rfl <;> assumption)))
        generalize ha2 : spanEnd blank s b = a2 at *
        have HA2 := Lib.hid ha2
        have h70 := h7.cell 0
        have h71 := h7.cell 1
        have H7 := Lib.hid h7
        have HC7 := Lib.hid hc7
        clear h7 hc7 hf7 hf7' ha2
        go_wp2_with (fail)
        refine (at_calls _ c s _ HC7.out).mono ?_
        rintro e w8 ⟨rfl, rfl⟩
        go_wp2_with (fail)
        have hux : unq (s.extract a2 s.size).data.toList = unq (s.data.toList.drop a2) := by rw [ByteArray.data_extract, Array.toList_extract, List.extract_eq_take_drop, List.take_of_length_le (by rw [List.length_drop, data_length]; exact Nat.le_refl _)]
        have hz8 : (s.extract a2 s.size).size ≤ 140737488351232 := by rw [ByteArray.size_extract]; omega
        refine (unquote_calls w7 (s.extract a2 s.size) hz8).mono ?_
        rintro e w8 ⟨rfl, hb8⟩
        rw [hux]
        have HL8 := Lib.hid (pw_own_below HL7.out hb8)
        have HK8 := Lib.hid (HK7.out.below hb8)
        have HB8 := Lib.hid (below_then HB7.out (Nat.le_trans HBS.out HB7.out.size) hb8)
        have H8 := Lib.hid (H7.out.below hb8)
        have HC8 := Lib.hid (HC7.out.below hb8)
        clear hb8 hux
        cases hu : unq (s.data.toList.drop a2) with
        | none =>
          simp only [unqRes]
          have HT := Lib.hid (tailR_none s l x hv word k a2 hu)
          clear hu
          go_wp2_with (fail)
          refine (wrong_any _ p c s _ hv' wh1 e1 H8.out a2 1).mono ?_
          rintro e w20 ⟨rfl, h20, hf20⟩
          have H20 := Lib.hid h20
          have HF20 := Lib.hid hf20
          clear h20 hf20
          go_wp2_with (fail)
          refine bodyPost_ret (results_none rfl _ _ _) rfl ?_
          refine ⟨rfl, ?_, HB8.out.trans (HF20.out.below (Nat.le_trans HBS.out HB8.out.size) (fun k hk => by rw [hk]; exact hbp))⟩
          exact field_bad HR.out (HREL.out) HA2.out HT.out (by decide) H20.out
        | some r =>
          obtain ⟨out, used⟩ := r
          simp only [unqRes]
          have hub := unq_bound _ _ hu
          rw [List.length_drop, data_length] at hub
          have hus : a2 + used ≤ s.size := by have := hub.1; simp only at this; omega
          have hoz : out.length ≤ 140737488351232 := by have := hub.2; simp only at this; omega
          have HT := Lib.hid (tailR_some s l x hv word k a2 out used hu)
          clear hu hub
          cases hw1 : (word.toList == [114, 111, 111, 116]) with
          | true =>
            have HNP := Lib.hid (show needsPath word = true from by unfold needsPath; rw [hw1]; rfl)
            cases hro : rightL out with
            | false =>
              have HRO := Lib.hid hro
              have HRC := Lib.hid (right_calls out w8 hoz)
              rw [hro] at HRC
              clear hro
              go_wp2_with (fail)
              refine HRC.out.mono ?_
              rintro e w9 ⟨rfl, hd9⟩
              obtain ⟨n9, rfl⟩ := hd9
              have HT9 := Lib.hid (HT.out.trans (if_pos (by rw [HNP.out, HRO.out]; rfl)))
              go_wp2_with (fail)
              refine (wrong_any _ p c s _ hv' wh1 e1 (H8.out.drewN n9) a2 7).mono ?_
              rintro e w20 ⟨rfl, h20, hf20⟩
              have H20 := Lib.hid h20
              have HF20 := Lib.hid hf20
              clear h20 hf20
              go_wp2_with (fail)
              refine bodyPost_ret (results_none rfl _ _ _) rfl ?_
              refine ⟨rfl, ?_, (pw_below_drewN HB8.out n9).trans (HF20.out.below (Nat.le_trans HBS.out (pw_below_drewN HB8.out n9).size) (fun k hk => by rw [hk]; exact hbp))⟩
              exact field_bad HR.out (HREL.out) HA2.out HT9.out (by decide) H20.out
            | true =>
              have HRO := Lib.hid hro
              have HRC := Lib.hid (right_calls out w8 hoz)
              rw [hro] at HRC
              clear hro
              go_wp2_with (fail)
              refine HRC.out.mono ?_
              rintro e w9 ⟨rfl, hd9⟩
              obtain ⟨n9, hn9⟩ := hd9
              have HT9 := Lib.hid (HT.out.trans (if_neg (by rw [HNP.out, HRO.out]; simp)))
              have H9 : Hid (Rd w9 p c s _ hv' wh1 e1) := Lib.hid (by rw [hn9]; exact H8.out.drewN n9)
              have HC9 : Hid (Cur w9 c s a2) := Lib.hid (by rw [hn9]; exact HC8.out.drewN n9)
              have HK9 : Hid (Blk w9 b2 _ _) := Lib.hid (by rw [hn9]; exact HK8.out.drewN n9)
              have HL9 : Hid (Ls w9 base _ _) := Lib.hid (by rw [hn9]; exact HL8.out)
              have HB9 : Hid (Below base w w9) := Lib.hid (by rw [hn9]; exact pw_below_drewN HB8.out n9)
              clear hn9
              have h90 := H9.out.cell 0
              have h91 := H9.out.cell 1
              have i91 : (0 : Int) ≤ (a2 : Int) ∧ (a2 : Int) ≤ (a2 : Int) + (used : Int) ∧ (a2 : Int) + (used : Int) ≤ (s.size : Int) := ⟨by omega, by omega, by omega⟩
              have i92 : IntKind.i64.wrap ((a2 : Int) + (used : Int)) = (a2 : Int) + (used : Int) := IntWalk.i64_in _ ⟨by omega, by omega⟩
              go_wp2_with (fail)
              go_still_tail 13, (by kernel_rfl)
              change wpList _ _ _ _ _ w9.drew
              go_wp2_with (fail)
              refine (take_yes _ c s (s.extract a2 (a2 + used)) a2 HC9.out.drew haz hs (take_pre s a2 used hus)).mono ?_
              rintro e w10 ⟨rfl, hc10, hf10⟩
              rw [take_size s a2 used hus] at hc10
              have H10 := Lib.hid (Blk.fr H9.out.drew hf10 HPC.out)
              have HL10 := Lib.hid (Ls.keep (w := w9.drew) HL9.out hf10 (Blk.ty HC9.out.drew (by decide)))
              have HK10 := Lib.hid (HK9.out.drew.fr hf10 (fun h => HNK.out (.inr h)))
              have HB10 := Lib.hid ((below_drew HB9.out).trans (hf10.below (Nat.le_trans HBS.out HB9.out.size) (fun k hk => by rw [hk]; exact hbc)))
              have HC10 := Lib.hid hc10
              have hkc := key_cell HK10.out k hk5
              obtain ⟨v0, hst, hfz⟩ := Ls.last HL10.out k hk5
              clear hc10 hf10 h90 h91
              go_wp2_with (fail)
              go_end0
              exact field_good HR.out rfl HREL.out HA2.out HT9.out HHV2.out (HL10.out.put k hk5 ⟨out.toArray⟩) (H10.out.far (p := ⟨q, l.length * 5 + k, none⟩) HQ.out.1 _) (HC10.out.far (p := ⟨q, l.length * 5 + k, none⟩) HQ.out.2.1 _) (HB10.out.trans (((Fr.refl (fun k => k = q) w10).put (p := ⟨q, l.length * 5 + k, none⟩) (.inl rfl) _).below (Nat.le_trans HBS.out HB10.out.size) (fun k hk => by rw [hk]; exact HQ.out.2.2)))
          | false =>
            cases hw2 : (word.toList == [115, 111, 117, 114, 99, 101]) with
            | true =>
              have HNP := Lib.hid (show needsPath word = true from by unfold needsPath; rw [hw1, hw2]; rfl)
              cases hro : rightL out with
              | false =>
                have HRO := Lib.hid hro
                have HRC := Lib.hid (right_calls out w8 hoz)
                rw [hro] at HRC
                clear hro
                go_wp2_with (fail)
                refine HRC.out.mono ?_
                rintro e w9 ⟨rfl, hd9⟩
                obtain ⟨n9, rfl⟩ := hd9
                have HT9 := Lib.hid (HT.out.trans (if_pos (by rw [HNP.out, HRO.out]; rfl)))
                go_wp2_with (fail)
                refine (wrong_any _ p c s _ hv' wh1 e1 (H8.out.drewN n9) a2 7).mono ?_
                rintro e w20 ⟨rfl, h20, hf20⟩
                have H20 := Lib.hid h20
                have HF20 := Lib.hid hf20
                clear h20 hf20
                go_wp2_with (fail)
                refine bodyPost_ret (results_none rfl _ _ _) rfl ?_
                refine ⟨rfl, ?_, (pw_below_drewN HB8.out n9).trans (HF20.out.below (Nat.le_trans HBS.out (pw_below_drewN HB8.out n9).size) (fun k hk => by rw [hk]; exact hbp))⟩
                exact field_bad HR.out (HREL.out) HA2.out HT9.out (by decide) H20.out
              | true =>
                have HRO := Lib.hid hro
                have HRC := Lib.hid (right_calls out w8 hoz)
                rw [hro] at HRC
                clear hro
                go_wp2_with (fail)
                refine HRC.out.mono ?_
                rintro e w9 ⟨rfl, hd9⟩
                obtain ⟨n9, hn9⟩ := hd9
                have HT9 := Lib.hid (HT.out.trans (if_neg (by rw [HNP.out, HRO.out]; simp)))
                have H9 : Hid (Rd w9 p c s _ hv' wh1 e1) := Lib.hid (by rw [hn9]; exact H8.out.drewN n9)
                have HC9 : Hid (Cur w9 c s a2) := Lib.hid (by rw [hn9]; exact HC8.out.drewN n9)
                have HK9 : Hid (Blk w9 b2 _ _) := Lib.hid (by rw [hn9]; exact HK8.out.drewN n9)
                have HL9 : Hid (Ls w9 base _ _) := Lib.hid (by rw [hn9]; exact HL8.out)
                have HB9 : Hid (Below base w w9) := Lib.hid (by rw [hn9]; exact pw_below_drewN HB8.out n9)
                clear hn9
                have h90 := H9.out.cell 0
                have h91 := H9.out.cell 1
                have i91 : (0 : Int) ≤ (a2 : Int) ∧ (a2 : Int) ≤ (a2 : Int) + (used : Int) ∧ (a2 : Int) + (used : Int) ≤ (s.size : Int) := ⟨by omega, by omega, by omega⟩
                have i92 : IntKind.i64.wrap ((a2 : Int) + (used : Int)) = (a2 : Int) + (used : Int) := IntWalk.i64_in _ ⟨by omega, by omega⟩
                go_wp2_with (fail)
                go_still_tail 13, (by kernel_rfl)
                change wpList _ _ _ _ _ w9.drew
                go_wp2_with (fail)
                refine (take_yes _ c s (s.extract a2 (a2 + used)) a2 HC9.out.drew haz hs (take_pre s a2 used hus)).mono ?_
                rintro e w10 ⟨rfl, hc10, hf10⟩
                rw [take_size s a2 used hus] at hc10
                have H10 := Lib.hid (Blk.fr H9.out.drew hf10 HPC.out)
                have HL10 := Lib.hid (Ls.keep (w := w9.drew) HL9.out hf10 (Blk.ty HC9.out.drew (by decide)))
                have HK10 := Lib.hid (HK9.out.drew.fr hf10 (fun h => HNK.out (.inr h)))
                have HB10 := Lib.hid ((below_drew HB9.out).trans (hf10.below (Nat.le_trans HBS.out HB9.out.size) (fun k hk => by rw [hk]; exact hbc)))
                have HC10 := Lib.hid hc10
                have hkc := key_cell HK10.out k hk5
                obtain ⟨v0, hst, hfz⟩ := Ls.last HL10.out k hk5
                clear hc10 hf10 h90 h91
                go_wp2_with (fail)
                go_end0
                exact field_good HR.out rfl HREL.out HA2.out HT9.out HHV2.out (HL10.out.put k hk5 ⟨out.toArray⟩) (H10.out.far (p := ⟨q, l.length * 5 + k, none⟩) HQ.out.1 _) (HC10.out.far (p := ⟨q, l.length * 5 + k, none⟩) HQ.out.2.1 _) (HB10.out.trans (((Fr.refl (fun k => k = q) w10).put (p := ⟨q, l.length * 5 + k, none⟩) (.inl rfl) _).below (Nat.le_trans HBS.out HB10.out.size) (fun k hk => by rw [hk]; exact HQ.out.2.2)))
            | false =>
              have HNP := Lib.hid (show needsPath word = false from by unfold needsPath; rw [hw1, hw2]; rfl)
              have HT9 := Lib.hid (HT.out.trans (if_neg (by rw [HNP.out]; simp)))
              have H9 := H8
              have HC9 := HC8
              have HK9 := HK8
              have HL9 := HL8
              have HB9 := HB8
              clear H8 HC8 HK8 HL8 HB8
              generalize w8 = w9 at *
              have h90 := H9.out.cell 0
              have h91 := H9.out.cell 1
              have i91 : (0 : Int) ≤ (a2 : Int) ∧ (a2 : Int) ≤ (a2 : Int) + (used : Int) ∧ (a2 : Int) + (used : Int) ≤ (s.size : Int) := ⟨by omega, by omega, by omega⟩
              have i92 : IntKind.i64.wrap ((a2 : Int) + (used : Int)) = (a2 : Int) + (used : Int) := IntWalk.i64_in _ ⟨by omega, by omega⟩
              go_wp2_with (fail)
              go_still_tail 13, (by kernel_rfl)
              change wpList _ _ _ _ _ w9.drew
              go_wp2_with (fail)
              refine (take_yes _ c s (s.extract a2 (a2 + used)) a2 HC9.out.drew haz hs (take_pre s a2 used hus)).mono ?_
              rintro e w10 ⟨rfl, hc10, hf10⟩
              rw [take_size s a2 used hus] at hc10
              have H10 := Lib.hid (Blk.fr H9.out.drew hf10 HPC.out)
              have HL10 := Lib.hid (Ls.keep (w := w9.drew) HL9.out hf10 (Blk.ty HC9.out.drew (by decide)))
              have HK10 := Lib.hid (HK9.out.drew.fr hf10 (fun h => HNK.out (.inr h)))
              have HB10 := Lib.hid ((below_drew HB9.out).trans (hf10.below (Nat.le_trans HBS.out HB9.out.size) (fun k hk => by rw [hk]; exact hbc)))
              have HC10 := Lib.hid hc10
              have hkc := key_cell HK10.out k hk5
              obtain ⟨v0, hst, hfz⟩ := Ls.last HL10.out k hk5
              clear hc10 hf10 h90 h91
              go_wp2_with (fail)
              go_end0
              exact field_good HR.out rfl HREL.out HA2.out HT9.out HHV2.out (HL10.out.put k hk5 ⟨out.toArray⟩) (H10.out.far (p := ⟨q, l.length * 5 + k, none⟩) HQ.out.1 _) (HC10.out.far (p := ⟨q, l.length * 5 + k, none⟩) HQ.out.2.1 _) (HB10.out.trans (((Fr.refl (fun k => k = q) w10).put (p := ⟨q, l.length * 5 + k, none⟩) (.inl rfl) _).below (Nat.le_trans HBS.out HB10.out.size) (fun k hk => by rw [hk]; exact HQ.out.2.2)))
end
end Go.Proofs.YtljfcdfdedkajaaDoor.Q
