import Derived.Test.YtjdjljgbfpkbdaaGreatDoorZDPl
import Derived.Test.YtjdjljgbfpkbdaaGreatDoorZQ24
import Derived.Test.YtjdjljgbfpkbdaaGreatDoorZQ25
set_option linter.unusedVariables false
set_option linter.unusedSimpArgs false
section
namespace Go.Proofs.YtjdjljgbfpkbdaaGreatDoor.Q
open Go.RowKit Go.Proofs.YtjdjljgbfpkbdaaGreatDoorW.PrintWords Go.Proofs.YtjdjljgbfpkbdaaGreatDoorW.PrintLast Go.Proofs.YtjdjljgbfpkbdaaGreatDoorW.PrintMore
theorem bad_f (b : UInt8) : transhumanceref1_bad.f (b.toNat : Int) = some (!plainB b) := by
  have all : ∀ n : Nat, n < 256 → transhumanceref1_bad.f (n : Int) = some (!plainB (UInt8.ofNat n)) := by decide +kernel
  have := all b.toNat b.toNat_lt
  simpa only [UInt8.ofNat_toNat] using this
theorem rplain_l0 (s : ByteArray) (hs : s.size ≤ 1000000) : ∀ (d i : Nat), i + d = s.size → Ev (fun k => transhumanceref1_Plain.l0 k s i) ((s.data.toList.drop i).all plainB)
  | 0, i, hi => by
    refine Ev.step (fun _ => transhumanceref1_Plain.l0.eq_2 ..) (Ev.neg (by omega) ?_)
    rw [List.drop_of_length_le (by rw [data_length]; omega)]
    exact Ev.now _
  | d + 1, i, hi => by
    have hlt : i < s.size := by omega
    refine Ev.step (fun _ => transhumanceref1_Plain.l0.eq_2 ..) (Ev.pos (by omega) (Ev.pos (by omega) ?_))
    rw [bt_get s i hlt, bad_f, drop_at s i hlt, List.all_cons]
    cases hp : plainB s[i] with
    | true =>
      rw [wrap_id (by omega) (by omega)]
      exact Ev.val rfl (Ev.neg (by simp) (by rw [Bool.true_and]; exact rplain_l0 s hs d (i + 1) (by omega)))
    | false => exact Ev.val rfl (Ev.pos rfl (Ev.now _))
theorem rplain_ev (s : ByteArray) (hs : s.size ≤ 1000000) : Ev (fun k => transhumanceref1_Plain.f k s) (s.data.toList.all plainB) := rplain_l0 s hs s.size 0 (by omega)
theorem rplain_one (s : ByteArray) (i : Nat) (h : i < s.size) : Ev (fun k => transhumanceref1_Plain.f k (s.extract i (i + 1))) (plainB s[i]) := by
  rw [extract_one s i h]
  have := rplain_ev (bs [s[i]]) (by rw [size_bs]; simp)
  rw [data_bs] at this
  simpa using this
theorem quote_plain {l : List UInt8} (h : l.all plainB = true) : (R.quoteL l).all plainB = true := by
  have one : ∀ b : UInt8, plainB b = true → (R.quoteB b).all plainB = true := by
    intro b hb
    have : ∀ n : Nat, n < 256 → plainB (UInt8.ofNat n) = true → (R.quoteB (UInt8.ofNat n)).all plainB = true := by decide +kernel
    have h2 := this b.toNat b.toNat_lt
    simp only [UInt8.ofNat_toNat] at h2
    exact h2 hb
  unfold R.quoteL
  rw [List.all_cons, List.all_append]
  have : (l.flatMap R.quoteB).all plainB = true := by
    rw [List.all_flatMap]
    exact List.all_eq_true.2 fun b hb => one b (List.all_eq_true.1 h b hb)
  rw [this]
  rfl
def Tame (x : Lk) : Prop := ∀ k, k < 5 → Plainy (x.get k) ∧ (x.get k).size ≤ 100
theorem Fines.tame {l : List Lk} (h : Fines l) : ∀ x ∈ l, Tame x := fun x hx k hk => ⟨(h.each x hx).1.plain k hk, (h.each x hx).le k hk⟩
end Go.Proofs.YtjdjljgbfpkbdaaGreatDoor.Q
end
section
namespace Go.Proofs.YtjdjljgbfpkbdaaGreatDoor.Q
open Go.RowKit Go.Proofs.YtjdjljgbfpkbdaaGreatDoorW.PrintWords Go.Proofs.YtjdjljgbfpkbdaaGreatDoorW.PrintLast Go.Proofs.YtjdjljgbfpkbdaaGreatDoorW.PrintMore
theorem index_colon (w : List UInt8) : ∀ p : List UInt8, (∀ b ∈ p, b ≠ 58) → Lib.index (p ++ 58 :: 32 :: w) [58, 32] = (p.length : Nat)
  | [], _ => by simp [Lib.index]
  | b :: p, h => by
    have ih := index_colon w p fun x hx => h x (List.mem_cons_of_mem _ hx)
    have hb : ¬ b = 58 := h b List.mem_cons_self
    have hpre : ([58, 32] : List UInt8).isPrefixOf (b :: (p ++ 58 :: 32 :: w)) = false := by
      simp [List.isPrefixOf, Ne.symm hb]
    show Lib.index (b :: (p ++ 58 :: 32 :: w)) [58, 32] = _
    unfold Lib.index
    rw [hpre, if_neg (by simp), ih]
    have : (((p.length : Nat) : Int) == -1) = false := by simp
    rw [this]
    simp
theorem cut_colon (p w : List UInt8) (h : ∀ b ∈ p, b ≠ 58) : Lib.cut (p ++ 58 :: 32 :: w) [58, 32] = (p, w, true) := by
  have e : p ++ 58 :: 32 :: w = (p ++ [58, 32]) ++ w := by simp
  unfold Lib.cut
  rw [index_colon w p h, if_pos (by omega)]
  simp only [Int.toNat_natCast]
  rw [List.take_append_of_le_length (Nat.le_refl _), List.take_length, e, List.drop_append_of_le_length (by simp), List.drop_of_length_le (by simp)]
  simp
def nm (k : Nat) : ByteArray := names.getD k ByteArray.empty
theorem nm_ok : ∀ k : Fin 5, (∀ b ∈ (nm k.val).data.toList, b ≠ 58 ∧ b ≠ 10) ∧ Lib.containsS names (nm k.val) = true ∧ Lib.idxOfS names (nm k.val) = (k.val : Int) ∧ needsPath (nm k.val) = (k.val == 0 || k.val == 4) ∧ ((nm k.val).data.toList.head? = some 114 ∨ (nm k.val).data.toList.head? = some 118 ∨ (nm k.val).data.toList.head? = some 119 ∨ (nm k.val).data.toList.head? = some 115) := by decide +kernel
theorem pair_line (k : Nat) (hk : k < 5) (w v : List UInt8) (hw : valueL w = (v, true)) : pairL ((nm k).data.toList ++ 58 :: 32 :: w) = some (nm k, v) := by
  obtain ⟨h1, h2, _⟩ := nm_ok ⟨k, hk⟩
  unfold pairL
  rw [cut_colon _ _ fun b hb => (h1 b hb).1]
  have e : (⟨(nm k).data.toList.toArray⟩ : ByteArray) = nm k := ofL_of (nm k)
  simp only [e]
  rw [if_pos ⟨by simp, h2⟩, hw, if_pos rfl]
def lineOf (first : Bool) (k : Nat) (w : List UInt8) : List UInt8 := (if first then [45, 32] else [32, 32]) ++ ((nm k).data.toList ++ 58 :: 32 :: w)
theorem line_first (k : Nat) (hk : k < 5) (w v : List UInt8) (hw : valueL w = (v, true)) (a : Nat) (l : List Lk) (has : List ByteArray) :
    lineD (lineOf true k w) a l has = if beginE l = 0 then fieldD a (l ++ [Lk.zero]) [] (nm k) v else .bad a (beginE l) := by
  unfold lineD
  have hp : Lib.hasPrefix (lineOf true k w) [45, 32] = true := by simp [lineOf, Lib.hasPrefix]
  have hd : (lineOf true k w).drop 2 = (nm k).data.toList ++ 58 :: 32 :: w := by simp [lineOf]
  rw [if_pos hp, hd, pair_line k hk w v hw]
theorem line_next (k : Nat) (hk : k < 5) (w v : List UInt8) (hw : valueL w = (v, true)) (a : Nat) (l : List Lk) (hl : l ≠ []) (has : List ByteArray) :
    lineD (lineOf false k w) a l has = fieldD a l has (nm k) v := by
  unfold lineD
  have hp : ¬ Lib.hasPrefix (lineOf false k w) [45, 32] = true := by simp [lineOf, Lib.hasPrefix]
  have hp2 : Lib.hasPrefix (lineOf false k w) [32, 32] = true := by simp [lineOf, Lib.hasPrefix]
  have hd : (lineOf false k w).drop 2 = (nm k).data.toList ++ 58 :: 32 :: w := by simp [lineOf]
  rw [if_neg hp, if_pos ⟨hp2, hl⟩, hd, pair_line k hk w v hw]
theorem field_ok (a k : Nat) (hk : k < 5) (init : List Lk) (x : Lk) (has : List ByteArray) (v : List UInt8) (hn : nm k ∉ has) (hr : (k = 0 ∨ k = 4) → rightL v = true) :
    fieldD a (init ++ [x]) has (nm k) v = .ok (init ++ [x.set k (ofL v)]) (has ++ [nm k]) := by
  obtain ⟨_, _, h3, h4, _⟩ := nm_ok ⟨k, hk⟩
  unfold fieldD
  have h1 : ¬ Lib.containsS has (nm k) = true := fun h => hn ((Lib.containsS_iff has (nm k)).1 h)
  have h2 : ¬ (needsPath (nm k) && !rightL v) = true := by
    intro h
    simp only [Bool.and_eq_true] at h
    rw [h4] at h
    simp only [Bool.or_eq_true, beq_iff_eq] at h
    rw [hr h.1] at h
    simp at h
  rw [if_neg h1, if_neg h2, List.getLast?_append]
  simp only [List.getLast?_singleton, Option.some_or, List.dropLast_concat, h3, Int.toNat_natCast]
  rfl
theorem whole_nl (x : List UInt8) : wholeL (x ++ [10]) = x := by
  unfold wholeL Lib.trimSuffix
  rw [if_pos (by simp [Lib.hasSuffix])]
  simp
theorem word_first (k : Nat) (w : List UInt8) : (wordL (lineOf true k w ++ [10])).head? = some 45 ∧ (wordL (lineOf true k w ++ [10])).length = (lineOf true k w).length := by
  unfold wordL
  rw [whole_nl]
  simp [lineOf, Lib.trimLeftB]
theorem word_next (k : Nat) (hk : k < 5) (w : List UInt8) : (wordL (lineOf false k w ++ [10])).head? ≠ some 35 ∧ wordL (lineOf false k w ++ [10]) ≠ [] := by
  obtain ⟨_, _, _, _, h5⟩ := nm_ok ⟨k, hk⟩
  unfold wordL
  rw [whole_nl]
  have e : Lib.trimLeftB (lineOf false k w) 32 = (nm k).data.toList ++ 58 :: 32 :: w := by
    unfold lineOf Lib.trimLeftB
    cases hn : (nm k).data.toList with
    | nil => simp [hn] at h5
    | cons b t =>
      rw [hn] at h5
      simp only [List.head?_cons, Option.some.injEq] at h5
      have hb : (b == (32 : UInt8)) = false := by
        rcases h5 with rfl | rfl | rfl | rfl <;> rfl
      simp [List.dropWhile, hb]
  rw [e]
  cases hn : (nm k).data.toList with
  | nil => simp [hn] at h5
  | cons b t =>
    rw [hn] at h5
    simp only [List.head?_cons, Option.some.injEq] at h5
    refine ⟨?_, by simp⟩
    simp only [List.cons_append, List.head?_cons, ne_eq, Option.some.injEq]
    rcases h5 with rfl | rfl | rfl | rfl <;> decide
theorem step_first (k : Nat) (hk : k < 5) (w v : List UInt8) (hw : valueL w = (v, true)) (frm : Nat) (l : List Lk) (has : List ByteArray) (hb : beginE l = 0) (hr : (k = 0 ∨ k = 4) → rightL v = true) :
    stepD ⟨frm, true, .ok l has⟩ (lineOf true k w ++ [10]) = ⟨frm + (lineOf true k w ++ [10]).length, true, .ok (l ++ [Lk.zero.set k (ofL v)]) [nm k]⟩ := by
  obtain ⟨h1, _⟩ := word_first k w
  unfold stepD
  simp only
  rw [if_neg, if_pos trivial, whole_nl, line_first k hk w v hw, if_pos hb, field_ok _ k hk l Lk.zero [] v (by simp) hr]
  · rfl
  · rintro (h | h)
    · rw [h] at h1
      simp at h1
    · rw [h1] at h
      simp at h
theorem step_next (k : Nat) (hk : k < 5) (w v : List UInt8) (hw : valueL w = (v, true)) (frm : Nat) (init : List Lk) (x : Lk) (has : List ByteArray) (hn : nm k ∉ has) (hr : (k = 0 ∨ k = 4) → rightL v = true) :
    stepD ⟨frm, true, .ok (init ++ [x]) has⟩ (lineOf false k w ++ [10]) = ⟨frm + (lineOf false k w ++ [10]).length, true, .ok (init ++ [x.set k (ofL v)]) (has ++ [nm k])⟩ := by
  obtain ⟨h1, h2⟩ := word_next k hk w
  unfold stepD
  simp only
  rw [if_neg, if_pos trivial, whole_nl, line_next k hk w v hw _ _ (by simp), field_ok _ k hk init x has v hn hr]
  rintro (h | h)
  · exact h2 h
  · exact h1 h
theorem unqGo_cons (x : UInt8) (r acc : List UInt8) (n : Nat) : unqGo (x :: r) acc n = if x < 32 ∨ 126 < x then none else if x = 34 then some (acc, n + 1) else if x = 92 then (match r with | [] => none | y :: r' => match esc y with | none => none | some z => unqGo r' (acc ++ [z]) (n + 2)) else unqGo r (acc ++ [x]) (n + 1) := by
  cases r <;> rfl
theorem unqGo_quoteB (b : UInt8) (hb : plainB b = true) (rest acc : List UInt8) (n : Nat) : unqGo (R.quoteB b ++ rest) acc n = unqGo rest (acc ++ [b]) (n + (R.quoteB b).length) := by
  unfold R.quoteB
  by_cases h0 : b = 34
  · subst h0; rw [if_pos rfl]; rfl
  rw [if_neg h0]
  by_cases h1 : b = 92
  · subst h1; rw [if_pos rfl]; rfl
  rw [if_neg h1]
  by_cases h2 : b = 10
  · subst h2; rw [if_pos rfl]; rfl
  rw [if_neg h2]
  by_cases h3 : b = 9
  · subst h3; rw [if_pos rfl]; rfl
  rw [if_neg h3]
  have hr : ¬ (b < 32 ∨ 126 < b) := by
    simp only [plainB, Bool.or_eq_true, Bool.and_eq_true, beq_iff_eq, decide_eq_true_eq] at hb
    rcases hb with (h | h) | ⟨h4, h5⟩
    · exact absurd h h3
    · exact absurd h h2
    · rintro (h | h)
      · rw [UInt8.lt_iff_toNat_lt] at h; rw [UInt8.le_iff_toNat_le] at h4; omega
      · rw [UInt8.lt_iff_toNat_lt] at h; rw [UInt8.le_iff_toNat_le] at h5; omega
  rw [List.singleton_append, unqGo_cons, if_neg hr, if_neg h0, if_neg h1]
  rfl
theorem unqGo_quote (v : List UInt8) (hv : v.all plainB = true) (rest acc : List UInt8) (n : Nat) :
    unqGo (v.flatMap R.quoteB ++ (34 :: rest)) acc n = some (acc ++ v, n + (v.flatMap R.quoteB).length + 1) := by
  induction v generalizing acc n with
  | nil => rw [List.flatMap_nil, List.nil_append, unqGo_cons, if_neg (by decide), if_pos rfl]; simp
  | cons b v ih =>
    simp only [List.all_cons, Bool.and_eq_true] at hv
    rw [List.flatMap_cons, List.append_assoc, unqGo_quoteB b hv.1, ih hv.2, List.length_append]
    simp [Nat.add_assoc]
theorem unq_quote (v rest : List UInt8) (hv : v.all plainB = true) : unq (R.quoteL v ++ rest) = some (v, (R.quoteL v).length) := by
  have : R.quoteL v ++ rest = 34 :: (v.flatMap R.quoteB ++ (34 :: rest)) := by simp [R.quoteL]
  rw [this, unq, unqGo_quote v hv]
  simp [R.quoteL]
  omega
theorem value_quote (v : List UInt8) (hv : v.all plainB = true) : valueL (R.quoteL v) = (v, true) := by
  have h := unq_quote v [] hv
  rw [List.append_nil] at h
  unfold valueL
  rw [h]
  simp
theorem value_plain (v : List UInt8) (hm : mayL v = true) : valueL v = (v, true) := by
  cases v with
  | nil => simp [mayL] at hm
  | cons b t =>
    have hb : b ≠ 34 := by
      rintro rfl
      simp [mayL, Lib.indexByte] at hm
    have hu : unq (b :: t) = none := by
      unfold unq
      split
      · rename_i r h
        injection h with h1 _
        exact absurd h1 hb
      · rfl
    unfold valueL
    rw [hu, hm]
theorem toList_data (b : ByteArray) : b.toList = b.data.toList := Lib.toList_data b
theorem right_ne {l : List UInt8} (h : rightL l = true) : l ≠ [] := by
  rintro rfl
  simp [rightL] at h
theorem ended_snoc {init : List Lk} {x : Lk} (hx : OkLk x) (ha : x.root.data.toList ∉ init.map fun x => x.root.data.toList) : endedE (init ++ [x]) = 0 := by
  rw [endedE_snoc, if_neg, if_neg]
  · rw [List.any_eq_true]
    rintro ⟨z, hz, he⟩
    simp only [toList_data, beq_iff_eq] at he
    exact ha (List.mem_map.2 ⟨z, hz, he⟩)
  · simp only [toList_data, Bool.or_eq_true, Bool.and_eq_true, List.isEmpty_iff]
    rintro (h | ⟨h1, h2⟩)
    · exact right_ne hx.root h
    · rcases hx.some with h | h
      · exact h h1
      · exact h h2
theorem ended_ok {l : List Lk} (h : OkLks l) : endedE l = 0 := by
  rcases List.eq_nil_or_concat l with rfl | ⟨init, x, rfl⟩
  · rfl
  · rw [List.concat_eq_append] at *
    refine ended_snoc (h.each x (by simp)) ?_
    have := h.apart
    rw [List.map_append, List.nodup_append] at this
    intro hm
    exact this.2.2 _ hm _ (by simp) rfl
theorem OkLks.prefix {l m : List Lk} (h : OkLks (l ++ m)) : OkLks l := by
  refine ⟨fun x hx => h.each x (List.mem_append_left _ hx), ?_, ?_⟩
  · have := h.apart
    rw [List.map_append, List.nodup_append] at this
    exact this.1
  · have := h.few
    rw [List.length_append] at this
    omega
theorem begin_ok {l : List Lk} (h : OkLks l) (hn : l.length < 40) : beginE l = 0 := by
  unfold beginE
  rw [if_pos (ended_ok h), if_neg (by omega)]
structure Fl where
  k : Nat
  w : List UInt8
  v : List UInt8
def Fl.ok (f : Fl) : Prop := f.k < 5 ∧ valueL f.w = (f.v, true) ∧ ((f.k = 0 ∨ f.k = 4) → rightL f.v = true)
def setAll (x : Lk) (fs : List Fl) : Lk := fs.foldl (fun x f => x.set f.k (ofL f.v)) x
def nextLines (fs : List Fl) : List (List UInt8) := fs.map fun f => lineOf false f.k f.w ++ [10]
theorem next_run : ∀ (fs : List Fl) (frm : Nat) (init : List Lk) (x : Lk) (has : List ByteArray), (∀ f ∈ fs, f.ok) → (has ++ fs.map fun f => nm f.k).Nodup →
    (nextLines fs).foldl stepD ⟨frm, true, .ok (init ++ [x]) has⟩ = ⟨frm + (nextLines fs).flatten.length, true, .ok (init ++ [setAll x fs]) (has ++ fs.map fun f => nm f.k)⟩
  | [], frm, init, x, has, _, _ => by simp [nextLines, setAll]
  | f :: fs, frm, init, x, has, hf, hd => by
    obtain ⟨h1, h2, h3⟩ := hf f List.mem_cons_self
    have hn : nm f.k ∉ has := by
      intro h
      rw [List.map_cons, List.nodup_append] at hd
      exact hd.2.2 _ h _ List.mem_cons_self rfl
    have e : nextLines (f :: fs) = (lineOf false f.k f.w ++ [10]) :: nextLines fs := rfl
    rw [e, List.foldl_cons, step_next f.k h1 f.w f.v h2 frm init x has hn h3]
    rw [next_run fs _ init (x.set f.k (ofL f.v)) (has ++ [nm f.k]) (fun g hg => hf g (List.mem_cons_of_mem _ hg)) (by simpa using hd)]
    simp [setAll, List.append_assoc, Nat.add_assoc]
    omega
def blockLines : List Fl → List (List UInt8)
  | [] => []
  | f :: fs => (lineOf true f.k f.w ++ [10]) :: nextLines fs
theorem block_run (f : Fl) (fs : List Fl) (frm : Nat) (l : List Lk) (has : List ByteArray) (hb : beginE l = 0) (hf : ∀ g ∈ f :: fs, g.ok) (hd : ((f :: fs).map fun f => nm f.k).Nodup) :
    (blockLines (f :: fs)).foldl stepD ⟨frm, true, .ok l has⟩ = ⟨frm + (blockLines (f :: fs)).flatten.length, true, .ok (l ++ [setAll Lk.zero (f :: fs)]) ((f :: fs).map fun f => nm f.k)⟩ := by
  obtain ⟨h1, h2, h3⟩ := hf f List.mem_cons_self
  show List.foldl stepD _ ((lineOf true f.k f.w ++ [10]) :: nextLines fs) = _
  rw [List.foldl_cons, step_first f.k h1 f.w f.v h2 frm l has hb h3, next_run fs _ l _ [nm f.k] (fun g hg => hf g (List.mem_cons_of_mem _ hg)) (by simpa using hd)]
  simp [blockLines, setAll, Nat.add_assoc]
  omega
def blocksText (bl : List (List Fl)) : List (List UInt8) := bl.flatMap blockLines
def blocksLocks (bl : List (List Fl)) : List Lk := bl.map (setAll Lk.zero)
structure Bl (b : List Fl) : Prop where
  some : b ≠ []
  each : ∀ f ∈ b, f.ok
  apart : (b.map fun f => nm f.k).Nodup
theorem blocks_run : ∀ (bl : List (List Fl)) (frm : Nat) (l : List Lk) (has : List ByteArray), (∀ b ∈ bl, Bl b) → OkLks (l ++ blocksLocks bl) →
    ∃ has', (blocksText bl).foldl stepD ⟨frm, true, .ok l has⟩ = ⟨frm + (blocksText bl).flatten.length, true, .ok (l ++ blocksLocks bl) has'⟩
  | [], frm, l, has, _, _ => ⟨has, by simp [blocksText, blocksLocks]⟩
  | b :: bl, frm, l, has, hb, ho => by
    obtain ⟨h1, h2, h3⟩ := hb b List.mem_cons_self
    have ho2 : OkLks ((l ++ [setAll Lk.zero b]) ++ blocksLocks bl) := by simpa [blocksLocks] using ho
    have hlen := ho.few
    have hl : l.length < 40 := by
      simp only [blocksLocks, List.length_append, List.length_map, List.length_cons] at hlen
      omega
    cases b with
    | nil => exact absurd rfl h1
    | cons f fs =>
      have hr := block_run f fs frm l has (begin_ok ho.prefix hl) h2 h3
      obtain ⟨has', hr2⟩ := blocks_run bl (frm + (blockLines (f :: fs)).flatten.length) (l ++ [setAll Lk.zero (f :: fs)]) ((f :: fs).map fun f => nm f.k) (fun b h => hb b (List.mem_cons_of_mem _ h)) ho2
      refine ⟨has', ?_⟩
      have e : blocksText ((f :: fs) :: bl) = blockLines (f :: fs) ++ blocksText bl := rfl
      rw [e, List.foldl_append, hr, hr2]
      simp [blocksLocks, Nat.add_assoc]
theorem step_skip (frm : Nat) (begun : Bool) (l : List Lk) (has : List ByteArray) (x : List UInt8) (h : wordL x = [] ∨ (wordL x).head? = some 35) : stepD ⟨frm, begun, .ok l has⟩ x = ⟨frm + x.length, begun, .ok l has⟩ := by
  unfold stepD
  simp only
  rw [if_pos h]
theorem pieces_lines : ∀ (ls : List (List UInt8)) (t : List UInt8), (∀ l ∈ ls, ∀ b ∈ l, b ≠ 10) → pieces ((ls.map fun l => l ++ [10]).flatten ++ t) = (ls.map fun l => l ++ [10]) ++ pieces t
  | [], t, _ => rfl
  | l :: ls, t, h => by
    have e : ((l :: ls).map fun l => l ++ [10]).flatten ++ t = l ++ 10 :: ((ls.map fun l => l ++ [10]).flatten ++ t) := by simp
    rw [e, pieces_step l _ (h l List.mem_cons_self), pieces_lines ls t fun m hm => h m (List.mem_cons_of_mem _ hm)]
    rfl
theorem header_step (frm : Nat) : stepD ⟨frm, false, .ok [] []⟩ (locksWordL ++ [10]) = ⟨frm + 7, true, .ok [] []⟩ := by
  unfold stepD
  simp only
  rw [if_neg (by decide), if_neg (by simp), if_pos (whole_nl locksWordL)]
  rfl
end Go.Proofs.YtjdjljgbfpkbdaaGreatDoor.Q
end
section
namespace Go.Proofs.YtjdjljgbfpkbdaaGreatDoor.Q
open Go.RowKit Go.Proofs.YtjdjljgbfpkbdaaGreatDoorW.PrintWords Go.Proofs.YtjdjljgbfpkbdaaGreatDoorW.PrintLast Go.Proofs.YtjdjljgbfpkbdaaGreatDoorW.PrintMore
theorem badAt_none : ∀ s : List UInt8, s.all plainB = true → badAt s = none
  | [], _ => rfl
  | b :: t, h => by
    simp only [List.all_cons, Bool.and_eq_true] at h
    unfold badAt
    rw [if_pos h.1, badAt_none t h.2]
    rfl
def Fl.tidy (f : Fl) : Prop := f.ok ∧ f.w.all plainB = true ∧ ∀ b ∈ f.w, b ≠ 10
theorem nm_plain : ∀ k : Fin 5, (nm k.val).data.toList.all plainB = true := by decide +kernel
theorem lineOf_tidy (first : Bool) (f : Fl) (h : f.tidy) : (lineOf first f.k f.w).all plainB = true ∧ ∀ b ∈ lineOf first f.k f.w, b ≠ 10 := by
  obtain ⟨⟨h1, _, _⟩, h2, h3⟩ := h
  obtain ⟨g1, _⟩ := nm_ok ⟨f.k, h1⟩
  have g2 := nm_plain ⟨f.k, h1⟩
  refine ⟨?_, ?_⟩
  · unfold lineOf
    rw [List.all_append, List.all_append, List.all_cons, List.all_cons, g2, h2]
    cases first <;> rfl
  · intro b hb
    unfold lineOf at hb
    rcases List.mem_append.1 hb with h | h
    · cases first
      · simp at h; subst h; decide
      · simp at h; rcases h with rfl | rfl <;> decide
    · rcases List.mem_append.1 h with h | h
      · exact (g1 b h).2
      · simp only [List.mem_cons] at h
        rcases h with rfl | rfl | h
        · decide
        · decide
        · exact h3 b h
def rawBlock : List Fl → List (List UInt8)
  | [] => []
  | f :: fs => lineOf true f.k f.w :: fs.map fun g => lineOf false g.k g.w
theorem rawBlock_lines (b : List Fl) : (rawBlock b).map (fun l => l ++ [10]) = blockLines b := by
  cases b with
  | nil => rfl
  | cons f fs => simp [rawBlock, blockLines, nextLines]
theorem rawBlocks_lines (bl : List (List Fl)) : (bl.flatMap rawBlock).map (fun l => l ++ [10]) = blocksText bl := by
  unfold blocksText
  rw [List.map_flatMap]
  congr 1
  funext b
  exact rawBlock_lines b
theorem raw_tidy {bl : List (List Fl)} (h : ∀ b ∈ bl, ∀ f ∈ b, f.tidy) : ∀ l ∈ bl.flatMap rawBlock, l.all plainB = true ∧ ∀ b ∈ l, b ≠ 10 := by
  intro l hl
  obtain ⟨b, hb, hl2⟩ := List.mem_flatMap.1 hl
  cases b with
  | nil => simp [rawBlock] at hl2
  | cons f fs =>
    rcases List.mem_cons.1 hl2 with rfl | hl3
    · exact lineOf_tidy true f (h _ hb f List.mem_cons_self)
    · obtain ⟨g, hg, rfl⟩ := List.mem_map.1 hl3
      exact lineOf_tidy false g (h _ hb g (List.mem_cons_of_mem _ hg))
def blocksDoc (bl : List (List Fl)) : List UInt8 := (locksWordL ++ [10]) ++ (blocksText bl).flatten
theorem doc_plain {bl : List (List Fl)} (h : ∀ b ∈ bl, ∀ f ∈ b, f.tidy) : (blocksDoc bl).all plainB = true := by
  unfold blocksDoc
  rw [List.all_append, ← rawBlocks_lines]
  have : (((bl.flatMap rawBlock).map fun l => l ++ [10]).flatten).all plainB = true := by
    rw [List.all_flatten]
    exact List.all_eq_true.2 fun l hl => by
      obtain ⟨m, hm, rfl⟩ := List.mem_map.1 hl
      rw [List.all_append, (raw_tidy h m hm).1]
      rfl
  rw [this]
  rfl
theorem doc_pieces {bl : List (List Fl)} (h : ∀ b ∈ bl, ∀ f ∈ b, f.tidy) : pieces (blocksDoc bl) = (locksWordL ++ [10]) :: (blocksText bl ++ [[]]) := by
  have e : blocksDoc bl = (([locksWordL] : List (List UInt8)).map fun l => l ++ [10]).flatten ++ (((bl.flatMap rawBlock).map fun l => l ++ [10]).flatten ++ []) := by
    rw [rawBlocks_lines]
    simp [blocksDoc]
  rw [e, pieces_lines _ _ (by intro l hl; simp at hl; subst hl; decide), pieces_lines _ [] (fun l hl => (raw_tidy h l hl).2), rawBlocks_lines]
  rfl
theorem doc_read (bl : List (List Fl)) (h1 : ∀ b ∈ bl, Bl b) (h2 : ∀ b ∈ bl, ∀ f ∈ b, f.tidy) (ho : OkLks (blocksLocks bl)) (hz : (blocksDoc bl).length ≤ 8000) : locksD (blocksDoc bl) = (blocksLocks bl, 0, 0) := by
  have hs : start (blocksDoc bl) = ⟨0, false, .ok [] []⟩ := by
    unfold start
    rw [badAt_none _ (doc_plain h2)]
  obtain ⟨has', hr⟩ := blocks_run bl (0 + 7) [] [] h1 (by simpa using ho)
  have hl : (linesD (blocksDoc bl) (pieces (blocksDoc bl))).r = .ok (blocksLocks bl) has' := by
    unfold linesD
    rw [hs, doc_pieces h2, List.foldl_cons, header_step, List.foldl_append, hr, List.foldl_cons, List.foldl_nil, step_skip _ _ _ _ [] (.inl rfl)]
    simp
  rw [locksD_eq _ hz, hl]
  simp only
  rw [if_pos (ended_ok ho)]
theorem set_get (x : Lk) (k j : Nat) (hk : k < 5) (hj : j < 5) (v : ByteArray) : (x.set k v).get j = if j = k then v else x.get j := by
  rcases k with _ | _ | _ | _ | _ | k <;> rcases j with _ | _ | _ | _ | _ | j
  all_goals first | rfl | omega
theorem Lk.ext_get {x y : Lk} (h : ∀ k, k < 5 → x.get k = y.get k) : x = y := by
  obtain ⟨a, b, c, d, e⟩ := x
  obtain ⟨a', b', c', d', e'⟩ := y
  have h0 := h 0 (by omega)
  have h1 := h 1 (by omega)
  have h2 := h 2 (by omega)
  have h3 := h 3 (by omega)
  have h4 := h 4 (by omega)
  simp only [Lk.get] at h0 h1 h2 h3 h4
  subst h0 h1 h2 h3 h4
  rfl
theorem setAll_get (y : Lk) : ∀ (fs : List Fl) (x : Lk) (j : Nat), j < 5 → (∀ f ∈ fs, f.k < 5 ∧ ofL f.v = y.get f.k) → (setAll x fs).get j = if fs.any (fun f => f.k == j) = true then y.get j else x.get j
  | [], x, j, _, _ => by simp [setAll]
  | f :: fs, x, j, hj, hf => by
    obtain ⟨h1, h2⟩ := hf f List.mem_cons_self
    have ih := setAll_get y fs (x.set f.k (ofL f.v)) j hj fun g hg => hf g (List.mem_cons_of_mem _ hg)
    show (setAll (x.set f.k (ofL f.v)) fs).get j = _
    rw [ih, set_get x f.k j h1 hj, List.any_cons]
    by_cases hk : f.k = j
    · subst hk
      simp [h2]
    · have : (f.k == j) = false := by simpa using hk
      rw [this, Bool.false_or, if_neg (fun e : j = f.k => hk e.symm)]
def fldAt (q : List UInt8 → List UInt8) (y : Lk) (s k : Nat) : List Fl := if (y.get ((k + s) % 5)).data.toList = [] then [] else [⟨(k + s) % 5, q (y.get ((k + s) % 5)).data.toList, (y.get ((k + s) % 5)).data.toList⟩]
def fldsFrom (q : List UInt8 → List UInt8) (y : Lk) (s : Nat) : Nat → Nat → List Fl
  | _, 0 => []
  | k, d + 1 => fldAt q y s k ++ fldsFrom q y s (k + 1) d
def blkOf (q : List UInt8 → List UInt8) (s : Nat) (y : Lk) : List Fl := fldsFrom q y s 0 5
theorem blkOf_eq (q : List UInt8 → List UInt8) (s : Nat) (y : Lk) : blkOf q s y = fldAt q y s 0 ++ (fldAt q y s 1 ++ (fldAt q y s 2 ++ (fldAt q y s 3 ++ (fldAt q y s 4 ++ [])))) := rfl
theorem fldAt_mem {q : List UInt8 → List UInt8} {y : Lk} {s k : Nat} {f : Fl} (h : f ∈ fldAt q y s k) : f.k = (k + s) % 5 ∧ f.w = q (y.get f.k).data.toList ∧ f.v = (y.get f.k).data.toList ∧ f.v ≠ [] := by
  unfold fldAt at h
  split at h
  · simp at h
  · rename_i hn
    simp only [List.mem_singleton] at h
    subst h
    exact ⟨rfl, rfl, rfl, hn⟩
theorem blkOf_mem {q : List UInt8 → List UInt8} {y : Lk} {s : Nat} {f : Fl} (h : f ∈ blkOf q s y) : f.k < 5 ∧ f.w = q (y.get f.k).data.toList ∧ f.v = (y.get f.k).data.toList ∧ f.v ≠ [] := by
  have all : ∀ d k, f ∈ fldsFrom q y s k d → f.k < 5 ∧ f.w = q (y.get f.k).data.toList ∧ f.v = (y.get f.k).data.toList ∧ f.v ≠ [] := by
    intro d
    induction d with
    | zero => intro k hk; simp [fldsFrom] at hk
    | succ d ih =>
      intro k hk
      rcases List.mem_append.1 hk with h | h
      · obtain ⟨h1, h2, h3, h4⟩ := fldAt_mem h
        exact ⟨by rw [h1]; omega, h2, h3, h4⟩
      · exact ih (k + 1) h
  exact all 5 0 h
theorem blkOf_has (q : List UInt8 → List UInt8) (s : Nat) (y : Lk) (j : Nat) (hj : j < 5) : (blkOf q s y).any (fun f => f.k == j) = !(y.get j).data.toList.isEmpty := by
  have one : ∀ k, (fldAt q y s k).any (fun f => f.k == j) = (((k + s) % 5 == j) && !(y.get j).data.toList.isEmpty) := by
    intro k
    unfold fldAt
    by_cases hk : (k + s) % 5 = j
    · rw [hk]
      split
      · rename_i h; simp [h]
      · rename_i h
        have : (y.get j).data.toList.isEmpty = false := by simpa using h
        simp [this]
    · have hb : ((k + s) % 5 == j) = false := by simpa using hk
      split
      · simp [hb]
      · simp [hb]
  rw [blkOf_eq]
  simp only [List.any_append, one, List.any_nil, Bool.or_false]
  cases (y.get j).data.toList.isEmpty with
  | true => simp
  | false =>
    simp only [Bool.not_false, Bool.and_true]
    have h5 : s % 5 = 0 ∨ s % 5 = 1 ∨ s % 5 = 2 ∨ s % 5 = 3 ∨ s % 5 = 4 := by omega
    have hj5 : j = 0 ∨ j = 1 ∨ j = 2 ∨ j = 3 ∨ j = 4 := by omega
    have e0 : (0 + s) % 5 = s % 5 := by omega
    have e1 : (1 + s) % 5 = (1 + s % 5) % 5 := by omega
    have e2 : (2 + s) % 5 = (2 + s % 5) % 5 := by omega
    have e3 : (3 + s) % 5 = (3 + s % 5) % 5 := by omega
    have e4 : (4 + s) % 5 = (4 + s % 5) % 5 := by omega
    rw [e0, e1, e2, e3, e4]
    rcases h5 with h | h | h | h | h <;> rw [h] <;> rcases hj5 with rfl | rfl | rfl | rfl | rfl <;> rfl
theorem zero_get (j : Nat) : Lk.zero.get j = ⟨#[]⟩ := by
  rcases j with _ | _ | _ | _ | _ | j <;> rfl
theorem blkOf_set (q : List UInt8 → List UInt8) (s : Nat) (y : Lk) : setAll Lk.zero (blkOf q s y) = y := by
  refine Lk.ext_get fun j hj => ?_
  rw [setAll_get y (blkOf q s y) Lk.zero j hj fun f hf => by
    obtain ⟨h1, _, h3, _⟩ := blkOf_mem hf
    exact ⟨h1, by rw [h3]; exact ofL_of _⟩, blkOf_has q s y j hj]
  cases h : (y.get j).data.toList with
  | nil =>
    have : y.get j = ⟨#[]⟩ := by rw [← ofL_of (y.get j), h]; rfl
    rw [this, zero_get]
    simp
  | cons b t => simp
structure Qk (q : List UInt8 → List UInt8) : Prop where
  val : ∀ v : List UInt8, v.all plainB = true → v ≠ [] → valueL (q v) = (v, true)
  plain : ∀ v : List UInt8, v.all plainB = true → v ≠ [] → (q v).all plainB = true
  ends : ∀ v : List UInt8, v.all plainB = true → v ≠ [] → ∀ b ∈ q v, b ≠ 10
theorem quoteB_10 (b : UInt8) : ∀ x ∈ R.quoteB b, x ≠ 10 := by
  intro x hx
  unfold R.quoteB at hx
  split at hx
  · simp at hx; rcases hx with rfl | rfl <;> decide
  · split at hx
    · simp at hx; subst hx; decide
    · split at hx
      · simp at hx; rcases hx with rfl | rfl <;> decide
      · split at hx
        · simp at hx; rcases hx with rfl | rfl <;> decide
        · rename_i h2 h1 h0 h3
          simp only [List.mem_singleton] at hx
          subst hx
          assumption
theorem quote_qk : Qk R.quoteL := by
  refine ⟨fun v h _ => value_quote v h, fun v h _ => quote_plain h, ?_⟩
  intro v _ _ b hb
  unfold R.quoteL at hb
  rcases List.mem_cons.1 hb with rfl | hb
  · decide
  · rcases List.mem_append.1 hb with hb | hb
    · obtain ⟨x, _, hx⟩ := List.mem_flatMap.1 hb
      exact quoteB_10 x b hx
    · simp at hb
      subst hb
      decide
theorem blkOf_tidy {q : List UInt8 → List UInt8} (hq : Qk q) {y : Lk} (hy : OkLk y) (s : Nat) : ∀ f ∈ blkOf q s y, f.tidy := by
  intro f hf
  obtain ⟨h1, h2, h3, h4⟩ := blkOf_mem hf
  have hp := hy.plain f.k h1
  have hne : (y.get f.k).data.toList ≠ [] := by rw [← h3]; exact h4
  refine ⟨⟨h1, ?_, ?_⟩, ?_, ?_⟩
  · rw [h2, h3]; exact hq.val _ hp hne
  · rw [h3]
    rintro (h | h)
    · rw [h]; exact hy.root
    · rw [h] at hne ⊢; exact hy.source hne
  · rw [h2]; exact hq.plain _ hp hne
  · rw [h2]; exact hq.ends _ hp hne
theorem fldAt_names (q : List UInt8 → List UInt8) (y : Lk) (s k : Nat) : List.Sublist ((fldAt q y s k).map fun f => nm f.k) [nm ((k + s) % 5)] := by
  unfold fldAt
  split
  · simp
  · simp
theorem names_apart (s : Nat) : [nm ((0 + s) % 5), nm ((1 + s) % 5), nm ((2 + s) % 5), nm ((3 + s) % 5), nm ((4 + s) % 5)].Nodup := by
  have h5 : s % 5 = 0 ∨ s % 5 = 1 ∨ s % 5 = 2 ∨ s % 5 = 3 ∨ s % 5 = 4 := by omega
  have e0 : (0 + s) % 5 = s % 5 := by omega
  have e1 : (1 + s) % 5 = (1 + s % 5) % 5 := by omega
  have e2 : (2 + s) % 5 = (2 + s % 5) % 5 := by omega
  have e3 : (3 + s) % 5 = (3 + s % 5) % 5 := by omega
  have e4 : (4 + s) % 5 = (4 + s % 5) % 5 := by omega
  rw [e0, e1, e2, e3, e4]
  rcases h5 with h | h | h | h | h <;> rw [h] <;> decide +kernel
theorem blkOf_bl {q : List UInt8 → List UInt8} (hq : Qk q) {y : Lk} (hy : OkLk y) (s : Nat) : Bl (blkOf q s y) := by
  refine ⟨?_, fun f hf => (blkOf_tidy hq hy s f hf).1, ?_⟩
  · intro h
    have := blkOf_has q s y 0 (by omega)
    rw [h] at this
    have hr : y.root.data.toList ≠ [] := right_ne hy.root
    have hr2 : (y.get 0).data.toList.isEmpty = false := by
      show y.root.data.toList.isEmpty = false
      cases hd : y.root.data.toList with
      | nil => exact absurd hd hr
      | cons b t => rfl
    rw [hr2] at this
    simp at this
  · refine List.Nodup.sublist ?_ (names_apart s)
    rw [blkOf_eq]
    simp only [List.map_append, List.map_nil]
    exact (fldAt_names q y s 0).append ((fldAt_names q y s 1).append ((fldAt_names q y s 2).append ((fldAt_names q y s 3).append ((fldAt_names q y s 4).append (List.Sublist.refl [])))))
def blksFrom (q : List UInt8 → List UInt8) (g : Nat → Nat) : Nat → List Lk → List (List Fl)
  | _, [] => []
  | i, x :: l => blkOf q (g i) x :: blksFrom q g (i + 1) l
theorem blksFrom_mem {q : List UInt8 → List UInt8} {g : Nat → Nat} {b : List Fl} : ∀ {l : List Lk} {i : Nat}, b ∈ blksFrom q g i l → ∃ s x, x ∈ l ∧ b = blkOf q s x
  | [], i, h => by simp [blksFrom] at h
  | x :: l, i, h => by
    rcases List.mem_cons.1 h with rfl | h
    · exact ⟨g i, x, List.mem_cons_self, rfl⟩
    · obtain ⟨s, z, hz, e⟩ := blksFrom_mem h
      exact ⟨s, z, List.mem_cons_of_mem _ hz, e⟩
theorem blksFrom_locks (q : List UInt8 → List UInt8) (g : Nat → Nat) : ∀ (l : List Lk) (i : Nat), blocksLocks (blksFrom q g i l) = l
  | [], i => rfl
  | x :: l, i => by
    have := blksFrom_locks q g l (i + 1)
    unfold blocksLocks at this ⊢
    show setAll Lk.zero (blkOf q (g i) x) :: _ = _
    rw [blkOf_set, this]
theorem made_read {q : List UInt8 → List UInt8} (hq : Qk q) (g : Nat → Nat) {l : List Lk} (hl : OkLks l) (hz : (blocksDoc (blksFrom q g 0 l)).length ≤ 8000) : locksD (blocksDoc (blksFrom q g 0 l)) = (l, 0, 0) := by
  have := doc_read (blksFrom q g 0 l) (fun b hb => by
    obtain ⟨s, x, hx, rfl⟩ := blksFrom_mem hb
    exact blkOf_bl hq (hl.each x hx) s) (fun b hb => by
    obtain ⟨s, x, hx, rfl⟩ := blksFrom_mem hb
    exact blkOf_tidy hq (hl.each x hx) s) (by rw [blksFrom_locks]; exact hl) hz
  rw [this, blksFrom_locks]
end Go.Proofs.YtjdjljgbfpkbdaaGreatDoor.Q
end
section
namespace Go.Proofs.YtjdjljgbfpkbdaaGreatDoor.Q
open Go.RowKit Go.Proofs.YtjdjljgbfpkbdaaGreatDoorW.PrintWords Go.Proofs.YtjdjljgbfpkbdaaGreatDoorW.PrintLast Go.Proofs.YtjdjljgbfpkbdaaGreatDoorW.PrintMore
theorem rows_l0 (l : List Lk) (hl : l.length ≤ 1000) : ∀ (d i : Nat), i + d = l.length → Ev (fun k => transhumanceref5_Rows.l0 k (outs l) (outs l) i) true
  | 0, i, hd => Ev.step (fun _ => transhumanceref5_Rows.l0.eq_2 ..) (Ev.neg (by simp only [outs, List.length_map]; omega) (Ev.now _))
  | d + 1, i, hd => by
    have hw : wrap64 ((i : Int) + 1) = ((i + 1 : Nat) : Int) := wrap_id (by omega) (by omega)
    have hl2 : (outs l).length = l.length := by simp [outs]
    refine Ev.step (fun _ => transhumanceref5_Rows.l0.eq_2 ..) (Ev.pos (by omega) (Ev.pos (by omega) (Ev.pos (by omega) (Ev.neg ?_ ?_))))
    · simp
    · rw [hw]
      exact rows_l0 l hl d (i + 1) (by omega)
theorem rows_ev (l : List Lk) (hl : l.length ≤ 1000) : Ev (fun k => transhumanceref5_Rows.f k (outs l) (outs l)) true :=
  Ev.pos rfl (rows_l0 l hl l.length 0 (by omega))
theorem dent_read {T : ByteArray} {l : List Lk} (h : locksD T.data.toList = (l, 0, 0)) (hz : T.size ≤ 140737488351232) : dent_Locks.f T = some (outs l, 0, 0, 0) := by
  unfold dent_Locks.f
  rw [if_pos hz, h]
  unfold dent_Locks.line
  rw [h]
  rfl
theorem dent_some (T : ByteArray) (hz : T.size ≤ 140737488351232) : ∃ r, dent_Locks.f T = some r := ⟨_, if_pos hz⟩
theorem nm_at (k : Nat) : rdOf ByteArray.empty names (k : Int) = nm k := by
  simp [rdOf, nm]
def linesOf : Bool → List Fl → List (List UInt8)
  | true, fs => blockLines fs
  | false, fs => nextLines fs
theorem linesOf_cons (m : Bool) (f : Fl) (fs : List Fl) : linesOf m (f :: fs) = (lineOf m f.k f.w ++ [10]) :: linesOf false fs := by
  cases m <;> rfl
def markB (m : Bool) : ByteArray := if m then (⟨#[45, 32]⟩ : ByteArray) else (⟨#[32, 32]⟩ : ByteArray)
theorem line_text (m : Bool) (k : Nat) (acc w : ByteArray) : (((((acc ++ markB m) ++ rdOf ByteArray.empty names (k : Int)) ++ (⟨#[58, 32]⟩ : ByteArray)) ++ w) ++ (⟨#[10]⟩ : ByteArray)) = acc ++ bs (lineOf m k w.data.toList ++ [10]) := by
  rw [nm_at]
  apply ext_bs
  cases m <;> simp [ByteArray.data_append, lineOf, markB, data_bs]
theorem mark_size (m : Bool) : (markB m).size = 2 := by cases m <;> rfl
theorem line_len (m : Bool) (k : Nat) (hk : k < 5) (w : List UInt8) : (lineOf m k w ++ [10]).length ≤ w.length + 13 := by
  have h := (names_sz k hk).1
  rw [nm_at] at h
  have h2 := data_length (nm k)
  unfold lineOf
  simp only [List.length_append, List.length_cons, List.length_nil]
  cases m <;> simp <;> omega
end Go.Proofs.YtjdjljgbfpkbdaaGreatDoor.Q
end
section
namespace Go.Proofs.YtjdjljgbfpkbdaaGreatDoor.Q
open Go.RowKit Go.Proofs.YtjdjljgbfpkbdaaGreatDoorW.PrintWords Go.Proofs.YtjdjljgbfpkbdaaGreatDoorW.PrintLast Go.Proofs.YtjdjljgbfpkbdaaGreatDoorW.PrintMore
def okFrom : UInt8 → List UInt8 → Bool
  | _, [] => true
  | p, b :: t => !(b == 10) && !(p == 32 && b == 35) && okFrom b t
theorem contains_cons (b : UInt8) (l sub : List UInt8) : Lib.contains (b :: l) sub = (sub.isPrefixOf (b :: l) || Lib.contains l sub) := by
  unfold Lib.contains
  have hg := Lib.index_ge l sub
  show decide (0 ≤ (if sub.isPrefixOf (b :: l) then (0 : Int) else if Lib.index l sub == -1 then -1 else Lib.index l sub + 1)) = _
  cases hp : sub.isPrefixOf (b :: l) with
  | true => simp
  | false =>
    rw [if_neg (by simp)]
    by_cases h : Lib.index l sub = -1
    · rw [h]; rfl
    · have : (Lib.index l sub == -1) = false := by simpa using h
      rw [this, if_neg (by simp), Bool.false_or]
      congr 1
      rw [eq_iff_iff]
      omega
theorem indexByte_cons (b : UInt8) (l : List UInt8) (c : UInt8) : decide (0 ≤ Lib.indexByte (b :: l) c) = (b == c || decide (0 ≤ Lib.indexByte l c)) := by
  have hg := Lib.indexByte_ge l c
  show decide (0 ≤ (if b == c then (0 : Int) else if Lib.indexByte l c == -1 then -1 else Lib.indexByte l c + 1)) = _
  cases hb : b == c with
  | true => simp
  | false =>
    rw [if_neg (by simp), Bool.false_or]
    by_cases h : Lib.indexByte l c = -1
    · rw [h]; rfl
    · have : (Lib.indexByte l c == -1) = false := by simpa using h
      rw [this, if_neg (by simp)]
      congr 1
      rw [eq_iff_iff]
      omega
theorem okFrom_eq : ∀ (l : List UInt8) (p : UInt8), okFrom p l = (!Lib.contains (p :: l) [32, 35] && !decide (0 ≤ Lib.indexByte l 10))
  | [], p => by
    rw [contains_cons]
    have h1 : ([32, 35] : List UInt8).isPrefixOf [p] = false := by simp [List.isPrefixOf]
    rw [h1]
    rfl
  | b :: t, p => by
    have ih := okFrom_eq t b
    have hp : ([32, 35] : List UInt8).isPrefixOf (p :: b :: t) = (p == 32 && b == 35) := by
      simp only [List.isPrefixOf, Bool.and_true]
      congr 1 <;> exact Bool.beq_comm
    rw [contains_cons, indexByte_cons, hp]
    unfold okFrom
    rw [ih]
    cases (b == 10) <;> cases (p == 32 && b == 35) <;> cases Lib.contains (b :: t) [32, 35] <;> cases decide (0 ≤ Lib.indexByte t 10) <;> rfl
theorem p7x_l0 (s : ByteArray) (hs : s.size ≤ 100000) (hp : s.data.toList.all plainB = true) : ∀ (d i : Nat) (p : UInt8), i + d = s.size → (∀ _ : 0 < i, bt s ((i - 1 : Nat) : Int) = (p.toNat : Int)) → (i = 0 → p = 0 ∧ ¬ bt s 0 = 35) →
    Ev (fun k => transhumanceref7_plain.l0 k s i) (okFrom p (s.data.toList.drop i))
  | 0, i, p, hi, _, _ => by
    rw [List.drop_of_length_le (by rw [Q.data_length]; omega)]
    exact Ev.step (fun _ => transhumanceref7_plain.l0.eq_2 ..) (Ev.neg (by omega) (Ev.now _))
  | d + 1, i, p, hi, h1, h0 => by
    have hlt : i < s.size := by omega
    have hw : wrap64 ((i : Int) + 1) = ((i + 1 : Nat) : Int) := wrap_id (by omega) (by omega)
    have ih := p7x_l0 s hs hp d (i + 1) s[i] (by omega) (fun _ => by rw [show i + 1 - 1 = i from rfl]; exact bt_get s i hlt) (fun h => by omega)
    rw [drop_at s i hlt]
    unfold okFrom
    refine Ev.step (fun _ => transhumanceref7_plain.l0.eq_2 ..) (Ev.pos (by omega) (Ev.pos (by omega) ?_))
    by_cases h10 : s[i] = 10
    · have : (s[i] == 10) = true := by simpa using h10
      rw [this]
      exact Ev.pos (by rw [bt_get s i hlt, h10]; rfl) (Ev.now _)
    have e10 : (s[i] == 10) = false := by simpa using h10
    have h10' : ¬ bt s (i : Int) = 10 := by rw [bt_get s i hlt]; exact fun h => h10 ((byte_int (n := 10) (by decide)).1 h)
    have hpi : plainB s[i] = true := List.all_eq_true.1 hp _ (by rw [List.mem_iff_getElem]; exact ⟨i, by rw [Q.data_length]; exact hlt, rfl⟩)
    have hone : Ev (fun k => transhumanceref1_Plain.f k (s.extract i (i + 1))) true := by have := rplain_one s i hlt; rw [hpi] at this; exact this
    rw [e10]
    refine Ev.neg h10' ?_
    rw [hw]
    refine Ev.pos (by omega) (Ev.pos (by omega) ?_)
    rw [Int.toNat_natCast, Int.toNat_natCast]
    refine Ev.bind hone (Ev.pos rfl ?_)
    by_cases hh : s[i] = 35
    · have e35 : (s[i] == 35) = true := by simpa using hh
      have hi0 : 0 < i := by
        rcases Nat.eq_zero_or_pos i with h | h
        · exfalso
          obtain ⟨_, h2⟩ := h0 h
          subst h
          exact h2 (by have := bt_get s 0 hlt; rw [hh] at this; exact this)
        · exact h
      have hpv := h1 hi0
      have hw2 : wrap64 ((i : Int) - 1) = ((i - 1 : Nat) : Int) := by rw [wrap_id (by omega) (by omega)]; omega
      rw [e35, Bool.and_true]
      refine Ev.pos (by rw [bt_get s i hlt, hh]; rfl) (Ev.pos (by omega) (Ev.pos (by omega) ?_))
      rw [hw2, hpv]
      by_cases h32 : p = 32
      · have : (p == 32) = true := by simpa using h32
        rw [this]
        exact Ev.pos (by rw [h32]; rfl) (Ev.now _)
      · have : (p == 32) = false := by simpa using h32
        rw [this]
        exact Ev.neg (fun h => h32 ((byte_int (n := 32) (by decide)).1 h)) (by simpa using ih)
    · have e35 : (s[i] == 35) = false := by simpa using hh
      rw [e35, Bool.and_false]
      exact Ev.neg (by rw [bt_get s i hlt]; exact fun h => hh ((byte_int (n := 35) (by decide)).1 h)) (by simpa using ih)
theorem may_cons (b : UInt8) (t : List UInt8) : mayL (b :: t) = (!(b == 34) && !(b == 32) && !(b == 35) && !((b :: t).getLast (by simp) == 32) && okFrom 0 (b :: t)) := by
  have h0 : okFrom 0 (b :: t) = (!Lib.contains (b :: t) [32, 35] && !decide (0 ≤ Lib.indexByte (b :: t) 10)) := by
    rw [okFrom_eq, contains_cons]
    have : ([32, 35] : List UInt8).isPrefixOf (0 :: b :: t) = false := rfl
    rw [this, Bool.false_or]
  rw [h0]
  show (decide (Lib.indexByte [34, 32, 35] b < 0) && ((b :: t).getLast (by simp) != 32) && !Lib.contains (b :: t) [32, 35] && !decide (0 ≤ Lib.indexByte (b :: t) 10)) = _
  have h1 : decide (Lib.indexByte [34, 32, 35] b < 0) = (!(b == 34) && !(b == 32) && !(b == 35)) := by
    have all : ∀ n : Nat, n < 256 → decide (Lib.indexByte [34, 32, 35] (UInt8.ofNat n) < 0) = (!(UInt8.ofNat n == 34) && !(UInt8.ofNat n == 32) && !(UInt8.ofNat n == 35)) := by decide +kernel
    have := all b.toNat b.toNat_lt
    simpa only [UInt8.ofNat_toNat] using this
  rw [h1]
  simp only [bne, Bool.and_assoc]
theorem p7x_ev (s : ByteArray) (hs : s.size ≤ 100000) (hp : s.data.toList.all plainB = true) : Ev (fun k => transhumanceref7_plain.f k s) (mayL s.data.toList) := by
  have jt : Ev (fun k => transhumanceref7_plain.j0 k s true) false := Ev.step (fun _ => transhumanceref7_plain.j0.eq_2 ..) (Ev.pos rfl (Ev.now _))
  unfold transhumanceref7_plain.f
  cases hl : s.data.toList with
  | nil => exact Ev.pos (by rw [Lib.toList_data]; exact hl) jt
  | cons b t =>
    have h0 : ¬ s.toList = [] := by rw [Lib.toList_data, hl]; simp
    have hsz : s.size = t.length + 1 := by rw [← Q.data_length, hl]; rfl
    have hz : 0 < s.size := by omega
    have hb0 : s[0] = b := by
      have : s.data.toList[0]'(by rw [hl]; simp) = b := by simp [hl]
      exact this
    have hb : bt s 0 = (b.toNat : Int) := by have := bt_get s 0 hz; rw [hb0] at this; exact this
    rw [may_cons]
    refine Ev.neg h0 (Ev.pos (by omega) ?_)
    rw [hb]
    by_cases h1 : b = 34
    · subst h1; exact Ev.pos rfl jt
    refine Ev.neg (fun h => h1 ((byte_int (n := 34) (by decide)).1 h)) ?_
    by_cases h2 : b = 32
    · subst h2; exact Ev.pos rfl jt
    refine Ev.neg (fun h => h2 ((byte_int (n := 32) (by decide)).1 h)) ?_
    by_cases h3 : b = 35
    · subst h3; exact Ev.pos rfl jt
    have h3' : ¬ (b.toNat : Int) = 35 := fun h => h3 ((byte_int (n := 35) (by decide)).1 h)
    refine Ev.neg h3' ?_
    have e1 : (b == 34) = false := by simpa using h1
    have e2 : (b == 32) = false := by simpa using h2
    have e3 : (b == 35) = false := by simpa using h3
    rw [e1, e2, e3]
    have hw : wrap64 ((s.size : Int) - 1) = ((s.size - 1 : Nat) : Int) := by rw [wrap_id (by omega) (by omega)]; omega
    rw [hw]
    refine Ev.pos (by omega) (Ev.pos (by omega) ?_)
    have hlast : s[s.size - 1]'(by omega) = (b :: t).getLast (by simp) := by
      rw [List.getLast_eq_getElem]
      have : ∀ (l : List UInt8) (h : s.data.toList = l) (i : Nat) (hi : i < s.size) (hi2 : i < l.length), s[i] = l[i] := by
        intro l h i hi hi2
        subst h
        rfl
      have e := this (b :: t) hl (s.size - 1) (by omega) (by simp; omega)
      rw [e]
      congr 1
      simp only [List.length_cons]
      omega
    rw [bt_get s (s.size - 1) (by omega), hlast]
    generalize (b :: t).getLast (by simp) = c
    cases hc : c == 32 with
    | true =>
      have : c = 32 := by simpa using hc
      subst this
      exact jt
    | false =>
      have hc2 : (((c.toNat : Int)) == 32) = false := by
        have : ¬ c = 32 := by simpa using hc
        simpa using fun h => this ((byte_int (n := 32) (by decide)).1 h)
      rw [hc2]
      have := p7x_l0 s hs hp s.size 0 0 (by omega) (fun h => by omega) (fun _ => ⟨rfl, by rw [hb]; exact h3'⟩)
      rw [List.drop_zero, hl] at this
      exact Ev.step (fun _ => transhumanceref7_plain.j0.eq_2 ..) (Ev.neg (by simp) (by simpa using this))
def wq (v : List UInt8) : List UInt8 := if mayL v = true then v else R.quoteL v
theorem may_10 : ∀ (v : List UInt8), mayL v = true → ∀ b ∈ v, b ≠ 10 := by
  intro v hv b hb e
  subst e
  have hi : ∀ l : List UInt8, (10 : UInt8) ∈ l → decide (0 ≤ Lib.indexByte l 10) = true := by
    intro l
    induction l with
    | nil => intro h; simp at h
    | cons x l ih =>
      intro h
      rw [indexByte_cons]
      rcases List.mem_cons.1 h with rfl | h
      · rfl
      · rw [ih h, Bool.or_true]
  have h1 := hi v hb
  cases v with
  | nil => simp at hb
  | cons x l =>
    have hv2 : (decide (Lib.indexByte [34, 32, 35] x < 0) && ((x :: l).getLast (by simp) != 32) && !Lib.contains (x :: l) [32, 35] && !decide (0 ≤ Lib.indexByte (x :: l) 10)) = true := hv
    rw [h1] at hv2
    simp at hv2
theorem wq_qk : Qk wq := by
  refine ⟨?_, ?_, ?_⟩
  · intro v h hn
    unfold wq
    split
    · rename_i hm; exact value_plain v hm
    · exact quote_qk.val v h hn
  · intro v h hn
    unfold wq
    split
    · exact h
    · exact quote_qk.plain v h hn
  · intro v h hn
    unfold wq
    split
    · rename_i hm; exact may_10 v hm
    · exact quote_qk.ends v h hn
theorem wq_len (v : List UInt8) : (wq v).length ≤ 2 * v.length + 2 := by
  unfold wq
  split
  · omega
  · exact R.quoteL_length v
theorem w7x_l1 (l : List Lk) (x : Lk) (hx : Tame x) (i : Int) (rr : ByteArray) : ∀ (d t : Nat) (acc : ByteArray) (m : Bool), t + d = 5 → acc.size + d * 220 ≤ 100000 →
    (∀ z : ByteArray, z = acc ++ bs (linesOf m (fldsFrom wq x 0 t d)).flatten → Ev (fun k => transhumanceref7_Write.l0 k (outs l) z (wrap64 (i + 1))) rr) →
    Ev (fun k => transhumanceref7_Write.l1 k (outs l) acc i (vals x) names (markB m) t) rr
  | 0, t, acc, m, ht, hz, hk => by
    refine Ev.step (fun _ => transhumanceref7_Write.l1.eq_2 ..) (Ev.neg (by omega) (hk acc ?_))
    have : linesOf m (fldsFrom wq x 0 t 0) = [] := by cases m <;> rfl
    rw [this]
    exact (ext_bs (by simp [ByteArray.data_append, bs])).symm
  | d + 1, t, acc, m, ht, hz, hk => by
    have ht5 : t < 5 := by omega
    have hw : wrap64 ((t : Int) + 1) = ((t + 1 : Nat) : Int) := wrap_id (by omega) (by omega)
    obtain ⟨hp, hzt⟩ := hx t ht5
    obtain ⟨hn1, hn2⟩ := names_sz t ht5
    have hmod : (t + 0) % 5 = t := by omega
    have hf : fldsFrom wq x 0 t (d + 1) = fldAt wq x 0 t ++ fldsFrom wq x 0 (t + 1) d := rfl
    by_cases he : (x.get t).toList = []
    · have hfa : fldAt wq x 0 t = [] := by
        unfold fldAt
        rw [hmod, if_pos (by rw [← Lib.toList_data]; exact he)]
      rw [hf, hfa, List.nil_append] at hk
      have h1 := w7x_l1 l x hx i rr d (t + 1) acc m (by omega) (by omega) hk
      refine Ev.step (fun _ => transhumanceref7_Write.l1.eq_2 ..) (Ev.pos (by omega) (Ev.pos (by omega) (Ev.pos (by show (t : Int) < ((5 : Nat) : Int); omega) ?_)))
      rw [vals_at x t ht5, hw]
      exact Ev.pos he h1
    · have hfa : fldAt wq x 0 t = [⟨t, wq (x.get t).data.toList, (x.get t).data.toList⟩] := by
        unfold fldAt
        rw [hmod, if_neg (by rw [← Lib.toList_data]; exact he)]
      rw [hf, hfa, List.singleton_append, linesOf_cons] at hk
      have e2 : (⟨#[58, 32]⟩ : ByteArray).size = 2 := rfl
      have em := mark_size m
      have hwl := wq_len (x.get t).data.toList
      rw [Q.data_length] at hwl
      have hll := line_len m t ht5 (wq (x.get t).data.toList)
      have h1 := w7x_l1 l x hx i rr d (t + 1) (acc ++ bs (lineOf m t (wq (x.get t).data.toList) ++ [10])) false (by omega)
        (by rw [ByteArray.size_append, size_bs]; omega)
        (fun z hzz => hk z (by rw [hzz]; apply ext_bs; simp [ByteArray.data_append, data_bs]))
      have hb := p7x_ev (x.get t) (by omega) hp
      refine Ev.step (fun _ => transhumanceref7_Write.l1.eq_2 ..) (Ev.pos (by omega) (Ev.pos (by omega) (Ev.pos (by show (t : Int) < ((5 : Nat) : Int); omega) ?_)))
      rw [vals_at x t ht5, hw]
      refine Ev.neg he (Ev.bind hb ?_)
      cases hm : mayL (x.get t).data.toList with
      | true =>
        have hwq : wq (x.get t).data.toList = (x.get t).data.toList := if_pos hm
        have hline := line_text m t acc (x.get t)
        rw [hwq, ← hline] at h1
        refine Ev.pos rfl (Ev.pos ?_ (Ev.pos (by show (t : Int) < ((5 : Nat) : Int); omega) (Ev.pos ?_ (Ev.pos ?_ (Ev.pos ?_ (Ev.pos ?_ h1))))))
        all_goals ((try simp only [ByteArray.size_append, e2]); omega)
      | false =>
        have hwq : wq (x.get t).data.toList = R.quoteL (x.get t).data.toList := if_neg (by rw [hm]; simp)
        have hline := line_text m t acc (bs (R.quoteL (x.get t).data.toList))
        rw [data_bs] at hline
        rw [hwq, ← hline] at h1
        have hqz : (bs (R.quoteL (x.get t).data.toList)).size ≤ 202 := by rw [size_bs, ← hwq]; omega
        refine Ev.neg (by simp) (Ev.bind (quote_ev (x.get t) (by omega)) (Ev.pos ?_ (Ev.pos (by show (t : Int) < ((5 : Nat) : Int); omega) (Ev.pos ?_ (Ev.pos ?_ (Ev.pos ?_ (Ev.pos ?_ h1)))))))
        all_goals ((try simp only [ByteArray.size_append, e2]); omega)
def sumB (B : Nat → Nat) : Nat → Nat → Nat
  | _, 0 => 0
  | t, d + 1 => B t + 13 + sumB B (t + 1) d
theorem blk_len (q : List UInt8 → List UInt8) (x : Lk) (B : Nat → Nat) (hB : ∀ k, k < 5 → (q (x.get k).data.toList).length ≤ B k) : ∀ (d t : Nat) (m : Bool), t + d = 5 → ((linesOf m (fldsFrom q x 0 t d)).flatten).length ≤ sumB B t d
  | 0, t, m, _ => by cases m <;> simp [linesOf, fldsFrom, blockLines, nextLines]
  | d + 1, t, m, ht => by
    have ih := blk_len q x B hB d (t + 1)
    have hf : fldsFrom q x 0 t (d + 1) = fldAt q x 0 t ++ fldsFrom q x 0 (t + 1) d := rfl
    have h5 : t < 5 := by omega
    have e5 : (t + 0) % 5 = t := by omega
    have hs : sumB B t (d + 1) = B t + 13 + sumB B (t + 1) d := rfl
    rw [hf, hs]
    unfold fldAt
    rw [e5]
    split
    · rw [List.nil_append]
      have := ih m (by omega)
      omega
    · rw [List.singleton_append, linesOf_cons, List.flatten_cons, List.length_append]
      have h1 := line_len m t h5 (q (x.get t).data.toList)
      have h2 := hB t h5
      have := ih false (by omega)
      simp only
      omega
theorem fine_len {x : Lk} (h : Fine x) (m : Bool) : ((linesOf m (blkOf wq 0 x)).flatten).length ≤ 523 := by
  have := blk_len wq x (fun k => 2 * lim k + 2) (fun k hk => by
    have h1 := wq_len (x.get k).data.toList
    have h2 := h.2 k hk
    rw [Q.data_length] at h1
    omega) 5 0 m (by omega)
  exact this
theorem fines_len : ∀ (l : List Lk) (i : Nat), (∀ x ∈ l, Fine x) → ((blocksText (blksFrom wq (fun _ => 0) i l)).flatten).length ≤ l.length * 523
  | [], i, _ => by simp [blksFrom, blocksText]
  | x :: l, i, h => by
    have ih := fines_len l (i + 1) fun y hy => h y (List.mem_cons_of_mem _ hy)
    have h1 := fine_len (h x List.mem_cons_self) true
    have e : (blocksText (blksFrom wq (fun _ => 0) i (x :: l))).flatten = (linesOf true (blkOf wq 0 x)).flatten ++ (blocksText (blksFrom wq (fun _ => 0) (i + 1) l)).flatten := by
      simp only [blksFrom, blocksText, List.flatMap_cons, List.flatten_append]
      rfl
    rw [e, List.length_append, List.length_cons]
    omega
theorem Fine.tame {x : Lk} (h : Fine x) : Tame x := fun k hk => ⟨h.1.plain k hk, h.le k hk⟩
theorem w7x_l0 (l : List Lk) (hl : l.length ≤ 50) (hx : ∀ x ∈ l, Fine x) (T : ByteArray) : ∀ (rest pre : List Lk) (acc : ByteArray), l = pre ++ rest → acc.size ≤ 7 + pre.length * 523 →
    acc ++ bs (blocksText (blksFrom wq (fun _ => 0) pre.length rest)).flatten = T →
    Ev (fun k => transhumanceref7_Write.l0 k (outs l) acc pre.length) T
  | [], pre, acc, hd, hz, ht => by
    have hlen : pre.length = l.length := by rw [hd]; simp
    have ht2 : acc = T := by
      rw [← ht]
      exact ext_bs (by simp [ByteArray.data_append, bs, blksFrom, blocksText])
    subst ht2
    exact Ev.step (fun _ => transhumanceref7_Write.l0.eq_2 ..) (Ev.neg (by simp only [outs, List.length_map]; omega) (Ev.now _))
  | x :: rest, pre, acc, hd, hz, ht => by
    have hlt : pre.length < l.length := by rw [hd]; simp
    have hget : l[pre.length] = x := by subst hd; simp
    have hfx := hx x (by rw [hd]; simp)
    have hw : wrap64 ((pre.length : Int) + 1) = (((pre ++ [x]).length : Nat) : Int) := by
      rw [wrap_id (by omega) (by omega)]; simp
    have hb := fine_len hfx true
    have hE := w7x_l1 l x hfx.tame pre.length T 5 0 acc true (by omega) (by omega) (fun z hzz => by
      rw [hw]
      refine w7x_l0 l hl hx T rest (pre ++ [x]) z (by rw [hd]; simp) ?_ ?_
      · rw [hzz, ByteArray.size_append, size_bs]
        have hb2 : ((linesOf true (fldsFrom wq x 0 0 5)).flatten).length ≤ 523 := hb
        simp only [List.length_append, List.length_cons, List.length_nil]
        omega
      · rw [← ht, hzz]
        have e : (pre ++ [x]).length = pre.length + 1 := by simp
        rw [e]
        apply ext_bs
        simp only [ByteArray.data_append, Array.toList_append, data_bs, bs, blksFrom, blocksText, List.flatMap_cons, List.flatten_append, List.append_assoc]
        rfl)
    refine Ev.step (fun _ => transhumanceref7_Write.l0.eq_2 ..) (Ev.pos (by simp only [outs, List.length_map]; omega) (Ev.pos (by omega) ?_))
    rw [rd_out l _ hlt]
    refine Ev.val (a := (vals l[pre.length], names)) rfl ?_
    rw [hget]
    exact hE
def wblks (l : List Lk) : List (List Fl) := blksFrom wq (fun _ => 0) 0 l
def wtext (l : List Lk) : List UInt8 := if l = [] then [] else blocksDoc (wblks l)
theorem doc_len (l : List Lk) (h : ∀ x ∈ l, Fine x) : (blocksDoc (wblks l)).length ≤ 7 + l.length * 523 := by
  have := fines_len l 0 h
  unfold blocksDoc
  rw [List.length_append]
  have e : (locksWordL ++ [10]).length = 7 := rfl
  unfold wblks
  omega
theorem w7x_ev (l : List Lk) (hl : l.length ≤ 50) (hx : ∀ x ∈ l, Fine x) : Ev (fun k => transhumanceref7_Write.f k (outs l)) (bs (wtext l)) := by
  unfold transhumanceref7_Write.f wtext
  by_cases h0 : l = []
  · subst h0
    exact Ev.pos rfl (Ev.ret rfl)
  · rw [if_neg h0]
    have hpos := List.length_pos_iff.2 h0
    refine Ev.neg (by simp only [outs, List.length_map]; omega) (w7x_l0 l hl hx _ l [] _ rfl (by show (7 : Nat) ≤ 7 + 0 * 523; omega) ?_)
    apply ext_bs
    simp only [ByteArray.data_append, Array.toList_append, data_bs, blocksDoc]
    rfl
end Go.Proofs.YtjdjljgbfpkbdaaGreatDoor.Q
end
