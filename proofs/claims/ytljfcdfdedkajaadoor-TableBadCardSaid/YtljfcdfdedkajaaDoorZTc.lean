import Derived.Test.YtljfcdfdedkajaaDoorZTbg
import Derived.RegionTactic
import Derived.BigRegion
set_option linter.unusedVariables false
set_option linter.unusedSimpArgs false
namespace Go.Proofs.YtljfcdfdedkajaaDoor.Q
open Go.RowKit Go.Proofs.YtljfcdfdedkajaaDoorW.PrintWords
def wordRoot : ByteArray := ⟨#[114, 111, 111, 116]⟩
def wordVersion : ByteArray := ⟨#[118, 101, 114, 115, 105, 111, 110]⟩
def wordRev : ByteArray := ⟨#[114, 101, 118, 105, 115, 105, 111, 110]⟩
def wordWithin : ByteArray := ⟨#[119, 105, 116, 104, 105, 110]⟩
def wordSource : ByteArray := ⟨#[115, 111, 117, 114, 99, 101]⟩
def KeysPost (w : World) (q o : Nat) (e : Ending) (w' : World) : Prop :=
  ∃ b1 b2 : Nat, e = .returned (.tuple #[.slice (some ⟨b1, 0, none⟩) 5 5, .slice (some ⟨b2, 0, none⟩) 5 5]) ∧ w.heap.size ≤ b1 ∧ w.heap.size ≤ b2 ∧ b1 ≠ b2
    ∧ Blk w' b1 9 #[.string wordRoot, .string wordVersion, .string wordRev, .string wordWithin, .string wordSource]
    ∧ Blk w' b2 80 #[.pointer (some ⟨q, o, none⟩), .pointer (some ⟨q, o + 1, none⟩), .pointer (some ⟨q, o + 2, none⟩), .pointer (some ⟨q, o + 3, none⟩), .pointer (some ⟨q, o + 4, none⟩)]
    ∧ Below w.heap.size w w'
theorem Blk.new2 (w : World) (o : Obj) (t : TypeId) (cs : Array Value) : Blk ((w.alloc o).alloc (.cells cs t)) (w.heap.size + 1) t cs := by
  have h := Blk.new (w.alloc o) t cs
  have e : (w.alloc o).heap.size = w.heap.size + 1 := by simp
  rwa [e] at h
theorem Below.alloc2 (w : World) (o o' : Obj) : Below w.heap.size w ((w.alloc o).alloc o') :=
  (((Fr.refl (fun _ => False) w).alloc o).alloc o').below (Nat.le_refl _) (fun _ h => h.elim)
section
variable (w : World)
set_option maxHeartbeats 1000000 in
set_option maxRecDepth 100000 in
theorem keys_calls (q o : Nat) : Calls Tryd.prog 36 #[.pointer (some ⟨q, o, none⟩)] w (KeysPost w q o) := by
  go_enter Tryd.func36, Tryd.ntmps36
  go_wp2_with (fail)
  go_region
  all_goals (go_wp2_with (fail))
  all_goals go_ret2
  · refine ⟨_, _, rfl, Nat.le_refl _, by omega, by omega, (Blk.new w _ _).alloc _, Blk.new2 w _ _ _, ?_⟩
    exact below_drew (Below.alloc2 w _ _)
  · refine ⟨_, _, rfl, by omega, Nat.le_refl _, by omega, Blk.new2 w _ _ _, (Blk.new w _ _).alloc _, ?_⟩
    exact below_drew (Below.alloc2 w _ _)
end
structure Lk where
  root : ByteArray
  version : ByteArray
  rev : ByteArray
  within : ByteArray
  source : ByteArray
def Lk.cells (x : Lk) : List Value := [.string x.root, .string x.version, .string x.rev, .string x.within, .string x.source]
def lkCells (l : List Lk) : List Value := l.flatMap Lk.cells
theorem lkCells_length (l : List Lk) : (lkCells l).length = l.length * 5 := by
  induction l with
  | nil => rfl
  | cons x l ih => simp only [lkCells, List.flatMap_cons, List.length_append, List.length_cons] at ih ⊢; rw [ih]; simp only [Lk.cells, List.length_cons, List.length_nil]; omega
theorem lkCells_append (l m : List Lk) : lkCells (l ++ m) = lkCells l ++ lkCells m := by simp [lkCells]
theorem lkCells_get (l : List Lk) (j k : Nat) (hj : j < l.length) (hk : k < 5) : (lkCells l)[j * 5 + k]? = (l[j].cells)[k]? := by
  induction l generalizing j with
  | nil => simp at hj
  | cons x l ih =>
    have e : lkCells (x :: l) = x.cells ++ lkCells l := by simp [lkCells]
    have hx : x.cells.length = 5 := rfl
    rw [e]
    cases j with
    | zero =>
      rw [List.getElem?_append_left (by omega)]
      simp
    | succ j =>
      rw [List.getElem?_append_right (by omega), hx]
      have : (j + 1) * 5 + k - 5 = j * 5 + k := by omega
      rw [this, ih j (by simpa using hj)]
      simp
def Ls (w : World) (base : Nat) (lv : Value) (l : List Lk) : Prop := w.ownsRow base 31 5 lv l.length (lkCells l)
theorem Ls.nil (w : World) (base : Nat) : Ls w base (.slice none 0 0) [] := own_nil w base _ 5
structure LsAt (w : World) (base q cap : Nat) (l : List Lk) : Prop where
  le : l.length ≤ cap
  capLe : cap ≤ 9223372036854775807
  base : base ≤ q
  lt : q < w.heap.size
  cell : ∀ j k, (h : j < l.length) → k < 5 → w.cell? ⟨q, j * 5 + k, none⟩ = (l[j].cells)[k]?
  blk : ∃ cs, w.heap[q]? = some (.cells cs 31 (0, 0)) ∧ cs.size = cap * 5 ∧ cs.toList.take (l.length * 5) = lkCells l
theorem Ls.at_ {w : World} {base : Nat} {lv : Value} {l : List Lk} (h : Ls w base lv l) (hl : l ≠ []) : ∃ q cap, lv = .slice (some ⟨q, 0, none⟩) l.length cap ∧ LsAt w base q cap l := by
  obtain ⟨_, h2⟩ := h
  rcases h2 with ⟨_, h2⟩ | ⟨q, cap, cs, rfl, hb, hh, hle, hcap, hs, ht⟩
  · exact absurd (List.eq_nil_of_length_eq_zero h2) hl
  · refine ⟨q, cap, rfl, hle, hcap, hb, ?_, ?_, cs, hh, hs, ht⟩
    · exact (Array.getElem?_eq_some_iff.1 hh).1
    · intro j k hj hk
      have e := lkCells_get l j k hj hk
      rw [← ht, List.getElem?_take, if_pos (by omega), Array.getElem?_toList] at e
      simp only [World.cell?, hh]
      exact e
section
variable (w : World)
def Lk.arr (x : Lk) : Array Value := #[.string x.root, .string x.version, .string x.rev, .string x.within, .string x.source]
theorem same_calls (b : Nat) (x y : Lk) (hx : Blk w b 31 x.arr) :
    Calls Tryd.prog 58 #[.agg y.arr, .pointer (some ⟨b, 0, none⟩)] w fun e w' => e = .returned (.bool (y.root.toList == x.root.toList)) ∧ Below w.heap.size w w' := by
  have h0 : (w.alloc (.cells y.arr 31)).cell? ⟨b, 0, none⟩ = some (.string x.root) := (hx.alloc _).cell 0
  have h1 : (w.alloc (.cells y.arr 31)).cell? ⟨w.heap.size, 0, none⟩ = some (.string y.root) := (Blk.new w _ _).cell 0
  generalize hW : y.arr = Y at *
  go_enter Tryd.func58, Tryd.ntmps58
  go_wp2_with (fail)
  go_ret
  exact ⟨rfl, (Below.refl _ w).alloc (Nat.le_refl _) _⟩
theorem index_calls (b q c : Nat) (x : Lk) (l : List Lk) (hx : Blk w b 31 x.arr)
   (hl : ∀ j k, (h : j < l.length) → k < 5 → w.cell? ⟨q, j * 5 + k, none⟩ = (l[j].cells)[k]?) (hb : l.length ≤ 40) :
    Calls Tryd.prog 81 #[.slice (some ⟨q, 0, none⟩) l.length c, .func (.func 58) #[] #[.pointer (some ⟨b, 0, none⟩)]] w
      fun e w' => ∃ r : Int, e = .returned (.int .i64 r) ∧ (0 ≤ r ↔ l.any (fun y => y.root.toList == x.root.toList) = true) ∧ Below w.heap.size w w' := by
  go_enter Tryd.func81, Tryd.ntmps81
  go_wp2_with (fail)
  have HX := Lib.hid hx
  have HL := Lib.hid hl
  clear hx hl
  go_loopg [5, 8] (l.length) (fun q' _ i wr => ∃ j : Nat, q' = l.length - j ∧ j ≤ l.length ∧ i = .int .i64 j ∧ (l.take j).any (fun y => y.root.toList == x.root.toList) = false ∧ Below w.heap.size w wr)
  case atStart => exact ⟨0, by omega, Nat.zero_le _, rfl, rfl, Below.refl _ _⟩
  case round =>
    obtain ⟨j, rfl, hj, rfl, he, hbl⟩ := hrel
    have HE := Lib.hid he
    have HBL := Lib.hid hbl
    clear he hbl
    by_cases hlt : j < l.length
    · have c0 : wr.cell? ⟨q, j * 5, none⟩ = some (.string l[j].root) := pw_cell_below HBL.out (HL.out j 0 hlt (by omega))
      have c1 : wr.cell? ⟨q, j * 5 + 1, none⟩ = some (.string l[j].version) := pw_cell_below HBL.out (HL.out j 1 hlt (by omega))
      have c2 : wr.cell? ⟨q, j * 5 + 2, none⟩ = some (.string l[j].rev) := pw_cell_below HBL.out (HL.out j 2 hlt (by omega))
      have c3 : wr.cell? ⟨q, j * 5 + 3, none⟩ = some (.string l[j].within) := pw_cell_below HBL.out (HL.out j 3 hlt (by omega))
      have c4 : wr.cell? ⟨q, j * 5 + 4, none⟩ = some (.string l[j].source) := pw_cell_below HBL.out (HL.out j 4 hlt (by omega))
      have HT := Lib.hid (List.take_succ_eq_append_getElem hlt)
      generalize hy : l[j] = y at *
      go_wp2_with (fail)
      refine (same_calls wr b x y (HX.out.below HBL.out)).mono ?_
      rintro e w1 ⟨rfl, hb1⟩
      have HB1 := Lib.hid hb1
      clear hb1
      cases hq : (y.root.toList == x.root.toList) with
      | true =>
        have HQ := Lib.hid hq
        clear hq
        go_wp2_with (fail)
        go_ret
        refine ⟨_, rfl, ?_, below_then HBL.out HBL.out.size HB1.out⟩
        simp only [Int.natCast_nonneg, true_iff, List.any_eq_true]
        exact ⟨l[j], List.getElem_mem hlt, by rw [hy]; exact HQ.out⟩
      | false =>
        have HQ := Lib.hid hq
        clear hq
        go_wp2_with (fail)
        go_roundg (l.length - (j + 1))
        case measure => omega
        case rel =>
          refine ⟨j + 1, rfl, by omega, rfl, ?_, below_then HBL.out HBL.out.size HB1.out⟩
          rw [HT.out, List.any_append, HE.out]
          simp only [List.any_cons, List.any_nil, HQ.out, Bool.or_false]
    · have he := HE.out
      rw [List.take_of_length_le (by omega)] at he
      have HE2 := Lib.hid he
      clear he
      go_wp2_with (fail)
      go_ret
      refine ⟨_, rfl, ?_, HBL.out⟩
      rw [HE2.out]
      simp
theorem contains_calls (b q c : Nat) (x : Lk) (l : List Lk) (hx : Blk w b 31 x.arr)
   (hl : ∀ j k, (h : j < l.length) → k < 5 → w.cell? ⟨q, j * 5 + k, none⟩ = (l[j].cells)[k]?) (hb : l.length ≤ 40) :
    Calls Tryd.prog 57 #[.slice (some ⟨q, 0, none⟩) l.length c, .func (.func 58) #[] #[.pointer (some ⟨b, 0, none⟩)]] w
      fun e w' => e = .returned (.bool (l.any (fun y => y.root.toList == x.root.toList))) ∧ Below w.heap.size w w' := by
  have HC := Lib.hid (index_calls w b q c x l hx hl hb)
  clear hx hl
  go_enter Tryd.func57, Tryd.ntmps57
  go_wp2_with (fail)
  refine HC.out.mono ?_
  rintro e w1 ⟨r, rfl, hr, hb1⟩
  have HR := Lib.hid hr
  have HB := Lib.hid hb1
  clear hr hb1
  go_wp2_with (fail)
  go_ret
  refine ⟨?_, HB.out⟩
  cases ha : (l.any (fun y => y.root.toList == x.root.toList)) with
  | true =>
    have : 0 ≤ r := HR.out.2 ha
    simp [this]
  | false =>
    have : ¬ 0 ≤ r := fun h => by rw [HR.out.1 h] at ha; cases ha
    simp [this]
def endedE : List Lk → Int
  | [] => 0
  | y :: m =>
    let x := (y :: m).getLast (by simp)
    if x.root.toList.isEmpty || (x.rev.toList.isEmpty && x.version.toList.isEmpty) then 1
    else if (y :: m).dropLast.any (fun z => z.root.toList == x.root.toList) then 4 else 0
theorem endedE_snoc (init : List Lk) (x : Lk) : endedE (init ++ [x]) = if x.root.toList.isEmpty || (x.rev.toList.isEmpty && x.version.toList.isEmpty) then 1
    else if init.any (fun z => z.root.toList == x.root.toList) then 4 else 0 := by
  cases h : init ++ [x] with
  | nil => simp at h
  | cons y m =>
    simp only [endedE, ← h, List.getLast_append, List.dropLast_concat]
    simp
theorem Ls.keep {w w' : World} {base : Nat} {lv : Value} {l : List Lk} {S : Nat → Prop} (h : Ls w base lv l) (hf : Fr S w w') (hS : ∀ k cs, S k → w.heap[k]? ≠ some (.cells cs 31 (0, 0))) : Ls w' base lv l :=
  own_move h (fun k hk => by
    obtain ⟨cells, hc⟩ := own_typed h k hk
    exact hf.block k (Array.getElem?_eq_some_iff.1 hc).1 (fun hk' => hS k cells hk' hc))
theorem Blk.ty {w : World} {p : Nat} {t : TypeId} {cs : Array Value} (h : Blk w p t cs) (ht : t ≠ 31) : ∀ k cs', k = p → w.heap[k]? ≠ some (.cells cs' 31 (0, 0)) := by
  rintro k cs' rfl hk
  unfold Blk at h
  rw [h] at hk
  injection hk with hk
  injection hk with _ hk
  exact ht hk
def EndPost (w : World) (p c : Nat) (s : ByteArray) (lv : Value) (hv : ByteArray) (wh : Int) (a : Nat) (x : Int) (e : Ending) (w' : World) : Prop :=
  e = .returned (.tuple #[]) ∧ (if x = 0 then Rd w' p c s lv hv wh 0 else Rd w' p c s lv hv a x) ∧ Fr (· = p) w w'
theorem EndPost.bad {w w' : World} {p c : Nat} {s : ByteArray} {lv : Value} {hv : ByteArray} {wh : Int} {a : Nat} {x k : Int} (hx : x = k) (hk : k ≠ 0) (h : Rd w' p c s lv hv a k) (hf : Fr (· = p) w w') : EndPost w p c s lv hv wh a x (.returned (.tuple #[])) w' := by
  subst hx
  exact ⟨rfl, by rw [if_neg hk]; exact h, hf⟩
theorem EndPost.good {w w' : World} {p c : Nat} {s : ByteArray} {lv : Value} {hv : ByteArray} {wh : Int} {a : Nat} {x : Int} (hx : x = 0) (h : Rd w' p c s lv hv wh 0) (hf : Fr (· = p) w w') : EndPost w p c s lv hv wh a x (.returned (.tuple #[])) w' := by
  subst hx
  exact ⟨rfl, h, hf⟩
variable (p c : Nat) (s : ByteArray) (lv : Value) (hv : ByteArray) (wh : Int)
set_option maxHeartbeats 1000000 in
set_option maxRecDepth 100000 in
theorem ended_calls (a base : Nat) (l : List Lk) (h : Rd w p c s lv hv wh 0) (hl : Ls w base lv l) (hn : l.length ≤ 40) :
    Calls Tryd.prog 26 #[.pointer (some ⟨p, 0, none⟩), .int .i64 a] w (EndPost w p c s lv hv wh a (endedE l)) := by
  rcases List.eq_nil_or_concat l with rfl | ⟨init, x, rfl⟩
  · obtain ⟨A, cc, rfl⟩ := own_slice hl
    have h2 := h.cell 2
    have H := Lib.hid h
    clear h hl
    go_enter Tryd.func26, Tryd.ntmps26
    go_wp2_with (fail)
    refine bodyPost_ret (results_none rfl _ _ _) rfl ?_
    exact ⟨rfl, H.out, Fr.refl _ _⟩
  · rw [List.concat_eq_append] at *
    obtain ⟨q, cap, rfl, at_⟩ := hl.at_ (by simp)
    have hlt : init.length < (init ++ [x]).length := by simp
    have hx : (init ++ [x])[init.length] = x := by simp
    have c0 : w.cell? ⟨q, init.length * 5, none⟩ = some (.string x.root) := by have := at_.cell init.length 0 hlt (by omega); rw [hx] at this; exact this
    have c1 : w.cell? ⟨q, init.length * 5 + 1, none⟩ = some (.string x.version) := by have := at_.cell init.length 1 hlt (by omega); rw [hx] at this; exact this
    have c2 : w.cell? ⟨q, init.length * 5 + 2, none⟩ = some (.string x.rev) := by have := at_.cell init.length 2 hlt (by omega); rw [hx] at this; exact this
    have c3 : w.cell? ⟨q, init.length * 5 + 3, none⟩ = some (.string x.within) := by have := at_.cell init.length 3 hlt (by omega); rw [hx] at this; exact this
    have c4 : w.cell? ⟨q, init.length * 5 + 4, none⟩ = some (.string x.source) := by have := at_.cell init.length 4 hlt (by omega); rw [hx] at this; exact this
    have HI : ∀ j k, (h : j < init.length) → k < 5 → w.cell? ⟨q, j * 5 + k, none⟩ = (init[j].cells)[k]? := fun j k hj hk => by
      have := at_.cell j k (by simp; omega) hk
      rwa [List.getElem_append_left hj] at this
    have HI := Lib.hid HI
    have HA := Lib.hid at_
    have HE := Lib.hid (endedE_snoc init x)
    have hlen : (init ++ [x]).length = init.length + 1 := by simp
    rw [hlen] at h ⊢
    have h2 := h.cell 2
    have hpl : p < w.heap.size := Blk.lt h
    have hql : q < w.heap.size := at_.lt
    have hcap : init.length + 1 ≤ cap := by have := at_.le; simp at this; omega
    have H := Lib.hid h
    clear h hl at_ hlt hx hlen
    generalize endedE (init ++ [x]) = E at *
    go_enter Tryd.func26, Tryd.ntmps26
    have hb : init.length ≤ 39 := by simp at hn; omega
    clear hn
    cases hr : x.root.toList.isEmpty with
    | true =>
      rw [hr, Bool.true_or, if_pos rfl] at HE
      go_wp2_with (fail)
      refine (wrong_set _ p c s _ hv wh (H.out.alloc _) _ _).mono ?_
      rintro e w1 ⟨rfl, hr1, hf1⟩
      have HR1 := Lib.hid hr1
      have HF1 := Lib.hid hf1
      clear hr1 hf1
      go_wp2_with (fail)
      refine bodyPost_ret (results_none rfl _ _ _) rfl ?_
      exact EndPost.bad HE.out (by simp) HR1.out (((Fr.refl (· = p) w).alloc _).same HF1.out)
    | false =>
      rw [hr, Bool.false_or] at HE
      have tail : (x.rev.toList.isEmpty && x.version.toList.isEmpty) = false → True := fun _ => trivial
      clear tail
      have HB0 := Lib.hid (contains_calls (w.alloc (.cells x.arr 31)) w.heap.size q cap x init (Blk.new w _ _) (fun j k hj hk => by
        have h1 := HI.out j k hj hk
        have h2 : (init[j].cells)[k]? ≠ none := by
          have : k < (init[j].cells).length := hk
          simp [this]
        rw [← h1]
        exact World.cell?_alloc_past _ _ _ hql) (by omega))
      cases hw : x.rev.toList.isEmpty with
      | true =>
        cases hy : x.version.toList.isEmpty with
        | true =>
          rw [hw, hy, Bool.true_and, if_pos rfl] at HE
          go_wp2_with (fail)
          refine (wrong_set _ p c s _ hv wh (H.out.alloc _) _ _).mono ?_
          rintro e w1 ⟨rfl, hr1, hf1⟩
          have HR1 := Lib.hid hr1
          have HF1 := Lib.hid hf1
          clear hr1 hf1
          go_wp2_with (fail)
          refine bodyPost_ret (results_none rfl _ _ _) rfl ?_
          exact EndPost.bad HE.out (by simp) HR1.out (((Fr.refl (· = p) w).alloc _).same HF1.out)
        | false =>
          rw [hw, hy, Bool.true_and, if_neg (by simp)] at HE
          go_wp2_with (fail)
          refine HB0.out.mono ?_
          rintro e w1 ⟨rfl, hb1⟩
          have hr1 := (H.out.alloc (.cells x.arr 31)).below hb1
          have HF1 := Lib.hid (((Fr.refl (· = p) w).alloc (.cells x.arr 31)).same (Fr.of_below hb1))
          have HR1 := Lib.hid hr1
          clear hb1 hr1
          cases ha : init.any (fun z => z.root.toList == x.root.toList) with
          | true =>
            rw [ha, if_pos rfl] at HE
            go_wp2_with (fail)
            refine (wrong_set _ p c s _ hv wh HR1.out _ _).mono ?_
            rintro e w2 ⟨rfl, hr2, hf2⟩
            have HR2 := Lib.hid hr2
            have HF2 := Lib.hid hf2
            clear hr2 hf2
            go_wp2_with (fail)
            refine bodyPost_ret (results_none rfl _ _ _) rfl ?_
            exact EndPost.bad HE.out (by simp) HR2.out (HF1.out.same HF2.out)
          | false =>
            rw [ha, if_neg (by simp)] at HE
            go_wp2_with (fail)
            refine bodyPost_ret (results_none rfl _ _ _) rfl ?_
            exact EndPost.good HE.out HR1.out HF1.out
      | false =>
        rw [hw, Bool.false_and, if_neg (by simp)] at HE
        go_wp2_with (fail)
        refine HB0.out.mono ?_
        rintro e w1 ⟨rfl, hb1⟩
        have hr1 := (H.out.alloc (.cells x.arr 31)).below hb1
        have HF1 := Lib.hid (((Fr.refl (· = p) w).alloc (.cells x.arr 31)).same (Fr.of_below hb1))
        have HR1 := Lib.hid hr1
        clear hb1 hr1
        cases ha : init.any (fun z => z.root.toList == x.root.toList) with
        | true =>
          rw [ha, if_pos rfl] at HE
          go_wp2_with (fail)
          refine (wrong_set _ p c s _ hv wh HR1.out _ _).mono ?_
          rintro e w2 ⟨rfl, hr2, hf2⟩
          have HR2 := Lib.hid hr2
          have HF2 := Lib.hid hf2
          clear hr2 hf2
          go_wp2_with (fail)
          refine bodyPost_ret (results_none rfl _ _ _) rfl ?_
          exact EndPost.bad HE.out (by simp) HR2.out (HF1.out.same HF2.out)
        | false =>
          rw [ha, if_neg (by simp)] at HE
          go_wp2_with (fail)
          refine bodyPost_ret (results_none rfl _ _ _) rfl ?_
          exact EndPost.good HE.out HR1.out HF1.out
end
end Go.Proofs.YtljfcdfdedkajaaDoor.Q
