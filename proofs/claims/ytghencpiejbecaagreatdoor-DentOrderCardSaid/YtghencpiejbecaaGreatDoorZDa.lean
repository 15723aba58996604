import Derived.Test.YtghencpiejbecaaGreatDoorZUnq
import Derived.Test.YtghencpiejbecaaGreatDoorZPath
import Derived.RegionTactic
import Derived.BigRegion
import Derived.Deep.RegionLaw
set_option linter.unusedVariables false
set_option linter.unusedSimpArgs false
namespace Go.Proofs.YtghencpiejbecaaGreatDoor.Q
open Go.RowKit Go.Proofs.YtghencpiejbecaaGreatDoorW.PrintWords
def plainB (b : UInt8) : Bool := b == 9 || b == 10 || (32 ≤ b && b ≤ 126)
def plainI (x : Int) : Bool := x == 9 || x == 10 || (decide (32 ≤ x) && decide (x ≤ 126))
theorem plain_int (c : UInt8) : plainI (c.toNat : Int) = plainB c := by
  unfold plainI plainB
  rw [Bool.eq_iff_iff]
  simp only [Bool.or_eq_true, Bool.and_eq_true, decide_eq_true_eq, beq_iff_eq, UInt8.le_iff_toNat_le, ← UInt8.toNat_inj]
  simp only [show (9 : UInt8).toNat = 9 from rfl, show (10 : UInt8).toNat = 10 from rfl, show (32 : UInt8).toNat = 32 from rfl, show (126 : UInt8).toNat = 126 from rfl]
  omega
theorem plain_f (x : Int) : R.text_plain.f x = some (plainI x) := by
  unfold R.text_plain.f plainI
  split
  · rename_i h; subst h; rfl
  split
  · rename_i h; subst h; rfl
  rename_i h1 h2
  have e1 : (x == 9) = false := by simpa using h1
  have e2 : (x == 10) = false := by simpa using h2
  rw [e1, e2]
  split
  · rename_i h3; rw [decide_eq_true (by omega : 32 ≤ x)]; simp
  · rename_i h3; rw [decide_eq_false (by omega : ¬ 32 ≤ x)]; simp
theorem plain_at (s : ByteArray) (hs : s.size ≤ 140737488351232) : ∀ (d k i : Nat), s.size = i + d → d < k → R.text_Plain.l0 k s (s.size : Int) (i : Int) = some ((s.data.toList.drop i).all plainB)
  | 0, k, i, hd, hk => by
    obtain ⟨k, rfl⟩ : ∃ m, k = m + 1 := ⟨k - 1, by omega⟩
    simp only [R.text_Plain.l0]
    rw [if_neg (by omega), List.drop_eq_nil_of_le (by simp; omega)]
    rfl
  | d + 1, k, i, hd, hk => by
    obtain ⟨k, rfl⟩ : ∃ m, k = m + 1 := ⟨k - 1, by omega⟩
    have hi : i < s.size := by omega
    simp only [R.text_Plain.l0]
    rw [if_pos (by omega), if_pos (by omega), if_pos (by omega), plain_f, drop_at s i hi, List.all_cons, bt_at' s i hi, plain_int]
    have hw : wrap64 ((i : Int) + 1) = ((i + 1 : Nat) : Int) := by unfold wrap64; omega
    rw [hw]
    cases plainB s[i] with
    | true => simpa using plain_at s hs d k (i + 1) (by omega) (by omega)
    | false => simp
def wordRoot : ByteArray := ⟨#[114, 111, 111, 116]⟩
def wordVersion : ByteArray := ⟨#[118, 101, 114, 115, 105, 111, 110]⟩
def wordRev : ByteArray := ⟨#[114, 101, 118, 105, 115, 105, 111, 110]⟩
def wordWithin : ByteArray := ⟨#[119, 105, 116, 104, 105, 110]⟩
def wordSource : ByteArray := ⟨#[115, 111, 117, 114, 99, 101]⟩
def KeysPost (w : World) (q o : Nat) (e : Ending) (w' : World) : Prop :=
  ∃ b1 b2 : Nat, e = .returned (.tuple #[.slice (some ⟨b1, 0, none⟩) 5 5, .slice (some ⟨b2, 0, none⟩) 5 5]) ∧ w.heap.size ≤ b1 ∧ w.heap.size ≤ b2 ∧ b1 ≠ b2
    ∧ Blk w' b1 9 #[.string wordRoot, .string wordVersion, .string wordRev, .string wordWithin, .string wordSource]
    ∧ Blk w' b2 56 #[.pointer (some ⟨q, o, none⟩), .pointer (some ⟨q, o + 1, none⟩), .pointer (some ⟨q, o + 2, none⟩), .pointer (some ⟨q, o + 3, none⟩), .pointer (some ⟨q, o + 4, none⟩)]
    ∧ Below w.heap.size w w'
theorem Blk.new2 (w : World) (o : Obj) (t : TypeId) (cs : Array Value) : Blk ((w.alloc o).alloc (.cells cs t)) (w.heap.size + 1) t cs := by
  have h := Blk.new (w.alloc o) t cs
  have e : (w.alloc o).heap.size = w.heap.size + 1 := by simp
  rwa [e] at h
theorem Below.alloc2 (w : World) (o o' : Obj) : Below w.heap.size w ((w.alloc o).alloc o') :=
  (((Fr.refl (fun _ => False) w).alloc o).alloc o').below (Nat.le_refl _) (fun _ h => h.elim)
section
variable (w : World)
set_option maxHeartbeats 1000000 in
set_option maxRecDepth 100000 in
theorem fields_calls (q o : Nat) : Calls Tryz.prog 23 #[.pointer (some ⟨q, o, none⟩)] w (KeysPost w q o) := by
  go_enter Tryz.func23, Tryz.ntmps23
  go_wp2_with (fail)
  go_region
  all_goals (go_wp2_with (fail))
  all_goals go_ret2
  · refine ⟨_, _, rfl, Nat.le_refl _, by omega, by omega, (Blk.new w _ _).alloc _, Blk.new2 w _ _ _, ?_⟩
    exact below_drew (Below.alloc2 w _ _)
  · refine ⟨_, _, rfl, by omega, Nat.le_refl _, by omega, Blk.new2 w _ _ _, (Blk.new w _ _).alloc _, ?_⟩
    exact below_drew (Below.alloc2 w _ _)
end
structure Lk where
  root : ByteArray
  version : ByteArray
  rev : ByteArray
  within : ByteArray
  source : ByteArray
def Lk.cells (x : Lk) : List Value := [.string x.root, .string x.version, .string x.rev, .string x.within, .string x.source]
def lkCells (l : List Lk) : List Value := l.flatMap Lk.cells
theorem lkCells_length (l : List Lk) : (lkCells l).length = l.length * 5 := by
  induction l with
  | nil => rfl
  | cons x l ih => simp only [lkCells, List.flatMap_cons, List.length_append, List.length_cons] at ih ⊢; rw [ih]; simp only [Lk.cells, List.length_cons, List.length_nil]; omega
theorem lkCells_append (l m : List Lk) : lkCells (l ++ m) = lkCells l ++ lkCells m := by simp [lkCells]
theorem lkCells_get (l : List Lk) (j k : Nat) (hj : j < l.length) (hk : k < 5) : (lkCells l)[j * 5 + k]? = (l[j].cells)[k]? := by
  induction l generalizing j with
  | nil => simp at hj
  | cons x l ih =>
    have e : lkCells (x :: l) = x.cells ++ lkCells l := by simp [lkCells]
    have hx : x.cells.length = 5 := rfl
    rw [e]
    cases j with
    | zero =>
      rw [List.getElem?_append_left (by omega)]
      simp
    | succ j =>
      rw [List.getElem?_append_right (by omega), hx]
      have : (j + 1) * 5 + k - 5 = j * 5 + k := by omega
      rw [this, ih j (by simpa using hj)]
      simp
def Ls (w : World) (base : Nat) (lv : Value) (l : List Lk) : Prop := w.ownsRow base 43 5 lv l.length (lkCells l)
theorem Ls.nil (w : World) (base : Nat) : Ls w base (.slice none 0 0) [] := own_nil w base _ 5
structure LsAt (w : World) (base q cap : Nat) (l : List Lk) : Prop where
  le : l.length ≤ cap
  capLe : cap ≤ 9223372036854775807
  base : base ≤ q
  lt : q < w.heap.size
  cell : ∀ j k, (h : j < l.length) → k < 5 → w.cell? ⟨q, j * 5 + k, none⟩ = (l[j].cells)[k]?
  blk : ∃ cs, w.heap[q]? = some (.cells cs 43 (0, 0)) ∧ cs.size = cap * 5 ∧ cs.toList.take (l.length * 5) = lkCells l
theorem Ls.at_ {w : World} {base : Nat} {lv : Value} {l : List Lk} (h : Ls w base lv l) (hl : l ≠ []) : ∃ q cap, lv = .slice (some ⟨q, 0, none⟩) l.length cap ∧ LsAt w base q cap l := by
  obtain ⟨_, h2⟩ := h
  rcases h2 with ⟨_, h2⟩ | ⟨q, cap, cs, rfl, hb, hh, hle, hcap, hs, ht⟩
  · exact absurd (List.eq_nil_of_length_eq_zero h2) hl
  · refine ⟨q, cap, rfl, hle, hcap, hb, ?_, ?_, cs, hh, hs, ht⟩
    · exact (Array.getElem?_eq_some_iff.1 hh).1
    · intro j k hj hk
      have e := lkCells_get l j k hj hk
      rw [← ht, List.getElem?_take, if_pos (by omega), Array.getElem?_toList] at e
      simp only [World.cell?, hh]
      exact e
section
variable (w : World)
def Lk.arr (x : Lk) : Array Value := #[.string x.root, .string x.version, .string x.rev, .string x.within, .string x.source]
theorem same_calls (b : Nat) (x y : Lk) (hx : Blk w b 43 x.arr) :
    Calls Tryz.prog 66 #[.agg y.arr, .pointer (some ⟨b, 0, none⟩)] w fun e w' => e = .returned (.bool (y.root.toList == x.root.toList)) ∧ Below w.heap.size w w' := by
  have h0 : (w.alloc (.cells y.arr 43)).cell? ⟨b, 0, none⟩ = some (.string x.root) := (hx.alloc _).cell 0
  have h1 : (w.alloc (.cells y.arr 43)).cell? ⟨w.heap.size, 0, none⟩ = some (.string y.root) := (Blk.new w _ _).cell 0
  generalize hW : y.arr = Y at *
  go_enter Tryz.func66, Tryz.ntmps66
  go_wp2_with (fail)
  go_ret
  exact ⟨rfl, (Below.refl _ w).alloc (Nat.le_refl _) _⟩
theorem index_calls (b q c : Nat) (x : Lk) (l : List Lk) (hx : Blk w b 43 x.arr)
   (hl : ∀ j k, (h : j < l.length) → k < 5 → w.cell? ⟨q, j * 5 + k, none⟩ = (l[j].cells)[k]?) (hb : l.length ≤ 40) :
    Calls Tryz.prog 96 #[.slice (some ⟨q, 0, none⟩) l.length c, .func (.func 66) #[] #[.pointer (some ⟨b, 0, none⟩)]] w
      fun e w' => ∃ r : Int, e = .returned (.int .i64 r) ∧ (0 ≤ r ↔ l.any (fun y => y.root.toList == x.root.toList) = true) ∧ Below w.heap.size w w' := by
  go_enter Tryz.func96, Tryz.ntmps96
  go_wp2_with (fail)
  have HX := Lib.hid hx
  have HL := Lib.hid hl
  clear hx hl
  go_loopg [5, 8] (l.length) (fun q' _ i wr => ∃ j : Nat, q' = l.length - j ∧ j ≤ l.length ∧ i = .int .i64 j ∧ (l.take j).any (fun y => y.root.toList == x.root.toList) = false ∧ Below w.heap.size w wr)
  case atStart => exact ⟨0, by omega, Nat.zero_le _, rfl, rfl, Below.refl _ _⟩
  case round =>
    obtain ⟨j, rfl, hj, rfl, he, hbl⟩ := hrel
    have HE := Lib.hid he
    have HBL := Lib.hid hbl
    clear he hbl
    by_cases hlt : j < l.length
    · have c0 : wr.cell? ⟨q, j * 5, none⟩ = some (.string l[j].root) := pw_cell_below HBL.out (HL.out j 0 hlt (by omega))
      have c1 : wr.cell? ⟨q, j * 5 + 1, none⟩ = some (.string l[j].version) := pw_cell_below HBL.out (HL.out j 1 hlt (by omega))
      have c2 : wr.cell? ⟨q, j * 5 + 2, none⟩ = some (.string l[j].rev) := pw_cell_below HBL.out (HL.out j 2 hlt (by omega))
      have c3 : wr.cell? ⟨q, j * 5 + 3, none⟩ = some (.string l[j].within) := pw_cell_below HBL.out (HL.out j 3 hlt (by omega))
      have c4 : wr.cell? ⟨q, j * 5 + 4, none⟩ = some (.string l[j].source) := pw_cell_below HBL.out (HL.out j 4 hlt (by omega))
      have HT := Lib.hid (List.take_succ_eq_append_getElem hlt)
      generalize hy : l[j] = y at *
      go_wp2_with (fail)
      refine (same_calls wr b x y (HX.out.below HBL.out)).mono ?_
      rintro e w1 ⟨rfl, hb1⟩
      have HB1 := Lib.hid hb1
      clear hb1
      cases hq : (y.root.toList == x.root.toList) with
      | true =>
        have HQ := Lib.hid hq
        clear hq
        go_wp2_with (fail)
        go_ret
        refine ⟨_, rfl, ?_, below_then HBL.out HBL.out.size HB1.out⟩
        simp only [Int.natCast_nonneg, true_iff, List.any_eq_true]
        exact ⟨l[j], List.getElem_mem hlt, by rw [hy]; exact HQ.out⟩
      | false =>
        have HQ := Lib.hid hq
        clear hq
        go_wp2_with (fail)
        go_roundg (l.length - (j + 1))
        case measure => omega
        case rel =>
          refine ⟨j + 1, rfl, by omega, rfl, ?_, below_then HBL.out HBL.out.size HB1.out⟩
          rw [HT.out, List.any_append, HE.out]
          simp only [List.any_cons, List.any_nil, HQ.out, Bool.or_false]
    · have he := HE.out
      rw [List.take_of_length_le (by omega)] at he
      have HE2 := Lib.hid he
      clear he
      go_wp2_with (fail)
      go_ret
      refine ⟨_, rfl, ?_, HBL.out⟩
      rw [HE2.out]
      simp
theorem contains_calls (b q c : Nat) (x : Lk) (l : List Lk) (hx : Blk w b 43 x.arr)
   (hl : ∀ j k, (h : j < l.length) → k < 5 → w.cell? ⟨q, j * 5 + k, none⟩ = (l[j].cells)[k]?) (hb : l.length ≤ 40) :
    Calls Tryz.prog 65 #[.slice (some ⟨q, 0, none⟩) l.length c, .func (.func 66) #[] #[.pointer (some ⟨b, 0, none⟩)]] w
      fun e w' => e = .returned (.bool (l.any (fun y => y.root.toList == x.root.toList))) ∧ Below w.heap.size w w' := by
  have HC := Lib.hid (index_calls w b q c x l hx hl hb)
  clear hx hl
  go_enter Tryz.func65, Tryz.ntmps65
  go_wp2_with (fail)
  refine HC.out.mono ?_
  rintro e w1 ⟨r, rfl, hr, hb1⟩
  have HR := Lib.hid hr
  have HB := Lib.hid hb1
  clear hr hb1
  go_wp2_with (fail)
  go_ret
  refine ⟨?_, HB.out⟩
  cases ha : (l.any (fun y => y.root.toList == x.root.toList)) with
  | true =>
    have : 0 ≤ r := HR.out.2 ha
    simp [this]
  | false =>
    have : ¬ 0 ≤ r := fun h => by rw [HR.out.1 h] at ha; cases ha
    simp [this]
def endedE : List Lk → Int
  | [] => 0
  | y :: m =>
    let x := (y :: m).getLast (by simp)
    if x.root.toList.isEmpty || (x.rev.toList.isEmpty && x.version.toList.isEmpty) then 1
    else if (y :: m).dropLast.any (fun z => z.root.toList == x.root.toList) then 4 else 0
theorem endedE_snoc (init : List Lk) (x : Lk) : endedE (init ++ [x]) = if x.root.toList.isEmpty || (x.rev.toList.isEmpty && x.version.toList.isEmpty) then 1
    else if init.any (fun z => z.root.toList == x.root.toList) then 4 else 0 := by
  cases h : init ++ [x] with
  | nil => simp at h
  | cons y m =>
    simp only [endedE, ← h, List.getLast_append, List.dropLast_concat]
    simp
theorem Ls.keep {w w' : World} {base : Nat} {lv : Value} {l : List Lk} {S : Nat → Prop} (h : Ls w base lv l) (hf : Fr S w w') (hS : ∀ k cs, S k → w.heap[k]? ≠ some (.cells cs 43 (0, 0))) : Ls w' base lv l :=
  own_move h (fun k hk => by
    obtain ⟨cells, hc⟩ := own_typed h k hk
    exact hf.block k (Array.getElem?_eq_some_iff.1 hc).1 (fun hk' => hS k cells hk' hc))
theorem Blk.ty {w : World} {p : Nat} {t : TypeId} {cs : Array Value} (h : Blk w p t cs) (ht : t ≠ 43) : ∀ k cs', k = p → w.heap[k]? ≠ some (.cells cs' 43 (0, 0)) := by
  rintro k cs' rfl hk
  unfold Blk at h
  rw [h] at hk
  injection hk with hk
  injection hk with _ hk
  exact ht hk
end
def Lk.zero : Lk := ⟨⟨#[]⟩, ⟨#[]⟩, ⟨#[]⟩, ⟨#[]⟩, ⟨#[]⟩⟩
theorem Lk.one : ∀ u ∈ Lk.zero.cells, u.oneCell' = true := by
  intro u hu
  simp only [Lk.cells, List.mem_cons, List.not_mem_nil, or_false] at hu
  rcases hu with rfl | rfl | rfl | rfl | rfl <;> rfl
theorem Ls.snoc {w : World} {base : Nat} {v : Value} {l : List Lk} {x : Lk} (h : w.ownsRow base 43 5 v (l.length + 1) (lkCells l ++ x.cells)) : Ls w base v (l ++ [x]) := by
  unfold Ls
  rw [List.length_append, lkCells_append]
  simpa [lkCells] using h
theorem info39 : (Tryz.prog.info? 43).map (fun i => (i.zero, i.size, i.bytes)) = some (some (.agg #[(.string ⟨#[]⟩), (.string ⟨#[]⟩), (.string ⟨#[]⟩), (.string ⟨#[]⟩), (.string ⟨#[]⟩)]), 5, 80) := by kernel_rfl
def Lk.set (x : Lk) (k : Nat) (v : ByteArray) : Lk :=
  match k with
  | 0 => { x with root := v }
  | 1 => { x with version := v }
  | 2 => { x with rev := v }
  | 3 => { x with within := v }
  | _ => { x with source := v }
theorem Lk.set_cells (x : Lk) (k : Nat) (hk : k < 5) (v : ByteArray) : (x.set k v).cells = x.cells.set k (.string v) := by
  rcases k with _ | _ | _ | _ | _ | k
  all_goals first | rfl | omega
theorem lkCells_set (l : List Lk) (x : Lk) (k : Nat) (hk : k < 5) (v : ByteArray) : (lkCells (l ++ [x])).set (l.length * 5 + k) (.string v) = lkCells (l ++ [x.set k v]) := by
  have h1 : ∀ y : Lk, lkCells [y] = y.cells := fun y => by simp [lkCells]
  rw [lkCells_append, lkCells_append, h1, h1, Lk.set_cells x k hk]
  have hl := lkCells_length l
  rw [List.set_append_right _ _ (by omega)]
  congr 2
  omega
theorem Ls.put {w : World} {base q c : Nat} {l : List Lk} {x : Lk} (h : Ls w base (.slice (some ⟨q, 0, none⟩) (l.length + 1) c) (l ++ [x])) (k : Nat) (hk : k < 5) (v : ByteArray) :
    Ls (w.setCell ⟨q, l.length * 5 + k, none⟩ (.string v)) base (.slice (some ⟨q, 0, none⟩) (l.length + 1) c) (l ++ [x.set k v]) := by
  obtain ⟨h1, h2⟩ := h
  refine ⟨by rw [lkCells_length], .inr ?_⟩
  rcases h2 with ⟨h2, _⟩ | ⟨g, cap, cs, he, hb, hh, hle, hcap, hs, ht⟩
  · cases h2
  · injection he with he1 he2 he3
    injection he1 with he1
    injection he1 with he1
    subst he1 he3
    refine ⟨q, c, cs.setIfInBounds (l.length * 5 + k) (.string v), by simp, hb, blk_set hh _ _, by simpa using hle, hcap, by simpa using hs, ?_⟩
    rw [Array.toList_setIfInBounds, ← lkCells_set l x k hk v, ← ht]
    simp only [List.length_append, List.length_cons, List.length_nil]
    rw [List.take_set]
def names : List ByteArray := [wordRoot, wordVersion, wordRev, wordWithin, wordSource]
def needsPath (word : ByteArray) : Bool := word.toList == [114, 111, 111, 116] || word.toList == [115, 111, 117, 114, 99, 101]
end Go.Proofs.YtghencpiejbecaaGreatDoor.Q
