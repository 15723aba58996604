import Derived.Test.YtljfcdfdedkajaaDoorZTc
import Derived.Test.YtljfcdfdedkajaaDoorZShelf
import Derived.Lib.UnsafeStr
import Derived.Laws.Externs
import Derived.Test.YtljfcdfdedkajaaDoorZQuoteg
import Derived.Test.YtljfcdfdedkajaaDoorZQ2g
set_option linter.unusedVariables false
set_option linter.unusedSimpArgs false
section
namespace Go.Proofs.YtljfcdfdedkajaaDoor.Q
open Go.RowKit Go.Proofs.YtljfcdfdedkajaaDoorW.PrintWords
section
variable (w : World)
set_option maxRecDepth 100000 in
theorem check_used (b : Nat) (v : Value) (h : Blk w b 71 #[.pointer (some ⟨b, 0, none⟩), v]) :
    Calls Tryd.prog 63 #[.pointer (some ⟨b, 0, none⟩)] w fun e w' => e = .returned (.tuple #[]) ∧ w = w' := by
  obtain ⟨j, hj, hjs⟩ := Option.map_eq_some_iff.1 (show (Tryd.prog.info? 71).map (·.size) = some 2 by kernel_rfl)
  have h0 := h.cell 0
  go_enter Tryd.func63, Tryd.ntmps63
  go_wp2_with (fail)
  rw [Lib.run_neq_ptr_same w _ Tryd.underlying69 hj]
  go_wp2_with (fail)
  go_end0
  exact ⟨rfl, rfl⟩
set_option maxRecDepth 100000 in
theorem check_new (b : Nat) (v : Value) (h : Blk w b 71 #[.pointer none, v]) :
    Calls Tryd.prog 63 #[.pointer (some ⟨b, 0, none⟩)] w fun e w' => e = .returned (.tuple #[]) ∧ w' = w.setCell ⟨b, 0, none⟩ (.pointer (some ⟨b, 0, none⟩)) := by
  obtain ⟨j, hj, hjs⟩ := Option.map_eq_some_iff.1 (show (Tryd.prog.info? 71).map (·.size) = some 2 by kernel_rfl)
  have h0 := h.cell 0
  have f0 := h.unfrozen 0
  have hsh : w.shape? b = some (71, 2) := by unfold Blk at h; simp [World.shape?, h]
  have h1 : (w.setCell ⟨b, 0, none⟩ (.pointer (some ⟨b, 0, none⟩))).cell? ⟨b, 0, none⟩ = some (.pointer (some ⟨b, 0, none⟩)) := (h.put 0 _).cell 0
  go_enter Tryd.func63, Tryd.ntmps63
  go_wp2_with (fail)
  rw [Lib.run_to_unsafe w ⟨b, 0, none⟩ Tryd.underlying69 Tryd.underlying113 hj (by rw [hjs]; decide) hsh (Nat.zero_lt_succ 1)]
  simp only [Result.andThen]
  rw [Oper.upon_value]
  go_wp2_with (fail)
  rw [run_callFunc_extern Tryd.func83 (by kernel_rfl) (by kernel_rfl) (by kernel_rfl) (e := Extern.AbiNoEscape.same) (by kernel_rfl)]
  rw [Lib.run_noEscape]
  simp only [Result.andThen]
  rw [Oper.upon_value]
  go_wp2_with (fail)
  rw [Lib.run_from_unsafe w ⟨b, 0, none⟩ Tryd.underlying113 Tryd.underlying69 hj hsh (by kernel_rfl)]
  simp only [Result.andThen]
  rw [Oper.upon_value]
  go_wp2_with (fail)
  go_end0
  exact ⟨rfl, rfl⟩
def Bd (w : World) (base b : Nat) (acc : List UInt8) : Prop :=
  ∃ (p : Option Addr) (v : Value), (p = none ∨ p = some ⟨b, 0, none⟩) ∧ Blk w b 71 #[.pointer p, v] ∧ w.ownsRow base 5 1 v acc.length (nums .u8 (acc.map fun x => (x.toNat : Int)))
def BdS (w : World) (base b k : Nat) : Prop := k = b ∨ base ≤ k ∧ ∃ cs, w.heap[k]? = some (.cells cs 5 (0, 0))
theorem infoB : (Tryd.prog.info? 5).map (fun i => (i.zero, i.size, i.bytes)) = some (some (.int .u8 0), 1, 1) := by kernel_rfl
theorem check_any (b : Nat) (p : Option Addr) (v : Value) (hp : p = none ∨ p = some ⟨b, 0, none⟩) (h : Blk w b 71 #[.pointer p, v]) :
    Calls Tryd.prog 63 #[.pointer (some ⟨b, 0, none⟩)] w fun e w' => e = .returned (.tuple #[]) ∧ Blk w' b 71 #[.pointer (some ⟨b, 0, none⟩), v] ∧ Fr (· = b) w w' := by
  rcases hp with rfl | rfl
  · refine (check_new w b v h).mono ?_
    rintro e w1 ⟨rfl, rfl⟩
    exact ⟨rfl, h.put 0 _, (Fr.refl (· = b) w).put (.inl rfl) _⟩
  · refine (check_used w b v h).mono ?_
    rintro e w1 ⟨rfl, rfl⟩
    exact ⟨rfl, h, Fr.refl _ _⟩
theorem own_fr {w w' : World} {base n size : Nat} {e : TypeId} {v : Value} {xs : List Value} {S : Nat → Prop} (h : w.ownsRow base e size v n xs) (hf : Fr S w w') (hS : ∀ k cs, S k → w.heap[k]? ≠ some (.cells cs e (0, 0))) : w'.ownsRow base e size v n xs :=
  own_move h (fun k hk => by
    obtain ⟨cells, hc⟩ := own_typed h k hk
    exact hf.block k (Array.getElem?_eq_some_iff.1 hc).1 (fun hk' => hS k cells hk' hc))
theorem Blk.other {w : World} {p : Nat} {t : TypeId} {cs : Array Value} (h : Blk w p t cs) {t' : TypeId} (ht : t ≠ t') : ∀ k cs', k = p → w.heap[k]? ≠ some (.cells cs' t' (0, 0)) := by
  rintro k cs' rfl hk
  unfold Blk at h
  rw [h] at hk
  injection hk with hk
  injection hk with _ hk
  exact ht hk
set_option maxHeartbeats 1000000 in
set_option maxRecDepth 100000 in
theorem write_calls (base b : Nat) (acc : List UInt8) (y : ByteArray) (h : Bd w base b acc) (hbb : base ≤ b) (hlen : acc.length + y.size ≤ 140737488355328) :
    Calls Tryd.prog 35 #[.pointer (some ⟨b, 0, none⟩), .string y] w fun e w' => e = .returned (.tuple #[.int .i64 y.size, .nilIface]) ∧ Bd w' base b (acc ++ y.data.toList) ∧ Fr (BdS w base b) w w' := by
  obtain ⟨p, v, hp, h, ho⟩ := h
  have H := Lib.hid h
  have HO := Lib.hid ho
  have hbs : base ≤ w.heap.size := Nat.le_trans hbb (Nat.le_of_lt h.lt)
  have HL := Lib.hid hlen
  have HBS := Lib.hid hbs
  clear h ho hlen hbs
  go_enter Tryd.func35, Tryd.ntmps35
  go_wp2_with (fail)
  refine (check_any w b p v hp H.out).mono ?_
  rintro e w1 ⟨rfl, hk1, hf1⟩
  have h1 := hk1.cell 1
  have HO1 := Lib.hid (own_fr HO.out hf1 (H.out.other (by decide)))
  have HK1 := Lib.hid hk1
  have HF1 := Lib.hid hf1
  have HBS1 := Lib.hid (Nat.le_trans HBS.out hf1.size)
  clear hk1 hf1
  go_wp2_with (first | (at_builtin; refine print_append_str (w0 := w1) base rfl (.tmp 12) _ 23 9 5 rfl Tryd.underlying23 Tryd.underlying9 infoB v (acc.map fun x => (x.toNat : Int)) y rfl rfl ?aO (Below.refl _ _) HBS1.out ?aL ?next))
  case aO => rw [List.length_map]; exact HO1.out
  case aL => rw [List.length_map]; exact HL.out
  case next =>
    intro v1 w2 ho2 hb2 hg2
    obtain ⟨A2, c2, rfl⟩ := own_slice ho2
    have hk : Blk w2 b _ _ := blk_grown HK1.out hg2 (fun hk => by
      obtain ⟨cells, hc⟩ := own_typed HO1.out b hk.symm
      exact HK1.out.other (by decide) b cells rfl hc)
    have k1 := hk.cell 1
    have u1 := hk.unfrozen 1
    have HK := Lib.hid hk
    have HO2 := Lib.hid ho2
    have HF2 := Lib.hid (((HF1.out.mono (S' := BdS w base b) (fun k hk => .inl hk)).trans (S2 := BdS w base b) ((Fr.refl (BdS w base b) w1).grown hg2 (fun k hk => by
      obtain ⟨cells, hc⟩ := own_typed HO.out k hk
      exact .inl (.inr ⟨own_base HO.out k hk, cells, hc⟩))) (fun k hk => .inl hk)))
    clear hk ho2 hb2 hg2
    go_wp2_with (fail)
    go_ret2
    refine ⟨rfl, ⟨some ⟨b, 0, none⟩, _, .inr rfl, HK.out.put 1 _, ?_⟩, HF2.out.put (p := ⟨b, 1, none⟩) (.inl (.inl rfl)) _⟩
    have hm : (acc.map fun x => (x.toNat : Int)) ++ bytesOf y = ((acc ++ y.data.toList).map fun x => (x.toNat : Int)) := by rw [List.map_append]; rfl
    have := HO2.out
    have hz : acc.length + (bytesOf y).length = (acc ++ y.data.toList).length := by rw [List.length_append, bytesOf, List.length_map]
    rw [hm] at this
    rw [hz] at this ⊢
    exact own_setCell this (by
      intro hk
      obtain ⟨cells, hc⟩ := own_typed this b hk.symm
      exact HK.out.other (by decide) b cells rfl hc) _
end
end Go.Proofs.YtljfcdfdedkajaaDoor.Q
end
section
namespace Go.Proofs.YtljfcdfdedkajaaDoor.Q
open Go.RowKit Go.Proofs.YtljfcdfdedkajaaDoorW.PrintWords
def fieldText (k v : List UInt8) : List UInt8 := if v.isEmpty = true then [] else k ++ ([32, 61, 32] ++ (R.quoteL v ++ [10]))
def headText : List UInt8 := [91, 91, 108, 111, 99, 107, 93, 93, 10]
def lockText (x : Lk) : List UInt8 :=
  headText ++ (fieldText wordRoot.data.toList x.root.data.toList ++ (fieldText wordVersion.data.toList x.version.data.toList ++ (fieldText wordRev.data.toList x.rev.data.toList
    ++ (fieldText wordWithin.data.toList x.within.data.toList ++ fieldText wordSource.data.toList x.source.data.toList))))
def writeText (l : List Lk) : List UInt8 := l.flatMap lockText
def RowAt (w : World) (A : Option Addr) (l : List Lk) : Prop :=
  ∀ j, (h : j < l.length) → ∃ ad, A = some ad ∧ w.cell? (ad.add (j * 5)) = some (.string l[j].root) ∧ w.cell? ⟨(ad.add (j * 5)).block, (ad.add (j * 5)).off + 1, none⟩ = some (.string l[j].version)
    ∧ w.cell? ⟨(ad.add (j * 5)).block, (ad.add (j * 5)).off + 2, none⟩ = some (.string l[j].rev) ∧ w.cell? ⟨(ad.add (j * 5)).block, (ad.add (j * 5)).off + 3, none⟩ = some (.string l[j].within) ∧ w.cell? ⟨(ad.add (j * 5)).block, (ad.add (j * 5)).off + 4, none⟩ = some (.string l[j].source)
def smallLk (x : Lk) : Prop := x.root.size ≤ 1000000 ∧ x.version.size ≤ 1000000 ∧ x.rev.size ≤ 1000000 ∧ x.within.size ≤ 1000000 ∧ x.source.size ≤ 1000000
theorem write_take (l : List Lk) (j : Nat) (h : j < l.length) : writeText (l.take (j + 1)) = writeText (l.take j) ++ lockText l[j] := by
  unfold writeText
  rw [List.take_succ_eq_append_getElem h, List.flatMap_append]
  simp
theorem field_len (k v : ByteArray) (hk : k.size ≤ 10) (hv : v.size ≤ 1000000) : (fieldText k.data.toList v.data.toList).length ≤ 2000020 := by
  have h1 := R.quoteL_length v.data.toList
  have h2 : v.data.toList.length = v.size := data_length v
  have h3 : k.data.toList.length = k.size := data_length k
  unfold fieldText
  split
  · simp
  · simp only [List.length_append, List.length_cons, List.length_nil]
    omega
theorem lock_len (x : Lk) (h : smallLk x) : (lockText x).length ≤ 11000000 := by
  obtain ⟨h0, h1, h2, h3, h4⟩ := h
  have e0 := field_len wordRoot x.root (by decide) h0
  have e1 := field_len wordVersion x.version (by decide) h1
  have e2 := field_len wordRev x.rev (by decide) h2
  have e3 := field_len wordWithin x.within (by decide) h3
  have e4 := field_len wordSource x.source (by decide) h4
  have e5 : headText.length = 9 := rfl
  simp only [lockText, List.length_append]
  omega
theorem write_len : ∀ (l : List Lk), (∀ x ∈ l, smallLk x) → (writeText l).length ≤ l.length * 11000000
  | [], _ => by simp [writeText]
  | x :: l, h => by
    have h1 := lock_len x (h x List.mem_cons_self)
    have h2 := write_len l (fun y hy => h y (List.mem_cons_of_mem _ hy))
    simp only [writeText, List.flatMap_cons, List.length_append, List.length_cons] at h2 ⊢
    omega
theorem Bd.fr {w w' : World} {base b : Nat} {acc : List UInt8} {S : Nat → Prop} (h : Bd w base b acc) (hf : Fr S w w') (hS : ∀ k, S k → k ≠ b ∧ ∀ cs, w.heap[k]? ≠ some (.cells cs 5 (0, 0))) : Bd w' base b acc := by
  obtain ⟨p, v, hp, hk, ho⟩ := h
  exact ⟨p, v, hp, hk.fr hf (fun h => (hS _ h).1 rfl), own_fr ho hf (fun k cs h => (hS k h).2 cs)⟩
theorem BdS.no {w : World} {base b g : Nat} {t : TypeId} {cs : Array Value} (h : Blk w g t cs) (hb : g ≠ b) (ht : t ≠ 5) : ¬ BdS w base b g := by
  rintro (e | ⟨_, cs', hc⟩)
  · exact hb e
  · exact h.other ht g cs' rfl hc
theorem BdS.le {w : World} {base : Nat} : ∀ k, BdS w base base k → base ≤ k := by
  rintro k (e | ⟨h, _⟩)
  · omega
  · exact h
theorem Bd.lt {w : World} {base b : Nat} {acc : List UInt8} (h : Bd w base b acc) : b < w.heap.size := by
  obtain ⟨_, _, _, h, _⟩ := h
  exact h.lt
def fs (x : Lk) : List (ByteArray × ByteArray) := [(wordRoot, x.root), (wordVersion, x.version), (wordRev, x.rev), (wordWithin, x.within), (wordSource, x.source)]
def part (x : Lk) (t : Nat) : List UInt8 := ((fs x).take t).flatMap fun p => fieldText p.1.data.toList p.2.data.toList
theorem part_all (x : Lk) : headText ++ part x 5 = lockText x := by
  simp [part, fs, lockText]
theorem part_next (x : Lk) (t : Nat) (h : t < 5) : ∃ k v : ByteArray, (fs x)[t]? = some (k, v) ∧ k.size ≤ 10 ∧ part x (t + 1) = part x t ++ fieldText k.data.toList v.data.toList := by
  rcases t with _ | _ | _ | _ | _ | t
  · exact ⟨_, _, rfl, by decide, by simp [part, fs]⟩
  · exact ⟨_, _, rfl, by decide, by simp [part, fs]⟩
  · exact ⟨_, _, rfl, by decide, by simp [part, fs]⟩
  · exact ⟨_, _, rfl, by decide, by simp [part, fs]⟩
  · exact ⟨_, _, rfl, by decide, by simp [part, fs]⟩
  · omega
theorem ptr_cell {w : World} {b2 q o : Nat} (h : Blk w b2 80 #[.pointer (some ⟨q, o, none⟩), .pointer (some ⟨q, o + 1, none⟩), .pointer (some ⟨q, o + 2, none⟩), .pointer (some ⟨q, o + 3, none⟩), .pointer (some ⟨q, o + 4, none⟩)])
    (k : Nat) (hk : k < 5) : w.cell? ⟨b2, k, none⟩ = some (.pointer (some ⟨q, o + k, none⟩)) := by
  rw [h.cell k]
  rcases k with _ | _ | _ | _ | _ | k
  all_goals first | rfl | omega
theorem fieldText_nil (k v : ByteArray) (h : v.toList.isEmpty = true) : fieldText k.data.toList v.data.toList = [] := by
  unfold fieldText
  rw [if_pos (by rw [← h, Lib.toList_data])]
theorem fieldText_some (k v : ByteArray) (h : v.toList.isEmpty = false) : fieldText k.data.toList v.data.toList = k.data.toList ++ ([32, 61, 32] ++ (R.quoteL v.data.toList ++ [10])) := by
  unfold fieldText
  rw [if_neg (by rw [← Lib.toList_data, h]; simp)]
theorem part_len {x : Lk} (h : smallLk x) (t : Nat) : (part x t).length ≤ 11000000 := by
  obtain ⟨h0, h1, h2, h3, h4⟩ := h
  have e0 := field_len wordRoot x.root (by decide) h0
  have e1 := field_len wordVersion x.version (by decide) h1
  have e2 := field_len wordRev x.rev (by decide) h2
  have e3 := field_len wordWithin x.within (by decide) h3
  have e4 := field_len wordSource x.source (by decide) h4
  rcases t with _ | _ | _ | _ | _ | t <;> simp [part, fs] <;> omega
theorem name_cell {w : World} {b1 : Nat} (h : Blk w b1 9 #[.string wordRoot, .string wordVersion, .string wordRev, .string wordWithin, .string wordSource]) (x : Lk) (t : Nat) (k v : ByteArray) (hk : (fs x)[t]? = some (k, v)) :
    w.cell? ⟨b1, t, none⟩ = some (.string k) := by
  rw [h.cell t]
  rcases t with _ | _ | _ | _ | _ | t <;> simp [fs] at hk <;> simp [hk.1]
theorem lock_cell {w : World} {b : Nat} {x : Lk} (h : Blk w b 31 x.arr) (t : Nat) (k v : ByteArray) (hk : (fs x)[t]? = some (k, v)) : w.cell? ⟨b, t, none⟩ = some (.string v) := by
  rw [h.cell t]
  unfold Lk.arr
  rcases t with _ | _ | _ | _ | _ | t <;> simp [fs] at hk <;> simp [hk.2]
theorem small_val {x : Lk} (h : smallLk x) (t : Nat) (k v : ByteArray) (hk : (fs x)[t]? = some (k, v)) : v.size ≤ 1000000 := by
  obtain ⟨h0, h1, h2, h3, h4⟩ := h
  rcases t with _ | _ | _ | _ | _ | t <;> simp [fs] at hk <;> (obtain ⟨_, rfl⟩ := hk; assumption)
section
variable (w : World)
set_option maxHeartbeats 2000000 in
set_option maxRecDepth 100000 in
theorem write_all (A : Option Addr) (c : Nat) (l : List Lk) (hr : RowAt w A l) (hl : l.length ≤ 1000) (hz : ∀ x ∈ l, smallLk x) :
    Calls Tryd.prog 17 #[.slice A l.length c] w fun e w' => e = .returned (.string ⟨(writeText l).toArray⟩) ∧ Below w.heap.size w w' := by
  have HR := Lib.hid hr
  have HZ := Lib.hid hz
  clear hr hz
  go_enter Tryd.func17, Tryd.ntmps17
  go_wp2_with (fail)
  go_loopg [12] (l.length) (fun q i wr => ∃ j : Nat, q = l.length - j ∧ j ≤ l.length ∧ i = .int .i64 j ∧ Bd wr w.heap.size w.heap.size (writeText (l.take j)) ∧ Below w.heap.size w wr)
  case atStart => exact ⟨0, rfl, Nat.zero_le _, rfl, ⟨none, .slice none 0 0, .inl rfl, Blk.new w _ _, own_nil _ _ _ 1⟩, (Below.refl _ w).alloc (Nat.le_refl _) _⟩
  case round =>
    obtain ⟨j, rfl, hj, rfl, hbd, hbl⟩ := hrel
    have HBD := Lib.hid hbd
    have HBL := Lib.hid hbl
    clear hbd hbl
    by_cases hlt : j < l.length
    · obtain ⟨ad, rfl, c0, c1, c2, c3, c4⟩ := HR.out j hlt
      have d0 := pw_cell_below HBL.out c0
      have d1 := pw_cell_below HBL.out c1
      have d2 := pw_cell_below HBL.out c2
      have d3 := pw_cell_below HBL.out c3
      have d4 := pw_cell_below HBL.out c4
      have HT := Lib.hid (write_take l j hlt)
      have HS := Lib.hid (HZ.out l[j] (List.getElem_mem hlt))
      have HLN := Lib.hid (write_len (l.take j) (fun x hx => HZ.out x (List.mem_of_mem_take hx)))
      generalize l[j] = x at *
      clear c0 c1 c2 c3 c4
      have hwb : w.heap.size ≤ wr.heap.size := HBL.out.size
      have HWL := Lib.hid (Bd.lt HBD.out)
      have HBD1 := Lib.hid (Bd.fr HBD.out (((Fr.refl (fun _ => False) wr).alloc (.cells x.arr 31))) (fun _ h => h.elim))
      have HX1 := Lib.hid (Blk.new wr 31 x.arr)
      have HBL1 := Lib.hid (HBL.out.alloc hwb (.cells x.arr 31))
      go_wp2_with (fail)
      have hhead : (writeText (l.take j)).length + (⟨#[91, 91, 108, 111, 99, 107, 93, 93, 10]⟩ : ByteArray).size ≤ 140737488355328 := by
        have h1 := HLN.out
        have h2 : (l.take j).length ≤ 1000 := by rw [List.length_take]; omega
        have h3 : (⟨#[91, 91, 108, 111, 99, 107, 93, 93, 10]⟩ : ByteArray).size = 9 := rfl
        omega
      refine (write_calls _ w.heap.size w.heap.size _ ⟨#[91, 91, 108, 111, 99, 107, 93, 93, 10]⟩ HBD1.out (Nat.le_refl _) hhead).mono ?_
      rintro e w1 ⟨rfl, hbd1, hf1⟩
      have HX2 := Lib.hid (HX1.out.fr hf1 (BdS.no HX1.out (by have := HWL.out; omega) (by decide)))
      have hbl2 := hf1.below (B := w.heap.size) HBL1.out.size BdS.le
      have HBL2 := Lib.hid (HBL1.out.trans hbl2)
      have HBD2 := Lib.hid hbd1
      clear hbd1 hf1 hbl2
      go_wp2_with (fail)
      refine (keys_calls _ wr.heap.size 0).mono ?_
      rintro e w2 ⟨b1, b2, rfl, hb1, hb2, hb12, hk1, hk2, hbl3⟩
      have HX3 := Lib.hid (HX2.out.below hbl3)
      have HBL3 := Lib.hid (below_then HBL2.out HBL2.out.size hbl3)
      have HBD3 := Lib.hid (Bd.fr HBD2.out (Fr.of_below (S := fun _ => False) hbl3) (fun _ h => h.elim))
      have HK1 := Lib.hid hk1
      have HK2 := Lib.hid hk2
      have HN := Lib.hid (show w.heap.size ≤ wr.heap.size ∧ wr.heap.size < b1 ∧ wr.heap.size < b2 from by
        have := HX2.out.lt
        omega)
      clear hk1 hk2 hbl3 hb1 hb2 hb12
      go_wp2_with (fail)
      clear HX1 HX2 HBD1 HBL1 HBD2 HBL2 HBD HBL hwb d0 d1 d2 d3 d4
      generalize wr.heap.size = X at *
      go_loopg [8, 9, 23] (5) (fun q _ _ i wi => ∃ t : Nat, q = 5 - t ∧ t ≤ 5 ∧ i = .int .i64 t ∧ Bd wi w.heap.size w.heap.size (writeText (l.take j) ++ headText ++ part x t) ∧ Blk wi X 31 x.arr
        ∧ Blk wi b1 9 #[.string wordRoot, .string wordVersion, .string wordRev, .string wordWithin, .string wordSource]
        ∧ Blk wi b2 80 #[.pointer (some ⟨X, 0, none⟩), .pointer (some ⟨X, 0 + 1, none⟩), .pointer (some ⟨X, 0 + 2, none⟩), .pointer (some ⟨X, 0 + 3, none⟩), .pointer (some ⟨X, 0 + 4, none⟩)]
        ∧ Below w.heap.size w wi)
      case atStart => exact ⟨0, rfl, Nat.zero_le _, rfl, by simpa [part, headText] using HBD3.out, HX3.out, HK1.out, HK2.out, HBL3.out⟩
      case round =>
        obtain ⟨t, rfl, ht, rfl, hbd, hx, hk1, hk2, hbl⟩ := hrel
        by_cases ht5 : t < 5
        · obtain ⟨k, v, hkv, hkz, hpn⟩ := part_next x t ht5
          have n1 := name_cell hk1 x t k v hkv
          have n2 := ptr_cell hk2 t ht5
          rw [Nat.zero_add] at n2
          have n3 := lock_cell hx t k v hkv
          have hvz := small_val HS.out t k v hkv
          have HBDi := Lib.hid hbd
          have HXi := Lib.hid hx
          have HKi := Lib.hid hk1
          have HKj := Lib.hid hk2
          have HBLi := Lib.hid hbl
          have HPN := Lib.hid hpn
          have HKZ := Lib.hid hkz
          have HVZ := Lib.hid hvz
          clear hbd hx hk1 hk2 hbl hpn hkz hvz hkv
          cases hve : v.toList.isEmpty with
          | true =>
            have HVE := Lib.hid hve
            go_wp2_with (fail)
            go_roundg (5 - (t + 1))
            case measure => omega
            case rel =>
              refine ⟨t + 1, rfl, by omega, rfl, ?_, HXi.out, HKi.out, HKj.out, HBLi.out⟩
              rw [HPN.out, fieldText_nil _ _ HVE.out, List.append_nil]
              exact HBDi.out
          | false =>
            have HVE := Lib.hid hve
            have hkz := HKZ.out
            go_wp2_with (fail)
            refine (R.quote_calls v (by have := HVZ.out; omega) _).mono ?_
            rintro e w5 ⟨rfl, hb5⟩
            have HBD5 := Lib.hid (Bd.fr HBDi.out (Fr.of_below (S := fun _ => False) hb5) (fun _ h => h.elim))
            have HX5 := Lib.hid (HXi.out.below hb5)
            have HK5 := Lib.hid (HKi.out.below hb5)
            have HJ5 := Lib.hid (HKj.out.below hb5)
            have HBL5 := Lib.hid (below_then HBLi.out HBLi.out.size hb5)
            have hq := R.quoteL_length v.data.toList
            rw [data_length] at hq
            have hvz := HVZ.out
            have hqs : (⟨(R.quoteL v.data.toList).toArray⟩ : ByteArray).size = (R.quoteL v.data.toList).length := by simp [ByteArray.size]
            have hq2 : (⟨(R.quoteL v.data.toList).toArray⟩ : ByteArray).size ≤ 2000002 := by omega
            have HQ := Lib.hid (show (⟨(R.quoteL v.data.toList).toArray⟩ : ByteArray).data.toList = R.quoteL v.data.toList from by simp)
            generalize (⟨(R.quoteL v.data.toList).toArray⟩ : ByteArray) = qs at *
            clear hb5 hq hqs
            go_wp2_with (fail)
            have hacc := part_len HS.out t
            have hln := HLN.out
            have htk : (l.take j).length ≤ 1000 := by rw [List.length_take]; omega
            have h9 : headText.length = 9 := rfl
            refine (write_calls _ w.heap.size w.heap.size _ _ HBD5.out (Nat.le_refl _) (by simp only [List.length_append, ByteArray.size_append]; have e3 : (⟨#[32, 61, 32]⟩ : ByteArray).size = 3 := rfl; have e1 : (⟨#[10]⟩ : ByteArray).size = 1 := rfl; omega)).mono ?_
            rintro e w6 ⟨rfl, hbd6, hf6⟩
            have hwl := Bd.lt HBD5.out
            have HBL6 := Lib.hid (HBL5.out.trans (hf6.below (B := w.heap.size) HBL5.out.size BdS.le))
            have HX6 := Lib.hid (HX5.out.fr hf6 (BdS.no HX5.out (by have := HN.out; have := HWL.out; omega) (by decide)))
            have HK6 := Lib.hid (HK5.out.fr hf6 (BdS.no HK5.out (by have := HN.out; omega) (by decide)))
            have HJ6 := Lib.hid (HJ5.out.fr hf6 (BdS.no HJ5.out (by have := HN.out; omega) (by decide)))
            have HBD6 := Lib.hid hbd6
            clear hbd6 hf6
            go_wp2_with (fail)
            go_roundg (5 - (t + 1))
            case measure => omega
            case rel =>
              refine ⟨t + 1, rfl, by omega, rfl, ?_, HX6.out, HK6.out, HJ6.out, HBL6.out⟩
              rw [HPN.out, fieldText_some _ _ HVE.out, ← HQ.out]
              have := HBD6.out
              simpa [ByteArray.data_append, List.append_assoc] using this
        · have ht' : t = 5 := by omega
          subst ht'
          have HBDi := Lib.hid hbd
          have HBLi := Lib.hid hbl
          clear hbd hbl hx hk1 hk2
          go_wp2_with (fail)
          go_roundg (l.length - (j + 1))
          case measure => omega
          case rel =>
            refine ⟨j + 1, rfl, by omega, rfl, ?_, HBLi.out⟩
            rw [HT.out, ← part_all, ← List.append_assoc]
            exact HBDi.out
    · have hje : l.take j = l := List.take_of_length_le (by omega)
      rw [hje] at HBD
      have hstr : Lib.IsBuilder 71 5 w.heap.size w.heap.size (Lib.byteCells (writeText l)) wr := by
        obtain ⟨p, v, hp, hk, ho⟩ := HBD.out
        have hn : v.ownBlock ≠ some w.heap.size := fun hk' => by
          obtain ⟨cells, hc⟩ := own_typed ho _ hk'
          exact hk.other (by decide) _ cells rfl hc
        have hcells : nums .u8 ((writeText l).map fun x => (x.toNat : Int)) = Lib.byteCells (writeText l) := by simp [nums, Lib.byteCells]
        rw [hcells] at ho
        have hlen : (Lib.byteCells (writeText l)).length = (writeText l).length := Lib.byteCells_length _
        rcases hp with rfl | rfl
        · exact .inl ⟨Nat.le_refl _, v, hk, by rw [hlen]; exact ho, hn⟩
        · exact .inr ⟨Nat.le_refl _, v, hk, by rw [hlen]; exact ho, hn⟩
      have HSTR := Lib.hid hstr
      clear hstr hje
      go_wp2_with (fail)
      refine (Tryd.Builder_String_any w.heap.size w.heap.size _ wr HSTR.out HBL.out.size).mono ?_
      rintro e w1 ⟨rfl, hw1⟩
      have HW1 := Lib.hid hw1
      clear hw1
      go_wp2_with (fail)
      go_ret
      exact ⟨rfl, HBL.out.trans HW1.out⟩
end
end Go.Proofs.YtljfcdfdedkajaaDoor.Q
end
section
namespace Go.Proofs.YtljfcdfdedkajaaDoor.Q
open Go.RowKit Go.Proofs.YtljfcdfdedkajaaDoorW.PrintWords Go.Proofs.YtljfcdfdedkajaaDoorW.PrintLast Go.Proofs.YtljfcdfdedkajaaDoorW.PrintMore
def toLk (x : S31) : Lk := ⟨x.f0, x.f1, x.f2, x.f3, x.f4⟩
def smallB (x : Lk) : Bool := decide (x.root.size ≤ 1000000) && decide (x.version.size ≤ 1000000) && decide (x.rev.size ≤ 1000000) && decide (x.within.size ≤ 1000000) && decide (x.source.size ≤ 1000000)
theorem smallB_iff {x : Lk} (h : smallB x = true) : smallLk x := by
  simp only [smallB, Bool.and_eq_true, decide_eq_true_eq] at h
  obtain ⟨⟨⟨⟨h0, h1⟩, h2⟩, h3⟩, h4⟩ := h
  exact ⟨h0, h1, h2, h3, h4⟩
def table_Write.f (l0 : List S31) : Option ByteArray :=
  if l0.length ≤ 1000 ∧ (l0.map toLk).all smallB = true then some ⟨(writeText (l0.map toLk)).toArray⟩ else none
theorem rows_at {w : World} {A : Option Addr} {l : List S31} (h : Kd.C k31 w A l.length l) : RowAt w A (l.map toLk) := by
  intro j hj
  rw [List.length_map] at hj
  obtain ⟨ad, hA, h0, h1, h2, h3, h4⟩ := at_T31 h (j : Int) (by omega) (by omega)
  have e : rd_T31 l (j : Int) = l[j] := by simp [rd_T31, List.getD, List.getElem?_eq_getElem hj]
  rw [e] at h0 h1 h2 h3 h4
  simp only [Int.toNat_natCast] at h0 h1 h2 h3 h4
  refine ⟨ad, hA, ?_⟩
  rw [List.getElem_map]
  exact ⟨h0, h1, h2, h3, h4⟩
theorem table_Write.calls (A0 : Option Addr) (c0 : Nat) (l0 : List S31) (r : ByteArray) (w : World) (hr0 : Kd.C k31 w A0 l0.length l0) (hc0 : l0.length ≤ c0) (h : table_Write.f l0 = some r) :
    Calls Tryd.prog 17 #[.slice A0 l0.length c0] w fun e w' => e = .returned (.string r) ∧ Below w.heap.size w w' := by
  unfold table_Write.f at h
  split at h
  · next hs =>
    obtain rfl := Option.some.inj h
    have := write_all w A0 c0 (l0.map toLk) (rows_at hr0) (by rw [List.length_map]; exact hs.1) (fun x hx => smallB_iff (List.all_eq_true.1 hs.2 x hx))
    rw [List.length_map] at this
    exact this
  · cases h
end Go.Proofs.YtljfcdfdedkajaaDoor.Q
end
