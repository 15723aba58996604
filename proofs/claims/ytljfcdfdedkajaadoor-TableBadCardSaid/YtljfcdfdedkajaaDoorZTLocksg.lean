import Derived.Test.YtljfcdfdedkajaaDoorZTe
import Derived.Test.YtljfcdfdedkajaaDoorZQuoteg
import Derived.ScopeJumps
import Derived.Lib.SliceRun
import Derived.Deep.CutBlock
import Derived.Deep.CutRange
import Derived.Deep.RegionWith
import Derived.BigRegion
import Derived.Test.YtljfcdfdedkajaaDoorZQ2g
set_option linter.unusedVariables false
set_option linter.unusedSimpArgs false
section
namespace Go.Proofs.YtljfcdfdedkajaaDoor.Q
open Go.RowKit Go.Proofs.YtljfcdfdedkajaaDoorW.PrintWords
section
variable (w : World)
set_option maxHeartbeats 1000000 in
theorem rows_clone (base : Nat) (lv : Value) (l : List Lk) (h : Ls w base lv l) (hn : l.length ≤ 1000) :
  Calls Tryd.prog 27 #[lv] w fun e w' => ∃ v, e = .returned v ∧ Ls w' w.heap.size v l ∧ Below w.heap.size w w' := by
 have qn : ∀ (w : World) (a : Option Addr) (n c n' c' : Nat), (binOp .eql 25 (.slice a n c) (.slice none n' c')).run Tryd.prog w = .ok (.bool a.isNone) w := fun w a n c n' c' => Lib.run_eql_slice_nil w _ _ a n c n' c' Tryd.underlying25
 obtain ⟨h1, h2⟩ := h
 rcases h2 with ⟨rfl, h2⟩ | ⟨q, cap, cs, rfl, hb, hh, hle, hcap, hs, ht⟩
 ·have : l = [] := List.eq_nil_of_length_eq_zero h2
  subst this
  clear h1 h2
  go_enter Tryd.func27, Tryd.ntmps27
  go_wp2_with (fail)
  go_ret
  exact ⟨_, rfl, own_nil _ _ _ 5, Below.refl _ _⟩
 ·have HC : Hid (∀ j u, (lkCells l)[j]? = some u → w.cell? ⟨q, j, none⟩ = some u) := Lib.hid (by
   intro j u hj
   rw [← ht, List.getElem?_take] at hj
   split at hj
   ·simp only [World.cell?, hh]
    simpa using hj
   ·cases hj)
  clear h1 hh hs ht
  obtain ⟨i0, hi, hz0, hz1, hz2⟩ := info_parts info39
  go_enter Tryd.func27, Tryd.ntmps27
  go_wp2_with (at_builtin; refine wpList_append_own _ rfl _ _ 25 rfl w.heap.size 31 i0 (.agg #[(.string ⟨#[]⟩), (.string ⟨#[]⟩), (.string ⟨#[]⟩), (.string ⟨#[]⟩), (.string ⟨#[]⟩)]) 5 80 Tryd.underlying25 hi hz0 hz1 hz2 rfl (by decide) _ _ _ rfl (World.ownsRow_made w #[] 0 (Nat.le_refl _) (Nat.zero_le _) rfl) ⟨q, 0, none⟩ l.length cap (lkCells l) rfl ?qc1 ?qc2 ?qc3 ?qc4 ?qc5 ?qc6 ?_)
  case qc1 => exact lkCells_length l
  case qc2 =>
   intro j u hj
   rw [add_plain]
   exact Lib.cell?_alloc_some _ (HC.out j u hj)
  case qc3 =>
   intro u hu
   obtain ⟨x, _, hx⟩ := List.mem_flatMap.1 hu
   simp only [Lk.cells, List.mem_cons, List.not_mem_nil, or_false] at hx
   rcases hx with rfl | rfl | rfl | rfl | rfl <;> rfl
  case qc4 => unfold maxLen; omega
  case qc5 => omega
  case qc6 => simp
  intro v' w1 hown hgrow hnil
  go_wp2
  go_ret
  refine ⟨v', rfl, by unfold Ls; simpa using hown, ?_⟩
  exact ((Below.refl _ w).alloc (Nat.le_refl _) _).grown hgrow (by simp) (by intro k hk; simp [Value.ownBlock] at hk; omega)
end
def lineR (s : ByteArray) (st : PSt) : Res :=
 let a1 := spanEnd blank s st.a
 let r1 := if byteAt s a1 = 91 then beginR s ⟨a1, st.l, st.hv⟩ else if 97 ≤ byteAt s a1 ∧ byteAt s a1 ≤ 122 then fieldR s ⟨a1, st.l, st.hv⟩ else .ok ⟨a1, st.l, st.hv⟩
 match r1 with
 | .bad wh e => .bad wh e
 | .ok st1 => let r := restR s st1.a; if r.1 = true then .ok ⟨r.2, st1.l, st1.hv⟩ else .bad r.2 1
def linesR (s : ByteArray) : Nat → PSt → Res
 | 0, _ => .bad 0 0
 | n + 1, st =>
  match lineR s st with
  | .bad wh e => .bad wh e
  | .ok st' => if st'.a < s.size then linesR s n st' else .ok st'
def locksR (s : ByteArray) : List Lk × Nat × Int :=
 if 8000 < s.size then ([], 0, 2)
 else match linesR s (s.size + 1) ⟨0, [], ⟨#[]⟩⟩ with
 | .bad wh e => ([], wh, e)
 | .ok st => if endedE st.l = 0 then (st.l, 0, 0) else ([], s.size, endedE st.l)
def placeV (s : ByteArray) (wh : Nat) : Value := .agg #[.int .i64 (place (s.data.toList.take wh)).1, .int .i64 (place (s.data.toList.take wh)).2]
def locksV (s : ByteArray) (v : Value) : Value :=
 let r := locksR s
 .tuple #[v, if r.2.2 = 0 then .agg #[.int .i64 0, .int .i64 0] else placeV s r.2.1, .int .i64 r.2.2]
theorem results_tct {P : Program} {fn : Func} {p u v : Tmp} {ty : TypeId} (h : fn.results = #[.tmp u, .cell p ty, .tmp v]) (tmps : Array Value) (w : World) (g : Nat) (t : TypeId) (cs : Array Value) (fr : Nat × Nat) (d : TypeDesc)
  (hp : tmps.getD p undef = .pointer (some ⟨g, 0, none⟩)) (hg : w.heap[g]? = some (.cells cs t fr))
  (hu : P.underlying ty = some d) (hd : (match d with | .struct _ | .array _ _ => true | _ => false) = true) (hi : (P.info? ty).map (·.size) = some cs.size) :
  (results fn tmps).run P w = .ok (.tuple #[tmps.getD u undef, .agg cs, tmps.getD v undef]) w := by
 have hp' : tmps[p]?.getD undef = .pointer (some ⟨g, 0, none⟩) := by simpa using hp
 simp [results, h, hp', asAddr, run_loadVar_row w g t ty cs fr d hg hu hd hi]
theorem below_alloc1 {w w' : World} {o : Obj} (h : Below (w.alloc o).heap.size (w.alloc o) w') : Below w.heap.size w w' :=
 below_then ((Below.refl _ w).alloc (Nat.le_refl _) o) (by simp) h
theorem wp_scope_both {P : Program} {a : Act} {w : World} {Q : Exit → Act → World → Prop} {c rest : Code} (l : Nat) (J : Act → World → Prop) (μ : Act → World → Nat) (hf : findLabel c l = some (Code.skip.seq rest))
  (pass : ∀ a w, J a w → rest.wp P (Exit.jump l (fun a' w' => J a' w' ∧ μ a' w' < μ a w) Q) a w)
  (first : (∀ a w, J a w → rest.wp P (Exit.jump l J Q) a w) → c.wp P (Exit.jump l J Q) a w) : (Code.scope c).wp P Q a w :=
 wp_scope_jumps l J μ hf (first fun a w h => wp_mono (pass a w h) fun e a' w' hq => by
  cases e <;> first | exact hq | exact ⟨hq.1, hq.2.1⟩) fun a w h => by
   have h2 := pass a w h
   generalize (Exit.jump l (fun a' w' => J a' w' ∧ μ a' w' < μ a w) Q) = Q2 at *
   exact wp_seq (wp_skip h2)
structure Inv (s : ByteArray) (st : PSt) : Prop where
 a : st.a ≤ s.size
 l : st.l.length ≤ 40
 hv : st.hv.size ≤ st.a
def ResOk (s : ByteArray) (a0 : Nat) : Res → Prop
 | .bad wh _ => wh ≤ s.size
 | .ok st => Inv s st ∧ a0 ≤ st.a
theorem common_le : ∀ l m : List UInt8, common l m ≤ m.length
 | [], m => by simp [common]
 | x :: l, [] => by simp [common]
 | x :: l, y :: m => by
  unfold common
  split
  ·have := common_le l m
   simp only [List.length_cons]
   omega
  ·omega
theorem begin_ok (s : ByteArray) (st : PSt) (h : Inv s st) : ResOk s st.a (beginR s st) := by
 obtain ⟨a, l, hv⟩ := st
 obtain ⟨h1, h2, h3⟩ := h
 rw [beginR_eq]
 simp only at h1 h2 h3 ⊢
 split
 ·next hp =>
  have hz := nl_size s lockWord a h1 hp
  have h8 : lockWord.size = 8 := rfl
  split
  ·split
   ·exact h1
   ·exact ⟨⟨by simp only; omega, by simp only [List.length_append, List.length_cons, List.length_nil]; omega, by simp [ByteArray.size]⟩, by simp only; omega⟩
  ·exact h1
 ·have := common_le lockWord.data.toList (s.data.toList.drop a)
  rw [List.length_drop, data_length] at this
  show a + _ ≤ s.size
  omega
theorem field_ok (s : ByteArray) (st : PSt) (h : Inv s st) : ResOk s st.a (fieldR s st) := by
 obtain ⟨a, l, hv⟩ := st
 obtain ⟨h1, h2, h3⟩ := h
 simp only at h1 h2 h3 ⊢
 rcases List.eq_nil_or_concat l with rfl | ⟨l, x, rfl⟩
 ·exact h1
 ·rw [List.concat_eq_append] at *
  rw [fieldR_snoc]
  have hE : spanEnd lower s a ≤ s.size := spanEnd_le lower s a h1
  have hE2 : a ≤ spanEnd lower s a := spanEnd_ge lower s a
  generalize spanEnd lower s a = E at *
  have hB : spanEnd blank s E ≤ s.size := spanEnd_le blank s E hE
  have hB2 : E ≤ spanEnd blank s E := spanEnd_ge blank s E
  generalize spanEnd blank s E = B at *
  split
  ·exact h1
  ·split
   ·exact h1
   ·split
    ·next hp =>
     have hz := nl_size s eqs B hB hp
     have h8 : eqs.size = 1 := rfl
     have hA : spanEnd blank s (B + 1) ≤ s.size := spanEnd_le blank s (B + 1) (by omega)
     have hA2 : B + 1 ≤ spanEnd blank s (B + 1) := spanEnd_ge blank s (B + 1)
     generalize spanEnd blank s (B + 1) = A at *
     unfold tailR
     cases hu : unq (s.data.toList.drop A) with
     | none => exact hA
     | some r =>
      obtain ⟨out, used⟩ := r
      have hub := (unq_bound _ _ hu).1
      rw [List.length_drop, data_length] at hub
      simp only at hub ⊢
      split
      ·exact hA
      ·refine ⟨⟨by simp only; omega, ?_, ?_⟩, by simp only; omega⟩
       ·simp only [List.length_append, List.length_cons, List.length_nil] at h2 ⊢
        omega
       ·simp only [ByteArray.size_append, ByteArray.size_extract]
        have : spc.size = 1 := rfl
        omega
    ·exact hB
theorem rest_bound (s : ByteArray) (a : Nat) (h : a ≤ s.size) : (restR s a).2 ≤ s.size ∧ a ≤ (restR s a).2 ∧ ((restR s a).1 = true → (restR s a).2 < s.size → a < (restR s a).2) := by
 unfold restR
 have hB : spanEnd blank s a ≤ s.size := spanEnd_le blank s a h
 have hB2 : a ≤ spanEnd blank s a := spanEnd_ge blank s a
 simp only
 generalize spanEnd blank s a = B at *
 have hC : (if byteAt s B = 35 then spanEnd noteB s B else B) ≤ s.size ∧ B ≤ (if byteAt s B = 35 then spanEnd noteB s B else B) := by
  split
  ·exact ⟨spanEnd_le noteB s B hB, spanEnd_ge noteB s B⟩
  ·exact ⟨hB, Nat.le_refl _⟩
 generalize (if byteAt s B = 35 then spanEnd noteB s B else B) = C at *
 by_cases h10 : byteAt s C = 10
 ·have := byteAt_ten s C h10
  rw [if_pos h10]
  exact ⟨by simp only; omega, by simp only; omega, fun _ _ => by simp only; omega⟩
 ·rw [if_neg h10]
  split
  ·exact ⟨by simp only; omega, by simp only; omega, fun h => by cases h⟩
  ·exact ⟨by simp only; omega, by simp only; omega, fun _ hlt => by simp only at hlt; omega⟩
def switchR (s : ByteArray) (st : PSt) : Res :=
 if byteAt s st.a = 91 then beginR s st else if 97 ≤ byteAt s st.a ∧ byteAt s st.a ≤ 122 then fieldR s st else .ok st
def restOf (s : ByteArray) : Res → Res
 | .bad wh e => .bad wh e
 | .ok st1 => if (restR s st1.a).1 = true then .ok ⟨(restR s st1.a).2, st1.l, st1.hv⟩ else .bad (restR s st1.a).2 1
theorem lineR_eq (s : ByteArray) (st : PSt) : lineR s st = restOf s (switchR s ⟨spanEnd blank s st.a, st.l, st.hv⟩) := rfl
theorem switch_ok (s : ByteArray) (st : PSt) (h : Inv s st) : ResOk s st.a (switchR s st) := by
 unfold switchR
 split
 ·exact begin_ok s st h
 ·split
  ·exact field_ok s st h
  ·exact ⟨h, Nat.le_refl _⟩
theorem Inv.blank {s : ByteArray} {st : PSt} (h : Inv s st) : Inv s ⟨spanEnd blank s st.a, st.l, st.hv⟩ :=
 ⟨spanEnd_le _ s st.a h.a, h.l, Nat.le_trans h.hv (spanEnd_ge _ s st.a)⟩
def afterR (s : ByteArray) (n : Nat) : Res → Res
 | .bad wh e => .bad wh e
 | .ok st => if st.a < s.size then linesR s n st else .ok st
theorem linesR_eq (s : ByteArray) (n : Nat) (st : PSt) : linesR s (n + 1) st = afterR s n (restOf s (switchR s ⟨spanEnd blank s st.a, st.l, st.hv⟩)) := by
 rw [← lineR_eq]
 unfold linesR afterR
 rfl
def LocksPost (w : World) (s : ByteArray) (e : Ending) (w' : World) : Prop := ∃ v, e = .returned (locksV s v) ∧ Ls w' w.heap.size v (locksR s).1 ∧ Below w.heap.size w w'
section
variable (w : World) (s : ByteArray)
set_option maxHeartbeats 1000000 in
theorem locks_long (hs : s.size ≤ 140737488351232) (hl : 8000 < s.size) :
  Calls Tryd.prog 11 #[.string s] w (LocksPost w s) := by
 have he : locksR s = ([], 0, 2) := by unfold locksR; rw [if_pos hl]
 have HV : ∀ v, locksV s v = .tuple #[v, placeV s 0, .int .i64 2] := fun v => by unfold locksV; rw [he]; rfl
 have HV := Lib.hid HV
 have HE := Lib.hid he
 clear he
 go_enter Tryd.func11, Tryd.ntmps11
 go_wp2_with (fail)
 go_step3
 go_wp2_with (fail)
 refine (place_calls _ s 0 (Nat.zero_le _) hs).mono ?_
 rintro e w1 ⟨rfl, hb1⟩
 have hk := (Blk.new w 35 #[.int .i64 0, .int .i64 0]).below hb1
 have k0 := hk.cell 0
 have k1 := hk.cell 1
 have f0 := hk.unfrozen 0
 have f1 := hk.unfrozen 1
 have HK := Lib.hid hk
 have HB := Lib.hid hb1
 clear hk hb1
 go_wp2_with (fail)
 (try rw [Exit.noGoto_ret])
 refine bodyPost_ret (results_tct rfl _ _ w.heap.size 35 #[.int .i64 (place []).1, .int .i64 (place []).2] (0, 0) _ rfl ((HK.out.put 0 (.int .i64 (place []).1)).put 1 (.int .i64 (place []).2)) Tryd.underlying35 rfl (by kernel_rfl)) rfl ?_
 refine ⟨.slice none 0 0, by rw [HV.out]; rfl, by rw [HE.out]; exact own_nil _ _ _ 5, ?_⟩
 exact (below_alloc1 HB.out).trans (((Fr.refl (fun k => k = w.heap.size) w1).put (p := ⟨w.heap.size, 0, none⟩) (.inl rfl) _ |>.put (p := ⟨w.heap.size, 1, none⟩) (.inl rfl) _).below (by have := HB.out.size; simp at this; omega) (fun k hk => by rw [hk]; exact Nat.le_refl _))
theorem field_calls (w : World) (p c : Nat) (s : ByteArray) (base : Nat) (st : PSt) (hg : Good w base p c s st) (hbp : base ≤ p) (hbc : base ≤ c) (hi : Inv s st) (hs : s.size ≤ 8000) (hG : GL w) (hb0 : GLtop < base) :
  Calls Tryd.prog 23 #[.pointer (some ⟨p, 0, none⟩)] w (StepPost w base p c s (fieldR s st)) := by
 obtain ⟨a, l, hv⟩ := st
 obtain ⟨h1, h2, h3⟩ := hi
 simp only at h1 h2 h3
 rcases List.eq_nil_or_concat l with rfl | ⟨l, x, rfl⟩
 ·exact field_none w p c s base a hv hg hbp hbc h1 (by omega)
 ·rw [List.concat_eq_append] at *
  exact field_some w p c s base a l x hv hg hbp hbc h1 (by omega) (by simp at h2; omega) (by omega) hG hb0
theorem Blk.below' {w0 w w' : World} {g : Nat} {t : TypeId} {cs : Array Value} (h : Blk w0 g t cs) (e : w.heap = w0.heap) (hb : Below w.heap.size w w') : Blk w' g t cs := by
 have h' : Blk w g t cs := by unfold Blk at h ⊢; rw [e]; exact h
 exact h'.below hb
theorem place_facts {w0 w w' : World} {p c g : Nat} {s : ByteArray} {lv : Value} {hv : ByteArray} {wh e x y : Int} (hb : Below w.heap.size w w') (he : w.heap = w0.heap) (h1 : w.os = w0.os) (h2 : w.tape = w0.tape) (h3 : w.output = w0.output) (h : Rd w0 p c s lv hv wh e) (hp : Blk w0 g 35 #[.int .i64 x, .int .i64 y]) :
  w'.cell? ⟨p, 5, none⟩ = some (.int .i64 e) ∧ w'.cell? ⟨g, 0, none⟩ = some (.int .i64 x) ∧ w'.cell? ⟨g, 1, none⟩ = some (.int .i64 y) ∧ w'.frozen? ⟨g, 0, none⟩ = false ∧ w'.frozen? ⟨g, 1, none⟩ = false ∧ Hid (Blk w' g 35 #[.int .i64 x, .int .i64 y]) ∧ Hid (Below w0.heap.size w0 w') :=
 ⟨(Blk.below' h he hb).cell 5, (Blk.below' hp he hb).cell 0, (Blk.below' hp he hb).cell 1, (Blk.below' hp he hb).unfrozen 0, (Blk.below' hp he hb).unfrozen 1, Lib.hid (Blk.below' hp he hb), Lib.hid
  (by
   rw [← he]
   exact ⟨hb.os.trans h1, hb.tape.trans h2, hb.output.trans h3, by rw [← he]; exact hb.size, fun k hk => by rw [← he]; exact hb.block k hk⟩)⟩
theorem locksR_bad {s : ByteArray} {wh : Nat} {e : Int} (hs : s.size ≤ 8000) (h : linesR s (s.size + 1) ⟨0, [], ⟨#[]⟩⟩ = .bad wh e) : locksR s = ([], wh, e) := by
 unfold locksR
 rw [if_neg (by omega), h]
theorem locksR_ok {s : ByteArray} {st : PSt} (hs : s.size ≤ 8000) (h : linesR s (s.size + 1) ⟨0, [], ⟨#[]⟩⟩ = .ok st) : locksR s = if endedE st.l = 0 then (st.l, 0, 0) else ([], s.size, endedE st.l) := by
 unfold locksR
 rw [if_neg (by omega), h]
theorem locks_bad {w wc wp : World} {s : ByteArray} {B wh : Nat} {e : Int} (hR : locksR s = ([], wh, e)) (hne : e ≠ 0) (hB : w.heap.size = B) (h1 : Below B w wc) (h2 : Below wc.heap.size wc wp) (a b : Value) :
  LocksPost w s (.returned (.tuple #[.slice none 0 0, .agg #[.int .i64 (place (s.data.toList.take wh)).1, .int .i64 (place (s.data.toList.take wh)).2], .int .i64 e])) ((wp.setCell ⟨B, 0, none⟩ a).setCell ⟨B, 1, none⟩ b) := by
 refine ⟨.slice none 0 0, ?_, ?_, ?_⟩
 ·unfold locksV
  rw [hR]
  simp only [if_neg hne]
  rfl
 ·rw [hR]
  exact own_nil _ _ _ 5
 ·rw [hB]
  have h3 := below_then h1 (by have := h1.size; omega) h2
  exact h3.trans (((Fr.refl (fun k => k = B) wp).put (p := ⟨B, 0, none⟩) (.inl rfl) a |>.put (p := ⟨B, 1, none⟩) (.inl rfl) b).below (by have := h3.size; omega) (fun k hk => by rw [hk]; exact Nat.le_refl _))
theorem locks_good {w wc wp : World} {s : ByteArray} {B : Nat} {l : List Lk} {v : Value} (hR : locksR s = (l, 0, 0)) (hB : w.heap.size = B) (h1 : Below B w wc) (h2 : Below wc.heap.size wc wp) (hl : Ls wp wc.heap.size v l) (hk : Blk wp B 35 #[.int .i64 0, .int .i64 0]) (a b : Value) :
  LocksPost w s (.returned (.tuple #[v, .agg #[.int .i64 0, .int .i64 0], .int .i64 0])) ((wp.setCell ⟨B, 0, none⟩ a).setCell ⟨B, 1, none⟩ b) := by
 have h3 := below_then h1 (by have := h1.size; omega) h2
 have hfr := ((Fr.refl (fun k => k = B) wp).put (p := ⟨B, 0, none⟩) (.inl rfl) a |>.put (p := ⟨B, 1, none⟩) (.inl rfl) b)
 refine ⟨v, ?_, ?_, ?_⟩
 ·unfold locksV
  rw [hR]
  rfl
 ·rw [hR]
  exact Ls.keep (own_weaken hl (by have := h1.size; omega)) hfr (Blk.ty hk (by decide))
 ·rw [hB]
  exact h3.trans (hfr.below (by have := h3.size; omega) (fun k hk => by rw [hk]; exact Nat.le_refl _))
theorem below_succ {B : Nat} {w w' : World} (h : Below (B + 1) w w') : Below B w w' := ⟨h.os, h.tape, h.output, h.size, fun k hk => h.block k (by omega)⟩
theorem Blk.under {w w' : World} {g : Nat} {t : TypeId} {cs : Array Value} (h : Blk w g t cs) (hb : Below (g + 1) w w') : Blk w' g t cs := (hb.block g (Nat.lt_succ_self g)).trans h
def curMu (s : ByteArray) (c : Nat) (w' : World) : Nat := match w'.cell? ⟨c, 1, none⟩ with | some (.int _ n) => s.size - n.toNat | _ => 0
theorem curMu_eq {s : ByteArray} {c a : Nat} {w' : World} (h : Cur w' c s a) : curMu s c w' = s.size - a := by
 unfold curMu
 rw [h.cell 1]
 simp
theorem exists_u {A : Act} {F : (Nat → Value) → Act} {p : PSt → Prop} (st : PSt) (h : A = F (fun k => A.tmps.getD k undef)) (hp : p st) : ∃ (st : PSt) (u : Nat → Value), A = F u ∧ p st := ⟨st, _, h, hp⟩
def LJ (s : ByteArray) (R0 : Res) (B : Nat) (w w' : World) (st : PSt) : Prop :=
 Good w' (B + 1) (B + 2) (B + 1) s st ∧ Blk w' B 35 #[.int .i64 0, .int .i64 0] ∧ Inv s st ∧ (∃ n, linesR s n st = R0 ∧ s.size < n + st.a) ∧ Below B w w'
def LJA (s : ByteArray) (R0 : Res) (B : Nat) (w : World) (a' : Act) (w' : World) : Prop :=
 ∃ (st : PSt) (u : Nat → Value), a' = { tmps := #[.string s, undef, .slice none 0 0, .pointer (some ⟨B, 0, none⟩), .int .i64 0, .pointer (some ⟨B + 2, 0, none⟩), u 6, u 7, u 8, u 9, u 10, u 11, u 12, u 13, u 14, u 15, u 16, u 17, u 18, u 19, u 20, u 21, u 22, u 23, u 24, u 25, u 26, u 27, u 28, u 29, u 30, u 31, u 32, u 33, u 34, u 35, u 36, u 37, u 38, u 39, u 40, u 41, u 42, u 43, u 44, u 45, u 46, u 47, u 48, u 49, u 50, u 51, u 52, u 53, u 54, u 55, u 56, u 57, u 58, u 59, u 60, u 61, u 62, u 63, u 64, u 65, u 66, u 67, u 68, u 69, u 70, u 71, u 72, u 73, u 74, u 75, u 76, u 77, u 78, u 79, u 80, u 81, u 82, u 83, u 84, u 85, u 86], defers := [] } ∧ LJ s R0 B w w' st
set_option maxHeartbeats 2000000 in
set_option maxRecDepth 100000 in
theorem locks_short (hs : s.size ≤ 8000) (hG : GL w) :
  Calls Tryd.prog 11 #[.string s] w (LocksPost w s) := by
 generalize hB : w.heap.size = B
 have HB := Lib.hid hB
 clear hB
 go_enter Tryd.func11, Tryd.ntmps11
 go_wp2_with (fail)
 refine wp_scope_both 0 (LJA s (linesR s (s.size + 1) ⟨0, [], ⟨#[]⟩⟩) B w) (fun _ w' => curMu s (B + 1) w') rfl ?_ ?_
 ·rintro a' w' ⟨st, u, rfl, hj⟩
  have hs' : s.size ≤ 140737488351232 := by omega
  obtain ⟨hgood, hpl, hinv, ⟨n, hln, hnn⟩, hbl⟩ := hj
  obtain ⟨m, rfl⟩ : ∃ m, n = m + 1 := ⟨n - 1, by have := hinv.a; omega⟩
  rw [linesR_eq] at hln
  generalize hR0 : linesR s (s.size + 1) ⟨0, [], ⟨#[]⟩⟩ = R0 at *
  have HR0 := Lib.hid hR0
  clear hR0
  obtain ⟨lv, wh, h, hl, hc⟩ := hgood
  have hmu := curMu_eq hc
  have HMU := Lib.hid hmu
  have HG := Lib.hid (GL.below (w := w) hG hbl (by have := HB.out; have := hG.lt; omega))
  have H := Lib.hid h
  have HC := Lib.hid hc
  have HL := Lib.hid hl
  have HPL := Lib.hid hpl
  have HBL := Lib.hid hbl
  have HLN := Lib.hid hln
  have hb0 : GLtop < B + 1 := by have := hG.lt; have := HB.out; omega
  clear hG h hc hl hpl hbl hln hmu
  go_wp2_with (fail)
  refine (blanks_calls _ (B + 2) (B + 1) s lv st.hv wh 0 st.a H.out HC.out hinv.a hs').mono ?_
  rintro e w2 ⟨rfl, hc2, hf2⟩
  have hinv1 := hinv.blank
  have hss := switch_ok s _ hinv1
  have h2 : Rd w2 (B + 2) (B + 1) s lv st.hv wh 0 := Blk.fr H.out hf2 (by omega)
  have hl2 := Ls.keep HL.out hf2 (Blk.ty HC.out (by decide))
  have hb2 := hf2.below (B := B + 1) (by have := Blk.lt HC.out; omega) (fun k hk => by rw [hk]; exact Nat.le_refl _)
  have HG2 := Lib.hid (GL.below HG.out hb2 hb0)
  have HB2 := Lib.hid hb2
  have hgood2 : Good w2 (B + 1) (B + 2) (B + 1) s ⟨spanEnd blank s st.a, st.l, st.hv⟩ := ⟨lv, wh, h2, hl2, hc2⟩
  have hage : st.a ≤ spanEnd blank s st.a := spanEnd_ge _ s st.a
  have hb2v : spanEnd blank s st.a = (⟨spanEnd blank s st.a, st.l, st.hv⟩ : PSt).a := rfl
  have HLN2 := Lib.hid HLN.out
  generalize hst1 : (⟨spanEnd blank s st.a, st.l, st.hv⟩ : PSt) = st1 at *
  rw [hb2v] at hage ⊢
  have HSS := Lib.hid hss
  have HGD := Lib.hid hgood2
  clear hss hst1 hb2v hc2 hf2 h2 hl2 hb2 hgood2 HLN
  go_upto_block 0 with (fail)
  go_cut [] from 19 to 32 (fun wx => Holds wx (B + 1) (B + 2) (B + 1) s (switchR s st1) ∧ Below (B + 1) w2 wx)
  case first =>
   have hgl := HGD.out
   have HBW := Lib.hid (show byteAt s st1.a = byteAt s st1.a from rfl)
   by_cases h91 : byteAt s st1.a = 91
   ·have hsw : switchR s st1 = beginR s st1 := by unfold switchR; rw [if_pos h91]
    have HSW := Lib.hid hsw
    have hb : (byteAt s st1.a == 91) = true := by simpa using h91
    clear hsw h91
    go_wp2_with (fail)
    refine (begins_calls w2 (B + 1) (B + 2) (B + 1) s st1 HGD.out (by omega) (by omega) hinv1.a hs' hinv1.l).mono ?_
    rintro e w3 ⟨rfl, hh3, hb3⟩
    have HH3 := Lib.hid hh3
    have HB3 := Lib.hid hb3
    clear hh3 hb3
    go_wp2_with (fail)
    go_meet
    case rel => rw [HSW.out]; exact ⟨HH3.out, HB3.out⟩
   ·have hb : (byteAt s st1.a == 91) = false := by simpa using h91
    by_cases hlo : 97 ≤ byteAt s st1.a
    ·have hb1 : decide (97 ≤ byteAt s st1.a) = true := decide_eq_true hlo
     by_cases hhi : byteAt s st1.a ≤ 122
     ·have hsw : switchR s st1 = fieldR s st1 := by unfold switchR; rw [if_neg h91, if_pos ⟨hlo, hhi⟩]
      have hb2 : decide (byteAt s st1.a ≤ 122) = true := decide_eq_true hhi
      have HSW := Lib.hid hsw
      clear hsw h91 hlo hhi
      go_wp2_with (fail)
      refine (field_calls w2 (B + 2) (B + 1) s (B + 1) st1 HGD.out (by omega) (by omega) hinv1 (by omega) HG2.out hb0).mono ?_
      rintro e w3 ⟨rfl, hh3, hb3⟩
      have HH3 := Lib.hid hh3
      have HB3 := Lib.hid hb3
      clear hh3 hb3
      go_wp2_with (fail)
      go_meet
      case rel => rw [HSW.out]; exact ⟨HH3.out, HB3.out⟩
     ·have hsw : switchR s st1 = .ok st1 := by unfold switchR; rw [if_neg h91, if_neg (fun h => hhi h.2)]
      have hb2 : decide (byteAt s st1.a ≤ 122) = false := decide_eq_false hhi
      have HSW := Lib.hid hsw
      clear hsw h91 hlo hhi
      go_wp2_with (fail)
      go_meet
      case rel => rw [HSW.out]; exact ⟨HGD.out, Below.refl _ _⟩
    ·have hb1 : decide (97 ≤ byteAt s st1.a) = false := decide_eq_false hlo
     have hsw : switchR s st1 = .ok st1 := by unfold switchR; rw [if_neg h91, if_neg (fun h => hlo h.1)]
     have HSW := Lib.hid hsw
     clear hsw h91 hlo
     go_wp2_with (fail)
     go_meet
     case rel => rw [HSW.out]; exact ⟨HGD.out, Below.refl _ _⟩
  case rest =>
   obtain ⟨hh, hbw⟩ := hcut
   have HLN3 := HLN2
   have HSS3 := HSS
   generalize switchR s st1 = r1 at *
   have HBW := Lib.hid hbw
   clear HLN2 HSS hbw
   cases r1 with
   | bad wh2 e2 =>
    obtain ⟨hne, lv2, hv2, hr⟩ := hh
    have HWZ := Lib.hid (show wh2 ≤ s.size from HSS3.out)
    have HR0' := Lib.hid (HR0.out.trans HLN3.out.symm)
    have HRX := Lib.hid hr
    have HPX := Lib.hid (Blk.under (Blk.under HPL.out HB2.out) HBW.out)
    have hb5 : (e2 == 0) = false := by simpa using hne
    have hb6 : (e2 != 0) = true := by simpa using hne
    have HNE := Lib.hid hne
    have HBALL := Lib.hid (HBL.out.trans ((below_succ HB2.out).trans (below_succ HBW.out)))
    have k5 := hr.cell 5
    have k4 := hr.cell 4
    clear hr hne
    go_wp2_with (fail)
    go_region_with (go_at_call 19; refine (place_calls _ s wh2 HWZ.out hs').mono ?_; rintro e wp ⟨rfl, hbp⟩; obtain ⟨k5p, kp0, kp1, fp0, fp1, HKP, HBP⟩ := place_facts (w0 := wc) hbp rfl rfl rfl rfl HRX.out HPX.out)
    all_goals (go_wp2_with (fail))
    all_goals (try simp only [Exit.jump])
    all_goals refine bodyPost_ret (results_tct rfl _ _ B 35 #[.int .i64 (place (List.take wh2 s.data.toList)).1, .int .i64 (place (List.take wh2 s.data.toList)).2] (0, 0) _ rfl ((HKP.out.put 0 (.int .i64 (place (List.take wh2 s.data.toList)).1)).put 1 (.int .i64 (place (List.take wh2 s.data.toList)).2)) Tryd.underlying35 rfl (by kernel_rfl)) rfl ?_
    all_goals exact locks_bad (locksR_bad hs HR0'.out) HNE.out HB.out HBALL.out HBP.out _ _
   | ok st2 =>
    obtain ⟨hi2, hage2⟩ := HSS3.out
    obtain ⟨lv2, wh2, hr, hl2, hc2⟩ := hh
    have hrb := rest_bound s st2.a hi2.a
    have HR2 := Lib.hid hr
    have HC2 := Lib.hid hc2
    have HL2 := Lib.hid hl2
    have HPX := Lib.hid (Blk.under (Blk.under HPL.out HB2.out) HBW.out)
    have HBALL := Lib.hid (HBL.out.trans ((below_succ HB2.out).trans (below_succ HBW.out)))
    have k5 := hr.cell 5
    clear hr hc2 hl2
    go_wp2_with (fail)
    refine (rest_calls _ (B + 2) (B + 1) s lv2 st2.hv wh2 st2.a HR2.out HC2.out hi2.a hs').mono ?_
    rintro e w4 ⟨rfl, hf4, hc4, hr4⟩
    have hl4 := Ls.keep2 HL2.out HR2.out HC2.out hf4
    have hb4 : Below (B + 1) wc w4 := hf4.below (by have := Blk.lt HC2.out; omega) (fun k hk => by rcases hk with rfl | rfl <;> omega)
    have HB4 := Lib.hid hb4
    have HPX4 := Lib.hid (Blk.under HPX.out hb4)
    have HBALL4 := Lib.hid (HBALL.out.trans (below_succ hb4))
    have HLN4 := HLN3
    simp only [restOf] at HLN4
    have HL4 := Lib.hid hl4
    have HC4 := Lib.hid hc4
    clear hf4 hl4 hb4 HLN3
    cases hrr : (restR s st2.a).1 with
    | false =>
     rw [hrr, if_neg (by simp), if_neg (by simp)] at hr4
     rw [hrr, if_neg (by simp)] at HLN4
     have HR0' := Lib.hid (HR0.out.trans HLN4.out.symm)
     generalize (restR s st2.a).2 = a4 at *
     have HWZ := Lib.hid hrb.1
     have HRX := Lib.hid hr4
     have k5 := hr4.cell 5
     have k4 := hr4.cell 4
     clear hr4 hrr hrb
     go_wp2_with (fail)
     go_region_with (go_at_call 19; refine (place_calls _ s a4 HWZ.out hs').mono ?_; rintro e wp ⟨rfl, hbp⟩; obtain ⟨k5p, kp0, kp1, fp0, fp1, HKP, HBP⟩ := place_facts (w0 := w4) hbp rfl rfl rfl rfl HRX.out HPX4.out)
     all_goals (go_wp2_with (fail))
     all_goals (try simp only [Exit.jump])
     all_goals refine bodyPost_ret (results_tct rfl _ _ B 35 #[.int .i64 (place (List.take a4 s.data.toList)).1, .int .i64 (place (List.take a4 s.data.toList)).2] (0, 0) _ rfl ((HKP.out.put 0 (.int .i64 (place (List.take a4 s.data.toList)).1)).put 1 (.int .i64 (place (List.take a4 s.data.toList)).2)) Tryd.underlying35 rfl (by kernel_rfl)) rfl ?_
     all_goals exact locks_bad (locksR_bad hs HR0'.out) (by decide) HB.out HBALL4.out HBP.out _ _
    | true =>
     rw [hrr, if_pos rfl, if_pos rfl] at hr4
     rw [hrr, if_pos rfl] at HLN4
     have hmo := hrb.2.2 hrr
     have hle := hrb.1
     have hge := hrb.2.1
     have hinv4 : Inv s ⟨(restR s st2.a).2, st2.l, st2.hv⟩ := ⟨hle, hi2.l, Nat.le_trans hi2.hv hge⟩
     generalize (restR s st2.a).2 = a4 at *
     have HRX := Lib.hid hr4
     have k5 := hr4.cell 5
     have k0 := hr4.cell 0
     clear hr4 hrr hrb
     by_cases hlt : a4 < s.size
     ·have HLN5 := Lib.hid (show linesR s m ⟨a4, st2.l, st2.hv⟩ = R0 from by have := HLN4.out; simp only [afterR, if_pos hlt] at this; exact this)
      have hd : decide (a4 < s.size) = true := decide_eq_true hlt
      go_wp2_with (fail)
      refine (at_calls _ (B + 1) s _ HC4.out).mono ?_
      rintro e w5 ⟨rfl, rfl⟩
      go_wp2_with (fail)
      go_step3
      (try simp only [Exit.jump])
      refine ⟨rfl, exists_u (⟨a4, st2.l, st2.hv⟩ : PSt) rfl ⟨⟨lv2, wh2, HRX.out, HL4.out, HC4.out⟩, HPX4.out, hinv4, ⟨m, HLN5.out, by simp only; omega⟩, HBALL4.out⟩, ?_⟩
      have hm4 := curMu_eq HC4.out
      refine Nat.lt_of_le_of_lt (Nat.le_of_eq hm4) (Nat.lt_of_lt_of_le ?_ (Nat.le_of_eq HMU.out.symm))
      omega
     ·have hln5 := HLN4.out
      simp only [afterR, if_neg hlt] at hln5
      have HLO := Lib.hid (locksR_ok hs (HR0.out.trans hln5.symm))
      have hd : decide (a4 < s.size) = false := decide_eq_false hlt
      clear hln5 HLN4
      go_wp2_with (fail)
      refine (at_calls _ (B + 1) s _ HC4.out).mono ?_
      rintro e w5 ⟨rfl, rfl⟩
      go_wp2_with (fail)
      refine (ended_calls _ (B + 2) (B + 1) s lv2 st2.hv wh2 s.size (B + 1) st2.l HRX.out HL4.out hinv4.l).mono ?_
      rintro e w6 ⟨rfl, hr6, hf6⟩
      have hl6 := Ls.keep HL4.out hf6 (Blk.ty HRX.out (by decide))
      have hb6 : Below (B + 1) w4 w6 := hf6.below (by have := Blk.lt HC4.out; omega) (fun k hk => by rw [hk]; omega)
      have HPX6 := Lib.hid (Blk.under HPX4.out hb6)
      have HBALL6 := Lib.hid (HBALL4.out.trans (below_succ hb6))
      have HL6 := Lib.hid hl6
      clear hf6 hl6 hb6
      by_cases hE : endedE st2.l = 0
      ·have HLO2 := Lib.hid (HLO.out.trans (if_pos hE))
       rw [if_pos hE] at hr6
       have k5 := hr6.cell 5
       have k2 := hr6.cell 2
       have HR6 := Lib.hid hr6
       have hn6 : st2.l.length ≤ 40 := hinv4.l
       clear hr6 hE
       go_wp2_with (fail)
       refine (rows_clone w6 (B + 1) lv2 st2.l HL6.out (by omega)).mono ?_
       rintro e w7 ⟨v, rfl, hl7, hb7⟩
       have hk7 := HPX6.out.below hb7
       have kp0 := hk7.cell 0
       have kp1 := hk7.cell 1
       have fp0 := hk7.unfrozen 0
       have fp1 := hk7.unfrozen 1
       have HL7 := Lib.hid hl7
       have HB7 := Lib.hid hb7
       have HK7 := Lib.hid hk7
       clear hl7 hb7 hk7
       go_wp2_with (fail)
       (try simp only [Exit.jump])
       refine bodyPost_ret (results_tct rfl _ _ B 35 #[.int .i64 0, .int .i64 0] (0, 0) _ rfl ((HK7.out.put 0 (.int .i64 0)).put 1 (.int .i64 0)) Tryd.underlying35 rfl (by kernel_rfl)) rfl ?_
       exact locks_good HLO2.out HB.out HBALL6.out HB7.out HL7.out HK7.out _ _
      ·have HLO2 := Lib.hid (HLO.out.trans (if_neg hE))
       rw [if_neg hE] at hr6
       have HNE := Lib.hid hE
       have hb1 : (endedE st2.l == 0) = false := by simpa using hE
       have hb2 : (endedE st2.l != 0) = true := by simpa using hE
       generalize endedE st2.l = E at *
       have HRX6 := Lib.hid hr6
       have k5 := hr6.cell 5
       have k4 := hr6.cell 4
       clear hr6 hE
       go_wp2_with (fail)
       go_region_with (go_at_call 19; refine (place_calls _ s s.size (Nat.le_refl _) hs').mono ?_; rintro e wp ⟨rfl, hbp⟩; obtain ⟨k5p, kp0, kp1, fp0, fp1, HKP, HBP⟩ := place_facts (w0 := w6) hbp rfl rfl rfl rfl HRX6.out HPX6.out)
       all_goals (go_wp2_with (fail))
       all_goals (try simp only [Exit.jump])
       all_goals refine bodyPost_ret (results_tct rfl _ _ B 35 #[.int .i64 (place (List.take s.size s.data.toList)).1, .int .i64 (place (List.take s.size s.data.toList)).2] (0, 0) _ rfl ((HKP.out.put 0 (.int .i64 (place (List.take s.size s.data.toList)).1)).put 1 (.int .i64 (place (List.take s.size s.data.toList)).2)) Tryd.underlying35 rfl (by kernel_rfl)) rfl ?_
       all_goals exact locks_bad HLO2.out HNE.out HB.out HBALL6.out HBP.out _ _
 ·intro HP
  go_wp2_with (fail)
  refine (new_calls _ _).mono ?_
  rintro e w1 ⟨rfl, rfl⟩
  go_wp2_with (fail)
  go_step3
  have hB := HB.out
  subst hB
  simp only [Exit.then]
  rename_i K hK
  refine hK _ _ (HP _ _ ?_)
  refine exists_u (⟨0, [], ⟨#[]⟩⟩ : PSt) rfl ?_
  refine ⟨⟨.slice none 0 0, 0, ?_, own_nil _ _ _ 5, ?_⟩, ?_, ⟨Nat.zero_le _, Nat.zero_le _, Nat.le_refl _⟩, ⟨s.size + 1, rfl, by simp only; omega⟩, ?_⟩
  ·have := Blk.new ((w.alloc (.cells #[.int .i64 0, .int .i64 0] 35)).alloc (.cells #[.string s, .int .i64 0] 59)) 53 #[.pointer (some ⟨w.heap.size + 1, 0, none⟩), .string s, .slice none 0 0, .string ⟨#[]⟩, .int .i64 0, .int .i64 0]
   have e : ((w.alloc (.cells #[.int .i64 0, .int .i64 0] 35)).alloc (.cells #[.string s, .int .i64 0] 59)).heap.size = w.heap.size + 2 := by simp
   rw [e] at this
   exact this
  ·have := Blk.new (w.alloc (.cells #[.int .i64 0, .int .i64 0] 35)) 59 #[.string s, .int .i64 0]
   have e : (w.alloc (.cells #[.int .i64 0, .int .i64 0] 35)).heap.size = w.heap.size + 1 := by simp
   rw [e] at this
   exact this.alloc _
  ·exact ((Blk.new w _ _).alloc _).alloc _
  ·exact ((((Fr.refl (fun _ => False) w).alloc _).alloc _).alloc _).below (Nat.le_refl _) (fun _ h => h.elim)
end
end Go.Proofs.YtljfcdfdedkajaaDoor.Q
end
section
namespace Go.Proofs.YtljfcdfdedkajaaDoor.Q
open Go.RowKit Go.Proofs.YtljfcdfdedkajaaDoorW.PrintWords Go.Proofs.YtljfcdfdedkajaaDoorW.PrintLast Go.Proofs.YtljfcdfdedkajaaDoorW.PrintMore
def Lk.out (x : Lk) : S31 := ⟨x.root, x.version, x.rev, x.within, x.source⟩
theorem lkCells_take (l : List Lk) : ∀ (j : Nat) (x : Lk), l[j]? = some x → ((lkCells l).drop (j * 5)).take 5 = x.cells := by
 induction l with
 | nil => intro j x h; simp at h
 | cons y l ih =>
  intro j x h
  have e : lkCells (y :: l) = y.cells ++ lkCells l := by simp [lkCells]
  have hy : y.cells.length = 5 := rfl
  cases j with
  | zero =>
   simp only [List.getElem?_cons_zero, Option.some.injEq] at h
   subst h
   rw [e, Nat.zero_mul, List.drop_zero, List.take_append_of_le_length (by omega), List.take_of_length_le (by omega)]
  | succ j =>
   rw [List.getElem?_cons_succ] at h
   have := ih j x h
   rw [e, show (j + 1) * 5 = y.cells.length + j * 5 from by rw [hy]; omega, ← List.drop_drop, List.drop_left, this]
theorem Ls.out {w : World} {base : Nat} {v : Value} {l : List Lk} (h : Ls w base v l) : Kd.R k31 31 w base (fun _ => True) v (l.map Lk.out) := by
 refine ⟨fun _ _ => trivial, lkCells l, by rw [List.length_map]; exact h, by rw [lkCells_length, List.length_map]; rfl, fun j p hp => ?_⟩
 rw [List.getElem?_map] at hp
 obtain ⟨x, hx, rfl⟩ := Option.map_eq_some_iff.1 hp
 have := lkCells_take l j x hx
 show Kd.M k31 _ _ _ _ (((lkCells l).drop (j * 5)).take 5)
 rw [this]
 exact k31_mkM _ _ _ _
def table_Locks.line (s : ByteArray) : Nat × Nat := if (locksR s).2.2 = 0 then (0, 0) else place (s.data.toList.take (locksR s).2.1)
def table_Locks.f (a0 : ByteArray) : Option (List S31 × Int × Int × Int) :=
 if a0.size ≤ 140737488351232 then some ((locksR a0).1.map Lk.out, ((table_Locks.line a0).1 : Int), ((table_Locks.line a0).2 : Int), (locksR a0).2.2) else none
theorem table_Locks.calls (a0 : ByteArray) (r1 : List (S31)) (r2 : Int) (r3 : Int) (r4 : Int) (w : World) (hG : GL w) (h : table_Locks.f a0 = some (r1, r2, r3, r4)) :
  Calls Tryd.prog 11 #[.string a0] w fun e w' => ∃ v0_ : Value, e = .returned (.tuple #[v0_, .agg #[.int .i64 r2, .int .i64 r3], .int .i64 r4]) ∧ Kd.R k31 31 w' w.heap.size (fun _ => True) v0_ r1 ∧ Below w.heap.size w w' := by
 unfold table_Locks.f at h
 split at h
 ·next hs =>
  simp only [Option.some.injEq, Prod.mk.injEq] at h
  obtain ⟨rfl, rfl, rfl, rfl⟩ := h
  have hc : Calls Tryd.prog 11 #[.string a0] w (LocksPost w a0) := by
   by_cases hl : 8000 < a0.size
   ·exact locks_long w a0 hs hl
   ·exact locks_short w a0 (by omega) hG
  refine hc.mono ?_
  rintro e w' ⟨v, rfl, hl, hb⟩
  refine ⟨v, ?_, hl.out, hb⟩
  unfold locksV table_Locks.line
  simp only
  split
  ·rfl
  ·rfl
 ·cases h
end Go.Proofs.YtljfcdfdedkajaaDoor.Q
end
