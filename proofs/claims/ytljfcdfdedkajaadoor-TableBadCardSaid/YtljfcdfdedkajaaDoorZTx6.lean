import Derived.Test.YtljfcdfdedkajaaDoorZTt
import Derived.Test.YtljfcdfdedkajaaDoorZTu2g
import Derived.Deep.CutBlock
import Derived.Deep.DeepCutAuto
set_option linter.unusedVariables false
set_option linter.unusedSimpArgs false
namespace Go.Proofs.YtljfcdfdedkajaaDoor.Q
open Go.RowKit Go.Proofs.YtljfcdfdedkajaaDoorW.PrintWords Go.Proofs.YtljfcdfdedkajaaDoorW.PrintLast Go.Proofs.YtljfcdfdedkajaaDoorW.PrintMore
theorem lower_all : ∀ n : Nat, n < 256 → lower (UInt8.ofNat n) = (decide (97 ≤ n) && decide (n ≤ 122)) := by decide +kernel
theorem lower_eq (b : UInt8) : lower b = (decide (97 ≤ b.toNat) && decide (b.toNat ≤ 122)) := by
  have := lower_all b.toNat b.toNat_lt
  simpa only [UInt8.ofNat_toNat] using this
theorem getD_byte (s : ByteArray) (j : Nat) (h : j < s.size) : s.data.toList.getD j 0 = s[j] := by
  have hd := drop_at s j h
  have : s.data.toList[j]? = some s[j] := by rw [← List.head?_drop, hd]; rfl
  rw [List.getD_eq_getElem?_getD, this]
  rfl
theorem word_nm {x : ByteArray} {k : Nat} (h : Lib.idxOfS names x = k) (hk : k < 5) : x = nm k := by
  have e : Lib.idxOfS names x = if wordRoot = x then 0 else if wordVersion = x then 1 else if wordRev = x then 2 else if wordWithin = x then 3 else if wordSource = x then 4 else -1 := rfl
  rw [e] at h
  by_cases h0 : wordRoot = x
  · rw [if_pos h0] at h
    obtain rfl : k = 0 := by omega
    exact h0.symm
  rw [if_neg h0] at h
  by_cases h1 : wordVersion = x
  · rw [if_pos h1] at h
    obtain rfl : k = 1 := by omega
    exact h1.symm
  rw [if_neg h1] at h
  by_cases h2 : wordRev = x
  · rw [if_pos h2] at h
    obtain rfl : k = 2 := by omega
    exact h2.symm
  rw [if_neg h2] at h
  by_cases h3 : wordWithin = x
  · rw [if_pos h3] at h
    obtain rfl : k = 3 := by omega
    exact h3.symm
  rw [if_neg h3] at h
  by_cases h4 : wordSource = x
  · rw [if_pos h4] at h
    obtain rfl : k = 4 := by omega
    exact h4.symm
  rw [if_neg h4] at h
  omega
theorem needs_nm : ∀ k : Fin 5, needsPath (nm k.val) = (k.val == 0 || k.val == 4) := by decide +kernel
theorem has_cell {w : World} {p : Nat} {s : ByteArray} {P e a : Int} {lv : Value} {has : Nat → Bool} (h : F6 w p s P e a lv has) (k : Nat) (hk : k < 5) : w.cell? ⟨p, 5 + k, none⟩ = some (.bool (has k)) := by
  rw [h.cell (5 + k)]
  rcases k with _ | _ | _ | _ | _ | k
  all_goals first | rfl | omega
theorem has_put {w : World} {p : Nat} {s : ByteArray} {P e a : Int} {lv : Value} {has : Nat → Bool} (h : F6 w p s P e a lv has) (k : Nat) (hk : k < 5) : F6 (w.setCell ⟨p, 5 + k, none⟩ (.bool true)) p s P e a lv (fun j => if j = k then true else has j) := by
  have := h.put (5 + k) (.bool true)
  rcases k with _ | _ | _ | _ | _ | k
  all_goals first | exact this | omega
theorem Ls.put5 {w : World} {base q c : Nat} {l : List Lk} {x : Lk} (h : Ls w base (.slice (some ⟨q, 0, none⟩) (l.length + 1) c) (l ++ [x])) (y : Lk) :
    Ls (((((w.setCell ⟨q, l.length * 5, none⟩ (.string y.root)).setCell ⟨q, l.length * 5 + 1, none⟩ (.string y.version)).setCell ⟨q, l.length * 5 + 2, none⟩ (.string y.rev)).setCell ⟨q, l.length * 5 + 3, none⟩ (.string y.within)).setCell ⟨q, l.length * 5 + 4, none⟩ (.string y.source)) base (.slice (some ⟨q, 0, none⟩) (l.length + 1) c) (l ++ [y]) := by
  have h5 := ((((h.put 0 (by decide) y.root).put 1 (by decide) y.version).put 2 (by decide) y.rev).put 3 (by decide) y.within).put 4 (by decide) y.source
  exact h5
theorem keep11 {w W W' : World} {p q J : Nat} {a b c d e f : Value}
    (hs : W.cell? ⟨p, 4, none⟩ = some a ∧ W.cell? ⟨q, J, none⟩ = some b ∧ W.cell? ⟨q, J + 1, none⟩ = some c ∧ W.cell? ⟨q, J + 2, none⟩ = some d ∧ W.cell? ⟨q, J + 3, none⟩ = some e ∧ W.cell? ⟨q, J + 4, none⟩ = some f ∧ W.frozen? ⟨q, J, none⟩ = false ∧ W.frozen? ⟨q, J + 1, none⟩ = false ∧ W.frozen? ⟨q, J + 2, none⟩ = false ∧ W.frozen? ⟨q, J + 3, none⟩ = false ∧ W.frozen? ⟨q, J + 4, none⟩ = false ∧ Below w.heap.size w W)
    (hb : Below W.heap.size W W') :
    W'.cell? ⟨p, 4, none⟩ = some a ∧ W'.cell? ⟨q, J, none⟩ = some b ∧ W'.cell? ⟨q, J + 1, none⟩ = some c ∧ W'.cell? ⟨q, J + 2, none⟩ = some d ∧ W'.cell? ⟨q, J + 3, none⟩ = some e ∧ W'.cell? ⟨q, J + 4, none⟩ = some f ∧ W'.frozen? ⟨q, J, none⟩ = false ∧ W'.frozen? ⟨q, J + 1, none⟩ = false ∧ W'.frozen? ⟨q, J + 2, none⟩ = false ∧ W'.frozen? ⟨q, J + 3, none⟩ = false ∧ W'.frozen? ⟨q, J + 4, none⟩ = false ∧ Below w.heap.size w W' := by
  obtain ⟨h0, h1, h2, h3, h4, h5, f1, f2, f3, f4, f5, h6⟩ := hs
  have hq := World.block_lt_of_cell? W _ h1
  exact ⟨pw_cell_below hb h0, pw_cell_below hb h1, pw_cell_below hb h2, pw_cell_below hb h3, pw_cell_below hb h4, pw_cell_below hb h5,
    (hb.frozen (p := ⟨q, J, none⟩) hq).trans f1, (hb.frozen (p := ⟨q, J + 1, none⟩) hq).trans f2, (hb.frozen (p := ⟨q, J + 2, none⟩) hq).trans f3, (hb.frozen (p := ⟨q, J + 3, none⟩) hq).trans f4, (hb.frozen (p := ⟨q, J + 4, none⟩) hq).trans f5, below_then h6 h6.size hb⟩
theorem drew_cell {W : World} {a : Addr} {v : Value} (h : W.cell? a = some v) : W.drew.cell? a = some v := h
theorem set5_cell {W : World} {p q J : Nat} {v v0 v1 v2 v3 v4 : Value} (h : p ≠ q) (hc : W.cell? ⟨p, 4, none⟩ = some v) : (((((W.setCell ⟨q, J, none⟩ v0).setCell ⟨q, J + 1, none⟩ v1).setCell ⟨q, J + 2, none⟩ v2).setCell ⟨q, J + 3, none⟩ v3).setCell ⟨q, J + 4, none⟩ v4).cell? ⟨p, 4, none⟩ = some v := by
  rw [cell_far (p := ⟨q, _, none⟩) h, cell_far (p := ⟨q, _, none⟩) h, cell_far (p := ⟨q, _, none⟩) h, cell_far (p := ⟨q, _, none⟩) h, cell_far (p := ⟨q, _, none⟩) h]
  exact hc
theorem lsat_free {w : World} {base q c : Nat} {l : List Lk} (h : LsAt w base q c l) (j : Nat) : w.frozen? ⟨q, j, none⟩ = false := by
  obtain ⟨cs, hc, _⟩ := h.blk
  simp [World.frozen?, hc]
theorem lsat_ne {w : World} {base q c p : Nat} {l : List Lk} {t : TypeId} {cs : Array Value} (h : LsAt w base q c l) (hp : Blk w p t cs) (ht : t ≠ 31) : p ≠ q := by
  rintro rfl
  obtain ⟨cs', hc, _⟩ := h.blk
  have hp' : w.heap[p]? = some (.cells cs t (0, 0)) := hp
  rw [hc] at hp'
  injection hp' with hp'
  injection hp' with h1 h2
  exact ht h2.symm
theorem Fr.put5 (w : World) (S : Nat → Prop) (q J : Nat) (hS : S q) (v0 v1 v2 v3 v4 : Value) : Fr S w (((((w.setCell ⟨q, J, none⟩ v0).setCell ⟨q, J + 1, none⟩ v1).setCell ⟨q, J + 2, none⟩ v2).setCell ⟨q, J + 3, none⟩ v3).setCell ⟨q, J + 4, none⟩ v4) :=
  (((((Fr.refl S w).put (p := ⟨q, J, none⟩) (.inl hS) v0).put (p := ⟨q, J + 1, none⟩) (.inl hS) v1).put (p := ⟨q, J + 2, none⟩) (.inl hS) v2).put (p := ⟨q, J + 3, none⟩) (.inl hS) v3).put (p := ⟨q, J + 4, none⟩) (.inl hS) v4
section
variable (w : World) (base p : Nat) (s : ByteArray)
set_option maxHeartbeats 4000000 in
set_option maxRecDepth 100000 in
theorem field6_calls (P : Nat) (a : Int) (lv : Value) (has : Nat → Bool) (l : List Lk) (hv : ByteArray) (h : F6 w p s P 0 a lv has) (hl : Ls w base lv l) (hh : HasRel has hv) (hbp : base ≤ p) (hP : P ≤ s.size) (hs : s.size ≤ 1000000) (hn : l.length ≤ 41) :
    Calls Tryd.prog 31 #[.pointer (some ⟨p, 0, none⟩)] w (Step6 w base p s (thenRest s (fieldR s ⟨P, l, hv⟩))) := by
  generalize hR : thenRest s (fieldR s ⟨P, l, hv⟩) = R
  have HR := Lib.hid hR
  clear hR
  have h0 := h.cell 0
  have h1 := h.cell 1
  have H := Lib.hid h
  have HL := Lib.hid hl
  have HH := Lib.hid hh
  have hbs : base ≤ w.heap.size := Nat.le_trans hbp (Nat.le_of_lt (Blk.lt h))
  have HBS := Lib.hid hbs
  obtain ⟨A, cc, rfl⟩ := own_slice hl
  clear h hl hbs hh
  go_enter Tryd.func31, Tryd.ntmps31
  go_upto_block 0 with (fail)
  go_cut [] (fun wx => F6 wx p s (spanEnd lower s P : Nat) 0 a (.slice A l.length cc) has ∧ Fr (· = p) w wx)
  case first =>
      go_wp2_with (fail)
      go_loopg [] (s.size - P) (fun q wr => ∃ j : Nat, q = s.size - j ∧ P ≤ j ∧ j ≤ s.size ∧ spanEnd lower s j = spanEnd lower s P ∧ F6 wr p s j 0 a (.slice A l.length cc) has ∧ Fr (· = p) w wr)
      case atStart => exact ⟨P, rfl, Nat.le_refl _, hP, rfl, H.out, Fr.refl _ _⟩
      case round =>
        obtain ⟨j, rfl, hPj, hj, he, h, hf⟩ := hrel
        have h0 := h.cell 0
        have h1 := h.cell 1
        have f1 := h.unfrozen 1
        have HJ := Lib.hid h
        have HE := Lib.hid he
        have HF := Lib.hid hf
        clear h he hf
        cases hb : (decide (j < s.size) && lower (s.data.toList.getD j 0)) with
        | true =>
          simp only [Bool.and_eq_true, decide_eq_true_eq] at hb
          obtain ⟨hlt, hlo⟩ := hb
          have hg : s.data.toList.getD j 0 = s[j] := getD_byte s j hlt
          rw [hg] at hlo
          have HE2 := Lib.hid ((spanEnd_yes lower s j hlt hlo).symm.trans HE.out)
          rw [lower_eq, Bool.and_eq_true, decide_eq_true_eq, decide_eq_true_eq] at hlo
          have d1 : decide ((j : Int) < (s.size : Int)) = true := decide_eq_true (by omega)
          have i1 : (0 : Int) ≤ (j : Int) ∧ (j : Int) < (s.size : Int) := ⟨by omega, by omega⟩
          have n1 : decide (97 ≤ s[j].toNat) = true := decide_eq_true hlo.1
          have n2 : decide (s[j].toNat ≤ 122) = true := decide_eq_true hlo.2
          have n3 : decide ((97 : Int) ≤ (s[j].toNat : Int)) = true := decide_eq_true (by omega)
          have n4 : decide ((s[j].toNat : Int) ≤ 122) = true := decide_eq_true (by omega)
          clear hlo hg
          go_wp2_with (fail)
          go_quiet (fail)
          go_wp2_with (fail)
          go_roundg (s.size - (j + 1))
          case measure => omega
          case rel => exact ⟨j + 1, rfl, by omega, by omega, HE2.out, (HJ.out.drewN _).put 1 _, (HF.out.drewN _).put (.inl rfl) _⟩
        | false =>
          have HE2 : Hid (spanEnd lower s P = j) := by
            by_cases hlt : j < s.size
            · have hg : s.data.toList.getD j 0 = s[j] := getD_byte s j hlt
              rw [hg, decide_eq_true hlt, Bool.true_and] at hb
              exact Lib.hid (HE.out.symm.trans (spanEnd_no lower s j hlt hb))
            · exact Lib.hid (HE.out.symm.trans (spanEnd_end lower s j (by omega)))
          have FIN : Hid (∀ n, F6 (wr.drewN n) p s (spanEnd lower s P : Nat) 0 a (.slice A l.length cc) has ∧ Fr (· = p) w (wr.drewN n)) := Lib.hid (fun n => by
            rw [HE2.out]
            exact ⟨HJ.out.drewN n, HF.out.drewN n⟩)
          by_cases hlt : j < s.size
          · have d1 : decide ((j : Int) < (s.size : Int)) = true := decide_eq_true (by omega)
            have i1 : (0 : Int) ≤ (j : Int) ∧ (j : Int) < (s.size : Int) := ⟨by omega, by omega⟩
            rw [getD_byte s j hlt, decide_eq_true hlt, Bool.true_and, lower_eq] at hb
            by_cases h97 : 97 ≤ s[j].toNat
            · have n1 : decide (97 ≤ s[j].toNat) = true := decide_eq_true h97
              have n3 : decide ((97 : Int) ≤ (s[j].toNat : Int)) = true := decide_eq_true (by omega)
              rw [n1, Bool.true_and] at hb
              have n2 : decide (s[j].toNat ≤ 122) = false := hb
              have n4 : decide ((s[j].toNat : Int) ≤ 122) = false := decide_eq_false (by have := of_decide_eq_false hb; omega)
              clear hb h97
              go_wp2_with (fail)
              go_quiet (fail)
              go_wp2_with (fail)
              go_meet
              exact FIN.out _
            · have n1 : decide (97 ≤ s[j].toNat) = false := decide_eq_false h97
              have n3 : decide ((97 : Int) ≤ (s[j].toNat : Int)) = false := decide_eq_false (by omega)
              clear hb h97
              go_wp2_with (fail)
              go_quiet (fail)
              go_wp2_with (fail)
              go_meet
              exact FIN.out _
          · have d1 : decide ((j : Int) < (s.size : Int)) = false := decide_eq_false (by omega)
            clear hb
            go_wp2_with (fail)
            go_quiet (fail)
            go_wp2_with (fail)
            go_meet
            exact FIN.out _
  case rest =>
    obtain ⟨hf6, hfr⟩ := hcut
    have hE := spanEnd_le lower s P hP
    have hEg := spanEnd_ge lower s P
    generalize hEE : spanEnd lower s P = E at hf6 hE hEg
    have HEE := Lib.hid hEE
    clear hEE
    have h0 := hf6.cell 0
    have h1 := hf6.cell 1
    have HC := Lib.hid hf6
    have HLC := Lib.hid (HL.out.keep hfr (Blk.ty H.out (by decide)))
    have HBC := Lib.hid (hfr.below HBS.out (fun k hk => by rw [hk]; exact hbp))
    clear hf6 hfr
    have i3 : (0 : Int) ≤ (P : Int) ∧ (P : Int) ≤ (E : Int) ∧ (E : Int) ≤ (s.size : Int) := ⟨by omega, by omega, by omega⟩
    go_wp2_with (fail)
    go_still_tail 10, (by kernel_rfl)
    change wpList _ _ _ _ _ wc.drew
    have hb0 := below_drew HBC.out
    have hf0 : F6 wc.drew p s E 0 a (.slice A l.length cc) has := HC.out.drew
    have hl0 : Ls wc.drew base (.slice A l.length cc) l := HLC.out
    clear h0 h1 HBC HC HLC
    generalize wc.drew = w1 at *
    have h0 := hf0.cell 0
    have h1 := hf0.cell 1
    have HC := Lib.hid hf0
    have HLC := Lib.hid hl0
    have HBC := Lib.hid hb0
    clear hf0 hl0 hb0
    go_wp2_with (fail)
    refine (transhumanceref6_Key.calls 6 _ _ _ (key6_f (s.extract P E))).mono ?_
    rintro en w2 ⟨rfl, hb2⟩
    have H2 := Lib.hid (HC.out.below hb2)
    have HL2 : Hid (Ls w2 base (.slice A l.length cc) l) := Lib.hid (pw_own_below HLC.out hb2)
    have HB2 := Lib.hid (below_then HBC.out (Nat.le_trans HBS.out HBC.out.size) hb2)
    have h4 := H2.out.cell 4
    clear hb2
    have bad1 : ∀ (W : World), (l = [] ∨ Lib.idxOfS names (s.extract P E) < 0) → F6 W p s E 1 P (.slice A l.length cc) has → Fr (· = p) w2 W → Step6 w base p s R (.returned (.tuple #[])) W := by
      intro W hc hF hFr
      refine ⟨rfl, ?_, HB2.out.trans (hFr.below (Nat.le_trans HBS.out HB2.out.size) (fun k hk => by rw [hk]; exact hbp))⟩
      have e : fieldR s ⟨P, l, hv⟩ = .bad P 1 := by
        rcases List.eq_nil_or_concat l with rfl | ⟨init, x, rfl⟩
        · rfl
        · rw [List.concat_eq_append] at *
          rw [fieldR_snoc, HEE.out, if_pos (hc.resolve_left (by simp))]
      rw [← HR.out, e]
      exact ⟨by decide, E, _, has, l, hF, by omega, HL2.out.keep hFr (Blk.ty H2.out (by decide)), hn⟩
    have BAD1 := Lib.hid bad1
    clear bad1
    by_cases hk : Lib.idxOfS names (s.extract P E) < 0
    · have d1 : decide (Lib.idxOfS names (s.extract P E) < 0) = true := decide_eq_true hk
      have HK := Lib.hid hk
      clear hk
      go_wp2_with (fail)
      refine (fail_calls _ p s _ _ _ has E H2.out 1 P).mono ?_
      rintro en w3 ⟨rfl, hf3, hfr3⟩
      have HF3 := Lib.hid hf3
      have HFR3 := Lib.hid hfr3
      clear hf3 hfr3
      go_wp2_with (fail)
      go_end0
      exact BAD1.out _ (.inr HK.out) HF3.out HFR3.out
    have d1 : decide (Lib.idxOfS names (s.extract P E) < 0) = false := decide_eq_false hk
    rcases List.eq_nil_or_concat l with hl | ⟨init, x, hl⟩
    · have HLN := Lib.hid hl
      have hlz : l.length = 0 := by rw [hl]; rfl
      have n1 : ((l.length : Int) == 0) = true := by rw [hlz]; rfl
      have n2 : (l.length == 0) = true := by rw [hlz]; rfl
      clear hl
      have HLZ := Lib.hid hlz
      clear hlz
      have HK := Lib.hid hk
      clear hk
      go_wp2_with (fail)
      refine (fail_calls _ p s _ _ _ has E H2.out 1 P).mono ?_
      rintro en w3 ⟨rfl, hf3, hfr3⟩
      have HF3 := Lib.hid hf3
      have HFR3 := Lib.hid hfr3
      clear hf3 hfr3
      go_wp2_with (fail)
      go_end0
      exact BAD1.out _ (.inl HLN.out) HF3.out HFR3.out
    rw [List.concat_eq_append] at hl
    have hlz : l.length = init.length + 1 := by rw [hl]; simp
    have n1 : ((l.length : Int) == 0) = false := by rw [hlz]; simp only [beq_eq_false_iff_ne, ne_eq]; omega
    have n2 : (l.length == 0) = false := by rw [hlz]; rfl
    obtain ⟨k, hk5, hke⟩ := idx_lt (s.extract P E) hk
    have HLN := Lib.hid hl
    have HLZ := Lib.hid hlz
    have HK := Lib.hid hk
    have HKE := Lib.hid hke
    clear hl hlz hk BAD1
    rw [hke] at d1 ⊢
    clear hke
    have hks : w2.cell? ⟨p, 5 + k, none⟩ = some (.bool (has k)) := has_cell H2.out k hk5
    have ik : (0 : Int) ≤ (k : Int) ∧ (k : Int) < 5 := ⟨by omega, by omega⟩
    cases hhk : has k with
    | true =>
      rw [hhk] at hks
      have HHK := Lib.hid hhk
      clear hhk
      go_wp2_with (fail)
      refine (fail_calls _ p s _ _ _ has E H2.out 4 P).mono ?_
      rintro en w3 ⟨rfl, hf3, hfr3⟩
      have HF3 := Lib.hid hf3
      have HFR3 := Lib.hid hfr3
      clear hf3 hfr3
      go_wp2_with (fail)
      go_end0
      refine ⟨rfl, ?_, HB2.out.trans (HFR3.out.below (Nat.le_trans HBS.out HB2.out.size) (fun k hk => by rw [hk]; exact hbp))⟩
      have e : fieldR s ⟨P, l, hv⟩ = .bad P 4 := by
        rw [HLN.out, fieldR_snoc, HEE.out, if_neg (fun hneg => by have := HK.out; omega), if_pos]
        rw [word_nm HKE.out hk5, ← HasRel.at_ HH.out k hk5]
        exact HHK.out
      rw [← HR.out, e]
      exact ⟨by decide, E, _, has, l, HF3.out, by omega, HL2.out.keep HFR3.out (Blk.ty H2.out (by decide)), hn⟩
    | false =>
      rw [hhk] at hks
      have HHK := Lib.hid hhk
      clear hhk
      have hR2 : R = thenRest s (if Lib.hasPrefix (s.data.toList.drop (spanEnd blank s E)) eqs.data.toList = true then
          tailR s init x hv (s.extract P E) k (spanEnd blank s (spanEnd blank s E + 1)) else .bad (spanEnd blank s E) 1) := by
        rw [← HR.out, HLN.out, fieldR_snoc, HEE.out, if_neg (fun hneg => by have := HK.out; omega), if_neg, HKE.out]
        · rfl
        · rw [word_nm HKE.out hk5, ← HasRel.at_ HH.out k hk5, HHK.out]
          decide
      have HR2 := Lib.hid hR2
      clear hR2
      go_wp2_with (fail)
      refine (blanks6_calls _ p s _ _ _ has E H2.out hE (by omega)).mono ?_
      rintro en w3 ⟨rfl, h3, hf3⟩
      have hB := spanEnd_le blank s E hE
      generalize hBB : spanEnd blank s E = B at h3 hB
      have HBB := Lib.hid hBB
      clear hBB
      have h0 := h3.cell 0
      have h1 := h3.cell 1
      have f1 := h3.unfrozen 1
      have H3 := Lib.hid h3
      have HF3 := Lib.hid hf3
      have HKS := Lib.hid hks
      clear h3 hf3 hks h4
      have bad2 : ∀ W, Lib.hasPrefix (s.data.toList.drop B) eqs.data.toList = false → F6 W p s B 1 B (.slice A l.length cc) has → Fr (· = p) w2 W → Step6 w base p s R (.returned (.tuple #[])) W := by
        intro W hc hF hFr
        refine ⟨rfl, ?_, HB2.out.trans (hFr.below (Nat.le_trans HBS.out HB2.out.size) (fun k hk => by rw [hk]; exact hbp))⟩
        rw [HR2.out, HBB.out, if_neg (by rw [hc]; decide)]
        exact ⟨by decide, B, _, has, l, hF, by omega, HL2.out.keep hFr (Blk.ty H2.out (by decide)), hn⟩
      have BAD2 := Lib.hid bad2
      clear bad2
      by_cases hBs : B < s.size
      · have d2 : decide (s.size ≤ B) = false := decide_eq_false (by omega)
        have d3 : decide ((s.size : Int) ≤ (B : Int)) = false := decide_eq_false (by omega)
        have i1 : (0 : Int) ≤ (B : Int) ∧ (B : Int) < (s.size : Int) := ⟨by omega, by omega⟩
        by_cases h61 : s[B] = 61
        · have n3 : ((s[B].toNat : Int) != 61) = false := by rw [h61]; rfl
          have hpre : Lib.hasPrefix (s.data.toList.drop B) eqs.data.toList = true := by
            rw [drop_at s B hBs, h61]
            rfl
          have HP := Lib.hid hpre
          clear hpre h61
          go_wp2_with (fail)
          go_quiet (fail)
          go_wp2_with (fail)
          have h4 := (H3.out.drewN nq).put 1 (.int .i64 ((B + 1 : Nat) : Int))
          have hf4 := (HF3.out.drewN nq).put (p := ⟨p, 1, none⟩) (.inl rfl) (.int .i64 ((B + 1 : Nat) : Int))
          refine (blanks6_calls _ p s _ _ _ has (B + 1) h4 (by omega) (by omega)).mono ?_
          rintro en w5 ⟨rfl, h5, hf5⟩
          have HF5 := Lib.hid (hf4.same hf5)
          have hC := spanEnd_le blank s (B + 1) (by omega)
          generalize hCC : spanEnd blank s (B + 1) = C at h5 hC
          have hR3 := HR2.out
          rw [HBB.out, if_pos HP.out, hCC] at hR3
          have HR3 := Lib.hid hR3
          have hB5 := HB2.out.trans (HF5.out.below (Nat.le_trans HBS.out HB2.out.size) (fun k hk => by rw [hk]; exact hbp))
          have HB5 := Lib.hid hB5
          have hl5 : Ls w5 base (.slice A l.length cc) l := HL2.out.keep HF5.out (Blk.ty H2.out (by decide))
          have HL5 := Lib.hid hl5
          clear h4 hf4 hf5 hCC hR3 hB5 hl5 d2 d3 n3 h0 h1 f1
          have h0 := h5.cell 0
          have h1 := h5.cell 1
          have H5 := Lib.hid h5
          clear h5
          have hux : unq (s.extract C s.size).data.toList = unq (s.data.toList.drop C) := by rw [ByteArray.data_extract, Array.toList_extract, List.extract_eq_take_drop, List.take_of_length_le (by rw [List.length_drop, data_length]; exact Nat.le_refl _)]
          have hz8 : (s.extract C s.size).size ≤ 1000000 := by rw [ByteArray.size_extract]; omega
          have hu := unq6_f (s.extract C s.size) hz8
          rw [hux] at hu
          have i6 : (0 : Int) ≤ (C : Int) ∧ (C : Int) ≤ (s.size : Int) := ⟨by omega, by omega⟩
          clear hux hz8
          cases hq : unq (s.data.toList.drop C) with
          | none =>
            rw [hq] at hu
            have HU : Hid (∀ w, Calls Tryd.prog 60 #[.string (s.extract C s.size)] w fun e w' => e = .returned (.tuple #[.string ⟨#[]⟩, .int .i64 0, .bool false]) ∧ Drawn0 w w') := Lib.hid (fun w => transhumanceref1_Unquote.calls _ _ _ _ _ w hu)
            have HQ := Lib.hid hq
            clear hu hq
            go_wp2_with (fail)
            go_quiet ((go_at_call 60; exact quiet_drawn (HU.out _)))
            go_wp2_with (fail)
            refine (fail_calls _ p s _ _ _ has C (H5.out.drewN _) 1 C).mono ?_
            rintro en w6 ⟨rfl, hf6, hfr6⟩
            have HF6 := Lib.hid hf6
            have HFR6 := Lib.hid ((HF5.out.drewN _).same hfr6)
            clear hf6 hfr6
            go_wp2_with (fail)
            go_end0
            refine ⟨rfl, ?_, HB2.out.trans (HFR6.out.below (Nat.le_trans HBS.out HB2.out.size) (fun k hk => by rw [hk]; exact hbp))⟩
            rw [HR3.out, tailR_none _ _ _ _ _ _ _ HQ.out]
            exact ⟨by decide, C, _, has, l, HF6.out, by omega, HL2.out.keep HFR6.out (Blk.ty H2.out (by decide)), hn⟩
          | some r =>
            obtain ⟨out, used⟩ := r
            rw [hq] at hu
            have HU : Hid (∀ w, Calls Tryd.prog 60 #[.string (s.extract C s.size)] w fun e w' => e = .returned (.tuple #[.string (bs out), .int .i64 (used : Int), .bool true]) ∧ Drawn0 w w') := Lib.hid (fun w => transhumanceref1_Unquote.calls _ _ _ _ _ w hu)
            have HQ := Lib.hid hq
            have hus := (unq_bound _ _ hq).1
            have hos := (unq_bound _ _ hq).2
            rw [List.length_drop, data_length] at hus hos
            simp only at hus hos
            clear hu hq
            have hoz : (bs out).size ≤ 1000000 := by rw [size_bs]; omega
            have HRT : Hid (∀ w, Calls Tryd.prog 61 #[.string (bs out)] w fun e w' => e = .returned (.bool (rightL out)) ∧ Below w.heap.size w w') := Lib.hid (fun w => by
              have := right4_f (bs out) hoz
              rw [data_bs] at this
              exact transhumanceref4_Right.calls _ _ _ w this)
            clear hoz
            go_upto_region 16 with (go_quiet ((go_at_call 60; exact quiet_drawn (HU.out _))))
            have h6 := H5.out.drewN nq
            have hl6 : Ls (w5.drewN nq) base (.slice A l.length cc) l := HL5.out
            have hb6 : Below base w (w5.drewN nq) := HB5.out.trans (((Fr.refl (· = p) w5).drewN nq).below (Nat.le_trans HBS.out HB5.out.size) (fun k hk => by rw [hk]; exact hbp))
            clear h0 h1
            generalize w5.drewN nq = w6 at *
            have H6 := Lib.hid h6
            have HL6 := Lib.hid hl6
            have HB6 := Lib.hid hb6
            clear h6 hl6 hb6
            go_cut [156] (fun c wx => c = .bool (needsPath (nm k) && !rightL out) ∧ Below w6.heap.size w6 wx)
            case first =>
              by_cases hk0 : k = 0
              · have n5 : ((k : Int) == 0) = true := by rw [hk0]; rfl
                have HK0 := Lib.hid hk0
                clear hk0
                go_wp2_with (fail)
                refine (HRT.out _).mono ?_
                rintro en w7 ⟨rfl, hb⟩
                have HB := Lib.hid hb
                clear hb
                go_wp2_with (fail)
                go_meet
                exact ⟨by rw [HK0.out, needs_nm ⟨_, by decide⟩]; rfl, HB.out⟩
              · have n5 : ((k : Int) == 0) = false := by simp only [beq_eq_false_iff_ne, ne_eq]; omega
                by_cases hk4 : k = 4
                · have n6 : ((k : Int) == 4) = true := by rw [hk4]; rfl
                  have HK0 := Lib.hid hk4
                  clear hk0 hk4
                  go_wp2_with (fail)
                  refine (HRT.out _).mono ?_
                  rintro en w7 ⟨rfl, hb⟩
                  have HB := Lib.hid hb
                  clear hb
                  go_wp2_with (fail)
                  go_meet
                  exact ⟨by rw [HK0.out, needs_nm ⟨_, by decide⟩]; rfl, HB.out⟩
                · have n6 : ((k : Int) == 4) = false := by simp only [beq_eq_false_iff_ne, ne_eq]; omega
                  have hnn : needsPath (nm k) = false := by
                    rw [needs_nm ⟨k, hk5⟩]
                    have e0 : (k == 0) = false := by simpa using hk0
                    have e4 : (k == 4) = false := by simpa using hk4
                    show (k == 0 || k == 4) = false
                    rw [e0, e4]
                    rfl
                  have HNN := Lib.hid hnn
                  clear hk0 hk4 hnn
                  go_wp2_with (fail)
                  go_meet
                  exact ⟨by rw [HNN.out]; rfl, Below.refl _ _⟩
            case rest =>
              obtain ⟨rfl, hb⟩ := hcut
              have H7 := Lib.hid (H6.out.below hb)
              have HL7 : Hid (Ls wc base (.slice A l.length cc) l) := Lib.hid (pw_own_below HL6.out hb)
              have HB7 := Lib.hid (below_then HB6.out (Nat.le_trans HBS.out HB6.out.size) hb)
              have h0 := H7.out.cell 0
              have h1 := H7.out.cell 1
              clear hb
              have hT := tailR_some s init x hv (s.extract P E) k C out used HQ.out
              rw [word_nm HKE.out hk5] at hT
              have hR4 := HR3.out
              rw [word_nm HKE.out hk5, hT] at hR4
              have HR4 := Lib.hid hR4
              clear hT hR4
              generalize (needsPath (nm k) && !rightL out) = bad at *
              go_upto_if 156 with (fail)
              go_cut [] (fun wx => F6 wx p s C (if bad = true then 7 else 0) (if bad = true then C else a) (.slice A l.length cc) has ∧ Ls wx base (.slice A l.length cc) l ∧ Below base w wx)
              case first =>
                cases bad with
                | true =>
                  go_wp2_with (fail)
                  refine (fail_calls _ p s _ _ _ has C H7.out 7 C).mono ?_
                  rintro en w8 ⟨rfl, hf8, hfr8⟩
                  have HF8 := Lib.hid hf8
                  have HFR8 := Lib.hid hfr8
                  clear hf8 hfr8
                  go_wp2_with (fail)
                  go_meet
                  exact ⟨HF8.out, HL7.out.keep HFR8.out (Blk.ty H7.out (by decide)), HB7.out.trans (HFR8.out.below (Nat.le_trans HBS.out HB7.out.size) (fun k hk => by rw [hk]; exact hbp))⟩
                | false =>
                  go_wp2_with (fail)
                  go_meet
                  exact ⟨H7.out, HL7.out, HB7.out⟩
              case rest =>
                obtain ⟨h8, hl8, hb8⟩ := hcut
                have h1 := h8.cell 1
                have f1 := h8.unfrozen 1
                have H8 := Lib.hid h8
                have HL8 := Lib.hid hl8
                have HB8 := Lib.hid hb8
                have i92 : IntKind.i64.wrap ((C : Int) + (used : Int)) = (C : Int) + (used : Int) := IntWalk.i64_in _ ⟨by omega, by omega⟩
                clear h8 hl8 hb8
                go_upto_region 19 with (fail)
                have h9 : F6 (wc.setCell ⟨p, 1, none⟩ (.int .i64 ((C : Int) + (used : Int)))) p s ((C : Int) + (used : Int)) (if bad = true then 7 else 0) (if bad = true then (C : Int) else a) (.slice A l.length cc) has := H8.out.put 1 _
                have hf9 : Fr (· = p) wc (wc.setCell ⟨p, 1, none⟩ (.int .i64 ((C : Int) + (used : Int)))) := (Fr.refl (· = p) wc).put (.inl rfl) _
                have hl9 := HL8.out.keep hf9 (Blk.ty H8.out (by decide))
                have hb9 := HB8.out.trans (hf9.below (Nat.le_trans HBS.out HB8.out.size) (fun k hk => by rw [hk]; exact hbp))
                clear h1 f1 hf9
                generalize wc.setCell ⟨p, 1, none⟩ (.int .i64 ((C : Int) + (used : Int))) = w9 at *
                have hks := has_cell h9 k hk5
                have f9 := h9.unfrozen (5 + k)
                have H9 := Lib.hid h9
                have HL9 := Lib.hid hl9
                have HB9 := Lib.hid hb9
                clear h9 hl9 hb9
                go_upto_region 20 with (fail)
                have h10 := has_put H9.out k hk5
                have hf10 : Fr (· = p) w9 (w9.setCell ⟨p, 5 + k, none⟩ (.bool true)) := (Fr.refl (· = p) w9).put (.inl rfl) _
                have hl10 : Ls (w9.setCell ⟨p, 5 + k, none⟩ (.bool true)) base (.slice A l.length cc) l := HL9.out.keep hf10 (Blk.ty H9.out (by decide))
                have hb10 := HB9.out.trans (hf10.below (Nat.le_trans HBS.out HB9.out.size) (fun k hk => by rw [hk]; exact hbp))
                clear hks f9 hf10
                generalize w9.setCell ⟨p, 5 + k, none⟩ (.bool true) = w10 at *
                have h4 := h10.cell 4
                have H10 := Lib.hid h10
                have HL10 := Lib.hid hl10
                have HB10 := Lib.hid hb10
                clear h10 hl10 hb10
                obtain ⟨q, c', he, at_⟩ := HL10.out.at_ (by rw [HLN.out]; simp)
                injection he with he1 he2 he3
                subst he1 he3
                have hlz := HLZ.out
                have i11 : IntKind.i64.wrap ((l.length : Int) - 1) = (init.length : Int) := by rw [IntWalk.i64_in _ ⟨by omega, by omega⟩]; omega
                have HX := Lib.hid (fun k hk => at_.cell init.length k (by rw [HLZ.out]; omega) hk)
                have HLE := Lib.hid (And.intro at_.le HLZ.out)
                have HAT := Lib.hid at_
                clear hlz at_
                go_wp2_with (fail)
                have HSET := Lib.hid (fun W => transhumanceref6_Set.calls x.root x.version x.rev x.within x.source (k : Int) (bs out) _ _ _ _ _ W (set6_f x k hk5 (bs out)))
                have q0 := HX.out 0 (by decide)
                have q1 := HX.out 1 (by decide)
                have q2 := HX.out 2 (by decide)
                have q3 := HX.out 3 (by decide)
                have q4 := HX.out 4 (by decide)
                have hlx : l[init.length]'(by rw [HLZ.out]; omega) = x := by
                  have e : ∀ (m : List Lk) (hm : m = init ++ [x]) (h : init.length < m.length), m[init.length] = x := by
                    rintro m rfl h
                    simp
                  exact e l HLN.out _
                rw [hlx] at q0 q1 q2 q3 q4
                simp only [Lk.cells, List.getElem?_cons_zero, List.getElem?_cons_succ, Nat.add_zero] at q0 q1 q2 q3 q4
                have HR5 := Lib.hid (show R = thenRest s (if bad = true then .bad C 7 else .ok ⟨C + used, init ++ [x.set k (bs out)], hv ++ (nm k ++ spc)⟩) from HR4.out)
                have hsl : x.set k (bs out) = x.set k (bs out) := rfl
                generalize x.set k (bs out) = y at *
                have b0 : (0 : Int) ≤ (init.length : Int) ∧ (init.length : Int) < (l.length : Int) := by have := HLZ.out; omega
                have g4 : w10.cell? ⟨p, 4, none⟩ = some (.slice (some ⟨q, 0, none⟩) l.length cc) := h4
                clear h4 hlx hsl
                have HS0 := Lib.hid (And.intro g4 (And.intro q0 (And.intro q1 (And.intro q2 (And.intro q3 (And.intro q4 (And.intro (lsat_free HAT.out (init.length * 5)) (And.intro (lsat_free HAT.out (init.length * 5 + 1)) (And.intro (lsat_free HAT.out (init.length * 5 + 2)) (And.intro (lsat_free HAT.out (init.length * 5 + 3)) (And.intro (lsat_free HAT.out (init.length * 5 + 4)) (Below.refl w10.heap.size w10))))))))))))
                have HPQ := Lib.hid (lsat_ne HAT.out H10.out (by decide))
                refine wp_region_noPanic ?_
                refine wp_region_held_drew (S := fun w' => w'.cell? ⟨p, 4, none⟩ = some (.slice (some ⟨q, 0, none⟩) l.length cc)) (by kernel_rfl) (drew_cell g4) (fun hHeld => ?_)
                (refine wpAnyH_take (i := 0) (v := ?_) rfl (by kernel_rfl) (by kernel_rfl) (by kernel_rfl) (fun _ _ _ h => h) (Or.inl ⟨by rfl, ?_⟩) hHeld ?_; rotate_left; (intro w' hSw; go_simp; with_reducible rfl); (try simp only [Act.put, List.setIfInBounds_toArray, List.set_cons_zero, List.set_cons_succ]))
                (refine wpAnyH_take (i := 1) (v := ?_) rfl (by kernel_rfl) (by kernel_rfl) (by kernel_rfl) (fun _ _ _ h => h) (Or.inl ⟨by rfl, ?_⟩) hHeld ?_; rotate_left; (intro w' hSw; go_simp; with_reducible rfl); (try simp only [Act.put, List.setIfInBounds_toArray, List.set_cons_zero, List.set_cons_succ]))
                (refine wpAnyH_take (i := 2) (v := ?_) rfl (by kernel_rfl) (by kernel_rfl) (by kernel_rfl) (fun _ _ _ h => h) (Or.inl ⟨by rfl, ?_⟩) hHeld ?_; rotate_left; (intro w' hSw; go_simp; with_reducible rfl); (try simp only [Act.put, List.setIfInBounds_toArray, List.set_cons_zero, List.set_cons_succ]))
                (refine wpAnyH_take (i := 3) (v := ?_) rfl (by kernel_rfl) (by kernel_rfl) (by kernel_rfl) (fun _ _ _ h => h) (Or.inl ⟨by rfl, ?_⟩) hHeld ?_; rotate_left; (intro w' hSw; go_simp; with_reducible rfl); (try simp only [Act.put, List.setIfInBounds_toArray, List.set_cons_zero, List.set_cons_succ]))
                (refine wpAnyH_take (i := 4) (v := ?_) rfl (by kernel_rfl) (by kernel_rfl) (by kernel_rfl) (fun _ _ _ h => h) (Or.inl ⟨by rfl, ?_⟩) hHeld ?_; rotate_left; (intro w' hSw; go_simp; with_reducible rfl); (try simp only [Act.put, List.setIfInBounds_toArray, List.set_cons_zero, List.set_cons_succ]))
                (refine wpAnyH_take (i := 5) (v := ?_) rfl (by kernel_rfl) (by kernel_rfl) (by kernel_rfl) (fun _ _ _ h => h) (Or.inl ⟨by rfl, ?_⟩) hHeld ?_; rotate_left; (intro w' hSw; go_simp; with_reducible rfl); (try simp only [Act.put, List.setIfInBounds_toArray, List.set_cons_zero, List.set_cons_succ]))
                (refine wpAnyH_take (i := 6) (v := ?_) rfl (by kernel_rfl) (by kernel_rfl) (by kernel_rfl) (fun _ _ _ h => h) (Or.inl ⟨by rfl, ?_⟩) hHeld ?_; rotate_left; (intro w' hSw; go_simp; with_reducible rfl); (try simp only [Act.put, List.setIfInBounds_toArray, List.set_cons_zero, List.set_cons_succ]))
                (refine wpAnyH_take (i := 7) (v := ?_) rfl (by kernel_rfl) (by kernel_rfl) (by kernel_rfl) (fun _ _ _ h => h) (Or.inl ⟨by rfl, ?_⟩) hHeld ?_; rotate_left; (intro w' hSw; go_simp; with_reducible rfl); (try simp only [Act.put, List.setIfInBounds_toArray, List.set_cons_zero, List.set_cons_succ]))
                (refine wpAnyH_take (i := 8) (v := ?_) rfl (by kernel_rfl) (by kernel_rfl) (by kernel_rfl) (fun _ _ _ h => h) (Or.inl ⟨by rfl, ?_⟩) hHeld ?_; rotate_left; (intro w' hSw; go_simp; with_reducible rfl); (try simp only [Act.put, List.setIfInBounds_toArray, List.set_cons_zero, List.set_cons_succ]))
                (refine wpAnyH_take (i := 9) (v := ?_) rfl (by kernel_rfl) (by kernel_rfl) (by kernel_rfl) (fun _ _ _ h => h) (Or.inl ⟨by rfl, ?_⟩) hHeld ?_; rotate_left; (intro w' hSw; go_simp; with_reducible rfl); (try simp only [Act.put, List.setIfInBounds_toArray, List.set_cons_zero, List.set_cons_succ]))
                (refine wpAnyH_take (i := 10) (v := ?_) rfl (by kernel_rfl) (by kernel_rfl) (by kernel_rfl) (fun _ _ _ h => h) (Or.inl ⟨by rfl, ?_⟩) hHeld ?_; rotate_left; (intro w' hSw; go_simp; with_reducible rfl); (try simp only [Act.put, List.setIfInBounds_toArray, List.set_cons_zero, List.set_cons_succ]))
                (refine wpAnyH_take (i := 11) (v := ?_) rfl (by kernel_rfl) (by kernel_rfl) (by kernel_rfl) (fun _ _ _ h => h) (Or.inl ⟨by rfl, ?_⟩) hHeld ?_; rotate_left; (intro w' hSw; go_simp; with_reducible rfl); (try simp only [Act.put, List.setIfInBounds_toArray, List.set_cons_zero, List.set_cons_succ]))
                (refine wpAnyH_take (i := 12) (v := ?_) rfl (by kernel_rfl) (by kernel_rfl) (by kernel_rfl) (fun _ _ _ h => h) (Or.inl ⟨by rfl, ?_⟩) hHeld ?_; rotate_left; (intro w' hSw; go_simp; with_reducible rfl); (try simp only [Act.put, List.setIfInBounds_toArray, List.set_cons_zero, List.set_cons_succ]))
                (refine wpAnyH_take (i := 13) (v := ?_) rfl (by kernel_rfl) (by kernel_rfl) (by kernel_rfl) (fun _ _ _ h => h) (Or.inl ⟨by rfl, ?_⟩) hHeld ?_; rotate_left; (intro w' hSw; go_simp; with_reducible rfl); (try simp only [Act.put, List.setIfInBounds_toArray, List.set_cons_zero, List.set_cons_succ]))
                (refine wpAnyH_take (i := 14) (v := ?_) rfl (by kernel_rfl) (by kernel_rfl) (by kernel_rfl) (fun _ _ _ h => h) (Or.inl ⟨by rfl, ?_⟩) hHeld ?_; rotate_left; (intro w' hSw; go_simp; with_reducible rfl); (try simp only [Act.put, List.setIfInBounds_toArray, List.set_cons_zero, List.set_cons_succ]))
                (refine wpAnyH_take (i := 15) (v := ?_) rfl (by kernel_rfl) (by kernel_rfl) (by kernel_rfl) (fun _ _ _ h => h) (Or.inl ⟨by rfl, ?_⟩) hHeld ?_; rotate_left; (intro w' hSw; go_simp; with_reducible rfl); (try simp only [Act.put, List.setIfInBounds_toArray, List.set_cons_zero, List.set_cons_succ]))
                (refine wpAnyH_take (i := 16) (v := ?_) rfl (by kernel_rfl) (by kernel_rfl) (by kernel_rfl) (fun _ _ _ h => h) (Or.inl ⟨by rfl, ?_⟩) hHeld ?_; rotate_left; (intro w' hSw; go_simp; with_reducible rfl); (try simp only [Act.put, List.setIfInBounds_toArray, List.set_cons_zero, List.set_cons_succ]))
                (refine wpAnyH_take (i := 17) (v := ?_) rfl (by kernel_rfl) (by kernel_rfl) (by kernel_rfl) (fun _ _ _ h => h) (Or.inl ⟨by rfl, ?_⟩) hHeld ?_; rotate_left; (intro w' hSw; go_simp; with_reducible rfl); (try simp only [Act.put, List.setIfInBounds_toArray, List.set_cons_zero, List.set_cons_succ]))
                (refine wpAnyH_take (i := 18) (v := ?_) rfl (by kernel_rfl) (by kernel_rfl) (by kernel_rfl) (fun _ _ _ h => h) (Or.inl ⟨by rfl, ?_⟩) hHeld ?_; rotate_left; (intro w' hSw; go_simp; with_reducible rfl); (try simp only [Act.put, List.setIfInBounds_toArray, List.set_cons_zero, List.set_cons_succ]))
                (refine wpAnyH_take (i := 19) (v := ?_) rfl (by kernel_rfl) (by kernel_rfl) (by kernel_rfl) (fun _ _ _ h => h) (Or.inl ⟨by rfl, ?_⟩) hHeld ?_; rotate_left; (intro w' hSw; go_simp; with_reducible rfl); (try simp only [Act.put, List.setIfInBounds_toArray, List.set_cons_zero, List.set_cons_succ]))
                (refine wpAnyH_take (i := 20) (v := ?_) rfl (by kernel_rfl) (by kernel_rfl) (by kernel_rfl) (fun _ _ _ h => h) (Or.inl ⟨by rfl, ?_⟩) hHeld ?_; rotate_left; (intro w' hSw; go_simp; with_reducible rfl); (try simp only [Act.put, List.setIfInBounds_toArray, List.set_cons_zero, List.set_cons_succ]))
                (refine wpAnyH_take (i := 22) (v := ?_) rfl (by kernel_rfl) (by kernel_rfl) (by kernel_rfl) (fun _ _ _ h => h) (Or.inl ⟨by rfl, ?_⟩) hHeld ?_; rotate_left; (intro w' hSw; go_simp; with_reducible rfl); (try simp only [Act.put, List.setIfInBounds_toArray, List.set_cons_zero, List.set_cons_succ]))
                (refine wpAnyH_take (i := 23) (v := ?_) rfl (by kernel_rfl) (by kernel_rfl) (by kernel_rfl) (fun _ _ _ h => h) (Or.inl ⟨by rfl, ?_⟩) hHeld ?_; rotate_left; (intro w' hSw; go_simp; with_reducible rfl); (try simp only [Act.put, List.setIfInBounds_toArray, List.set_cons_zero, List.set_cons_succ]))
                refine wpAnyH_ready (rs := [21]) (by kernel_rfl) (by simp) ?_
                refine AllReadyH.cons rfl (fun K hK => ?_) AllReadyH.nil
                go_simp
                refine hK.out _ _ hHeld (fun _ => ?_)
                clear hK K
                (try simp only [Act.put, List.setIfInBounds_toArray, List.set_cons_zero, List.set_cons_succ])
                refine wpAnyH_ready (rs := [24]) (by kernel_rfl) (by simp) ?_
                refine AllReadyH.cons rfl (fun K hK => ?_) AllReadyH.nil
                go_simp
                go_at_call 62
                refine (HSET.out _).mono ?_
                rintro e wp ⟨rfl, hbk⟩
                obtain ⟨z0, z1, z2, z3, z4, z5, y1, y2, y3, y4, y5, hbw⟩ := keep11 (keep11 HS0.out (Below.refl _ _).drew) hbk
                refine hK.out _ _ z0 (fun hHeld => ?_)
                clear hK K
                (try simp only [Act.put, List.setIfInBounds_toArray, List.set_cons_zero, List.set_cons_succ])
                (refine wpAnyH_take (i := 25) (v := ?_) rfl (by kernel_rfl) (by kernel_rfl) (by kernel_rfl) (fun _ _ _ h => h) (Or.inl ⟨by rfl, ?_⟩) hHeld ?_; rotate_left; (intro w' hSw; go_simp; with_reducible rfl); (try simp only [Act.put, List.setIfInBounds_toArray, List.set_cons_zero, List.set_cons_succ]))
                refine wpAnyH_ready (rs := [26]) (by kernel_rfl) (by simp) ?_
                refine AllReadyH.cons rfl (fun K hK => ?_) AllReadyH.nil
                go_simp
                refine hK.out _ _ (set5_cell HPQ.out z0) (fun _ => ?_)
                clear hK K
                (try simp only [Act.put, List.setIfInBounds_toArray, List.set_cons_zero, List.set_cons_succ])
                refine wpAnyH_done (by kernel_rfl) ?_ _
                refine NoPanic.normal ?_
                all_goals
                  have hbb := below_then HB10.out (Nat.le_trans HBS.out HB10.out.size) hbw
                  have hq := HAT.out.base
                  have hB5 := ((((hbb.setCell (p := ⟨q, init.length * 5, none⟩) hq (.string y.root)).setCell (p := ⟨q, init.length * 5 + 1, none⟩) hq (.string y.version)).setCell (p := ⟨q, init.length * 5 + 2, none⟩) hq (.string y.rev)).setCell (p := ⟨q, init.length * 5 + 3, none⟩) hq (.string y.within)).setCell (p := ⟨q, init.length * 5 + 4, none⟩) hq (.string y.source)
                  have hF5 := ((((((H10.out.below hbw).far (p := ⟨q, init.length * 5, none⟩) HPQ.out (.string y.root)).far (p := ⟨q, init.length * 5 + 1, none⟩) HPQ.out (.string y.version)).far (p := ⟨q, init.length * 5 + 2, none⟩) HPQ.out (.string y.rev)).far (p := ⟨q, init.length * 5 + 3, none⟩) HPQ.out (.string y.within)).far (p := ⟨q, init.length * 5 + 4, none⟩) HPQ.out (.string y.source))
                  have hlw := pw_own_below HL10.out hbw
                  have hl5 := Ls.put5 (w := wp) (base := base) (q := q) (c := cc) (l := init) (x := x) (by rw [← HLN.out, ← HLZ.out]; exact hlw) y
                  rw [← HLZ.out] at hl5
                  clear hlw hbb hq z1 z2 z3 z4 z5 y1 y2 y3 y4 y5 hbk hbw q0 q1 q2 q3 q4 g4
                  generalize (((((wp.setCell ⟨q, init.length * 5, none⟩ (.string y.root)).setCell ⟨q, init.length * 5 + 1, none⟩ (.string y.version)).setCell ⟨q, init.length * 5 + 2, none⟩ (.string y.rev)).setCell ⟨q, init.length * 5 + 3, none⟩ (.string y.within)).setCell ⟨q, init.length * 5 + 4, none⟩ (.string y.source)) = w11 at *
                  have hF6 : F6 w11 p s ((C + used : Nat) : Int) (if bad = true then 7 else 0) (if bad = true then (C : Int) else a) (.slice (some ⟨q, 0, none⟩) l.length cc) (fun j => if j = k then true else has j) := by
                    rw [Int.natCast_add]
                    exact hF5
                  have HF6 := Lib.hid hF6
                  have HL5 := Lib.hid hl5
                  have HB11 := Lib.hid hB5
                  clear hF5 hF6 hl5 hB5
                  go_wp2_with (fail)
                  refine (rest6_calls _ p s _ _ (.slice (some ⟨q, 0, none⟩) l.length cc) (fun j => if j = k then true else has j) (C + used) HF6.out (by omega) (by omega)).mono ?_
                  rintro en w12 ⟨rfl, h12, hf12⟩
                  have H12 := Lib.hid h12
                  have HF12 := Lib.hid hf12
                  clear h12 hf12
                  go_wp2_with (fail)
                  go_end0
                  refine ⟨rfl, rest_holds (A := C + used) (by omega) H12.out (HL5.out.keep HF12.out (Blk.ty HF6.out (by decide))) (by have h1 := HLZ.out; simp; omega) (HH.out.add k hk5 HHK.out) ?_, HB11.out.trans (HF12.out.below (Nat.le_trans HBS.out HB11.out.size) (fun k hk => by rw [hk]; exact hbp))⟩
                  have h4 := HR5.out
                  cases bad with
                  | true => exact .inr ⟨by decide, C, rfl, h4⟩
                  | false => exact .inl ⟨rfl, h4⟩
        · have n3 : ((s[B].toNat : Int) != 61) = true := by
            have : s[B].toNat ≠ 61 := fun e => h61 (UInt8.toNat_inj.mp e)
            simp only [bne_iff_ne, ne_eq]
            omega
          have hpre : Lib.hasPrefix (s.data.toList.drop B) eqs.data.toList = false := by
            rw [drop_at s B hBs]
            have : (61 == s[B]) = false := by simpa using fun e => h61 e.symm
            show ((61 == s[B]) && _) = false
            rw [this]
            rfl
          have HP := Lib.hid hpre
          clear hpre h61
          go_wp2_with (fail)
          go_quiet (fail)
          go_wp2_with (fail)
          refine (fail_calls _ p s _ _ _ has B (H3.out.drewN _) 1 B).mono ?_
          rintro en w4 ⟨rfl, hf4, hfr4⟩
          have HF4 := Lib.hid hf4
          have HFR4 := Lib.hid ((HF3.out.drewN _).same hfr4)
          clear hf4 hfr4
          go_wp2_with (fail)
          go_end0
          exact BAD2.out _ HP.out HF4.out HFR4.out
      · have d2 : decide (s.size ≤ B) = true := decide_eq_true (by omega)
        have d3 : decide ((s.size : Int) ≤ (B : Int)) = true := decide_eq_true (by omega)
        have hpre : Lib.hasPrefix (s.data.toList.drop B) eqs.data.toList = false := by
          rw [List.drop_of_length_le (by rw [data_length]; omega)]
          rfl
        have HP := Lib.hid hpre
        clear hpre
        go_wp2_with (fail)
        go_quiet (fail)
        go_wp2_with (fail)
        refine (fail_calls _ p s _ _ _ has B (H3.out.drewN _) 1 B).mono ?_
        rintro en w4 ⟨rfl, hf4, hfr4⟩
        have HF4 := Lib.hid hf4
        have HFR4 := Lib.hid ((HF3.out.drewN _).same hfr4)
        clear hf4 hfr4
        go_wp2_with (fail)
        go_end0
        exact BAD2.out _ HP.out HF4.out HFR4.out
end
end Go.Proofs.YtljfcdfdedkajaaDoor.Q
