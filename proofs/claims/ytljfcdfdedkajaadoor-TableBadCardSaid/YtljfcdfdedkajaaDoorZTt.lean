import Derived.Test.YtljfcdfdedkajaaDoorZTu
import Derived.Test.YtljfcdfdedkajaaDoorZTLocksg
import Derived.Test.YtljfcdfdedkajaaDoorZPng
set_option linter.unusedVariables false
set_option linter.unusedSimpArgs false
namespace Go.Proofs.YtljfcdfdedkajaaDoor.Q
open Go.RowKit Go.Proofs.YtljfcdfdedkajaaDoorW.PrintWords Go.Proofs.YtljfcdfdedkajaaDoorW.PrintLast Go.Proofs.YtljfcdfdedkajaaDoorW.PrintMore
theorem check_l0 (init : List Lk) (x : Lk) (a b c d : ByteArray) (hz : init.length ≤ 1000) : ∀ (m i k : Nat), init.length = i + m → m < k →
    transhumanceref6_Check.l0 k (outs (init ++ [x])) (init.length : Int) (i : Int) x.root a b c d = some (if (init.drop i).any (fun z => z.root.toList == x.root.toList) = true then 4 else 0) := by
  intro m
  induction m with
  | zero =>
    intro i k hi hk
    obtain ⟨k, rfl⟩ : ∃ j, k = j + 1 := ⟨k - 1, by omega⟩
    rw [transhumanceref6_Check.l0.eq_2, if_neg (by omega), List.drop_of_length_le (by omega)]
    rfl
  | succ m ih =>
    intro i k hi hk
    obtain ⟨k, rfl⟩ : ∃ j, k = j + 1 := ⟨k - 1, by omega⟩
    have hlt : i < init.length := by omega
    have hlt2 : i < (init ++ [x]).length := by simp; omega
    have hg : (init ++ [x])[i] = init[i] := List.getElem_append_left hlt
    have hw : wrap64 ((i : Int) + 1) = ((i + 1 : Nat) : Int) := wrap_id (by omega) (by omega)
    have hlen : (outs (init ++ [x])).length = init.length + 1 := by simp [outs]
    rw [transhumanceref6_Check.l0.eq_2, if_pos (by omega), if_pos (by omega), if_pos (by omega), rd_out _ i hlt2, hg, hw, ih (i + 1) k (by omega) (by omega), List.drop_eq_getElem_cons hlt, List.any_cons]
    show (if init[i].root.toList = x.root.toList then some 4 else _) = _
    by_cases h : init[i].root.toList = x.root.toList
    · rw [if_pos h, h]
      simp
    · rw [if_neg h]
      have : (init[i].root.toList == x.root.toList) = false := by simpa using h
      rw [this, Bool.false_or]
theorem check_ev (l : List Lk) (hz : l.length ≤ 1000) : transhumanceref6_Check.f (l.length + 2) (outs l) = some (endedE l) := by
  rcases List.eq_nil_or_concat l with rfl | ⟨init, x, rfl⟩
  · rfl
  · rw [List.concat_eq_append] at *
    have hlen : (outs (init ++ [x])).length = init.length + 1 := by simp [outs]
    have hlen2 : (init ++ [x]).length = init.length + 1 := by simp
    have hw : wrap64 (((init.length + 1 : Nat) : Int) - 1) = (init.length : Int) := by rw [wrap_id (by omega) (by omega)]; omega
    have hlt2 : init.length < (init ++ [x]).length := by omega
    have hg : (init ++ [x])[init.length] = x := by simp
    have hl0 := fun a b c d => check_l0 init x a b c d (by omega) init.length 0 (init.length + 2) (by omega) (by omega)
    unfold transhumanceref6_Check.f
    rw [hlen, if_neg (by omega), hw, if_pos (by omega), if_pos (by omega), rd_out _ _ hlt2, hg, endedE_snoc, hlen2]
    have j0 : ∀ b a1 a2 a3 a4, transhumanceref6_Check.j0 (init.length + 1 + 2) (outs (init ++ [x])) (init.length : Int) b x.root a1 a2 a3 a4 = if b = true then some 1 else some (if init.any (fun z => z.root.toList == x.root.toList) = true then 4 else 0) := by
      intro b a1 a2 a3 a4
      rw [transhumanceref6_Check.j0.eq_2]
      have := hl0 a1 a2 a3 a4
      rw [List.drop_zero] at this
      rw [show init.length + 1 + 1 = init.length + 2 from rfl, ← this]
      rfl
    show (if x.root.toList = [] then transhumanceref6_Check.j0 _ _ _ true x.root x.version x.rev x.within x.source else if x.version.toList = [] then transhumanceref6_Check.j0 _ _ _ (x.rev.toList == []) x.root x.version x.rev x.within x.source else transhumanceref6_Check.j0 _ _ _ false x.root x.version x.rev x.within x.source) = _
    rw [j0, j0, j0]
    have e : ∀ m : List UInt8, (m == []) = m.isEmpty := fun m => by cases m <;> rfl
    by_cases h1 : x.root.toList = []
    · simp [h1]
    · have h1' : x.root.toList.isEmpty = false := by simpa using h1
      rw [if_neg h1, h1']
      by_cases h2 : x.version.toList = []
      · rw [if_pos h2, h2, e]
        cases x.rev.toList.isEmpty <;> simp
        all_goals (split <;> rfl)
      · have h2' : x.version.toList.isEmpty = false := by simpa using h2
        rw [if_neg h2, h2']
        simp
        all_goals (split <;> rfl)
section
variable (w : World) (base p : Nat) (s : ByteArray)
theorem check6_calls (lv : Value) (l : List Lk) (hl : Ls w base lv l) (hz : l.length ≤ 1000) :
    Calls Tryd.prog 32 #[lv] w fun e w' => e = .returned (.int .i64 (endedE l)) ∧ Below w.heap.size w w' := by
  obtain ⟨A, c, rfl⟩ := own_slice hl
  obtain ⟨hlen, hcap, hc⟩ := Kd.R_reads' hl.out
  have hcap : (outs l).length ≤ c := by simpa [outs] using hcap
  have := transhumanceref6_Check.calls _ A c (outs l) (endedE l) w hc hcap (check_ev l hz)
  rw [show (outs l).length = l.length from hlen.symm] at this
  exact this
set_option maxHeartbeats 400000 in
theorem loop_rel {w : World} {p P j Z : Nat} {s : ByteArray} (hj : j < 8) (hZ : Z = P + j) (he : common lockWord.data.toList (s.data.toList.drop P) = j + common (lockWord.data.toList.drop j) (s.data.toList.drop Z)) (hz : Z < s.size) :
    (s[Z] = lockWord[j]'hj → common lockWord.data.toList (s.data.toList.drop P) = (j + 1) + common (lockWord.data.toList.drop (j + 1)) (s.data.toList.drop (Z + 1))) ∧ (s[Z] ≠ lockWord[j]'hj → common lockWord.data.toList (s.data.toList.drop P) = j) := by
  have E1 := drop_at lockWord j hj
  have E2 := drop_at s Z hz
  rw [E1, E2] at he
  refine ⟨fun h => ?_, fun h => ?_⟩
  · simp only [common, if_pos h.symm] at he
    omega
  · simp only [common, if_neg (fun e : lockWord[j] = s[Z] => h e.symm)] at he
    omega
theorem f6_grown {w w1 : World} {base p : Nat} {s : ByteArray} {P e a : Int} {lv lv' : Value} {has : Nat → Bool} {l : List Lk} (h : F6 w p s P e a lv' has) (hl : Ls w base lv l) (hg : w.grownBy w1 lv.ownBlock) : F6 w1 p s P e a lv' has :=
  blk_grown h hg (fun hk => by
    obtain ⟨cells, hc⟩ := own_typed hl p hk.symm
    exact Blk.ty h (by decide) p cells rfl hc)
theorem has_none : HasRel (fun _ => false) ⟨#[]⟩ := HasRel.none
def BR (R : Res) (s : ByteArray) (P : Nat) (l : List Lk) (E : Int) : Prop := R = thenRest s (if E = 0 then if 40 ≤ l.length then .bad P 2 else .ok ⟨P + 8, l ++ [Lk.zero], ⟨#[]⟩⟩ else .bad P E)
theorem begin_hR {s : ByteArray} {P Z : Nat} {l : List Lk} {E e3 a3 a : Int} {R : Res} (hZ : Z = P + 8) (hR : BR R s P l E)
    (he : e3 = if E = 0 then (if 40 ≤ l.length then 2 else 0) else E) (ha : a3 = if e3 = 0 then a else P) :
    (e3 = 0 ∧ R = thenRest s (.ok ⟨Z, l ++ [Lk.zero], ⟨#[]⟩⟩)) ∨ (e3 ≠ 0 ∧ ∃ wh : Nat, a3 = wh ∧ R = .bad wh e3) := by
  subst hZ
  unfold BR at hR
  by_cases h : E = 0
  · rw [if_pos h] at hR he
    by_cases h40 : 40 ≤ l.length
    · rw [if_pos h40] at hR he
      subst he
      exact .inr ⟨by decide, P, ha, hR⟩
    · rw [if_neg h40] at hR he
      exact .inl ⟨he, hR⟩
  · rw [if_neg h] at hR he
    subst he
    rw [if_neg h] at ha
    exact .inr ⟨h, P, ha, hR⟩
set_option maxHeartbeats 4000000 in
set_option maxRecDepth 100000 in
theorem begin6_calls (P : Nat) (a : Int) (lv : Value) (has : Nat → Bool) (l : List Lk) (hv : ByteArray) (h : F6 w p s P 0 a lv has) (hl : Ls w base lv l) (hbp : base ≤ p) (hP : P ≤ s.size) (hs : s.size ≤ 140737488351232) (hn : l.length ≤ 40) :
    Calls Tryd.prog 30 #[.pointer (some ⟨p, 0, none⟩)] w (Step6 w base p s (thenRest s (beginR s ⟨P, l, hv⟩))) := by
  have HR := Lib.hid (congrArg (thenRest s) (beginR_eq s P l hv))
  generalize thenRest s (beginR s ⟨P, l, hv⟩) = R at *
  have h0 := h.cell 0
  have h1 := h.cell 1
  have H := Lib.hid h
  have HL := Lib.hid hl
  have hbs : base ≤ w.heap.size := Nat.le_trans hbp (Nat.le_of_lt (Blk.lt h))
  have HBS := Lib.hid hbs
  obtain ⟨A, cc, rfl⟩ := own_slice hl
  clear h hl hbs
  go_enter Tryd.func30, Tryd.ntmps30
  go_wp2_with (fail)
  go_loopg [3] (8) (fun q i wr => ∃ j Z : Nat, q = 8 - j ∧ j ≤ 8 ∧ Z = P + j ∧ Z ≤ s.size ∧ i = .int .i64 j ∧ common lockWord.data.toList (s.data.toList.drop P) = j + common (lockWord.data.toList.drop j) (s.data.toList.drop Z) ∧ F6 wr p s Z 0 a (.slice A l.length cc) has ∧ Fr (· = p) w wr)
  case atStart => exact ⟨0, P, rfl, by omega, rfl, by omega, rfl, by simp, H.out, Fr.refl _ _⟩
  case round =>
    obtain ⟨j, Z, rfl, hj, hZ, hPj, rfl, he, h, hf⟩ := hrel
    have h0 := h.cell 0
    have h1 := h.cell 1
    have f1 := h.unfrozen 1
    have HZ := Lib.hid hZ
    have HJ := Lib.hid h
    have HE := Lib.hid he
    have HF := Lib.hid hf
    clear h he hf hZ
    by_cases hlt : j < 8
    · have d0 : decide ((j : Int) < 8) = true := decide_eq_true (by omega)
      have bad : ∀ wx, common lockWord.data.toList (s.data.toList.drop P) = j → F6 wx p s Z 1 Z (.slice A l.length cc) has → Fr (· = p) w wx → Step6 w base p s R (.returned (.tuple #[])) wx := by
        intro wx hc hF hFr
        refine ⟨rfl, ?_, hFr.below HBS.out (fun k hk => by rw [hk]; exact hbp)⟩
        have hp : ¬ Lib.hasPrefix (s.data.toList.drop P) lockWord.data.toList = true := by
          intro hp
          have := pre_common _ _ hp
          rw [hc] at this
          have h8 : lockWord.data.toList.length = 8 := rfl
          omega
        rw [HR.out, if_neg hp, hc]
        have := HZ.out
        subst this
        exact ⟨by decide, P + j, _, has, l, hF, by omega, HL.out.keep hFr (Blk.ty H.out (by decide)), by omega⟩
      have BAD := Lib.hid bad
      clear bad
      by_cases hs2 : Z < s.size
      · have d1 : decide (s.size ≤ Z) = false := decide_eq_false (by omega)
        have d2 : decide ((s.size : Int) ≤ (Z : Int)) = false := decide_eq_false (by omega)
        have i1 : (0 : Int) ≤ (Z : Int) ∧ (Z : Int) < (s.size : Int) := ⟨by omega, by omega⟩
        have i2 : (0 : Int) ≤ (j : Int) ∧ (j : Int) < 8 := ⟨by omega, by omega⟩
        obtain ⟨r1, r2⟩ := loop_rel (w := w) (p := p) hlt HZ.out HE.out hs2
        have R1 := Lib.hid r1
        have R2 := Lib.hid r2
        clear r1 r2
        by_cases hq : s[Z] = lockWord[j]'hlt
        · have n1 : ((s[Z].toNat : Int) != (((⟨#[91, 91, 108, 111, 99, 107, 93, 93]⟩ : ByteArray)[j]'hlt).toNat : Int)) = false := by
            rw [hq]
            simp [lockWord]
          have HQ := Lib.hid hq
          clear hq
          go_wp2_with (fail)
          go_quiet (fail)
          go_wp2_with (fail)
          go_roundg (8 - (j + 1))
          case measure => omega
          case rel => exact ⟨j + 1, Z + 1, rfl, by omega, by have := HZ.out; omega, by omega, by simp, R1.out HQ.out, (HJ.out.drewN _).put 1 _, (HF.out.drewN _).put (.inl rfl) _⟩
        · have n1 : ((s[Z].toNat : Int) != (((⟨#[91, 91, 108, 111, 99, 107, 93, 93]⟩ : ByteArray)[j]'hlt).toNat : Int)) = true := by
            have : s[Z].toNat ≠ ((⟨#[91, 91, 108, 111, 99, 107, 93, 93]⟩ : ByteArray)[j]'hlt).toNat := fun e => hq (UInt8.toNat_inj.mp e)
            simp only [bne_iff_ne, ne_eq]
            omega
          have HQ := Lib.hid hq
          clear hq
          go_wp2_with (fail)
          go_quiet (fail)
          go_wp2_with (fail)
          refine (fail_calls _ p s _ _ _ has Z (HJ.out.drewN _) 1 Z).mono ?_
          rintro en w3 ⟨rfl, hf3, hfr3⟩
          have HF3 := Lib.hid hf3
          have HFR3 := Lib.hid ((HF.out.drewN _).same hfr3)
          clear hf3 hfr3
          go_wp2_with (fail)
          go_end0
          exact BAD.out _ (R2.out HQ.out) HF3.out HFR3.out
      · have d1 : decide (s.size ≤ Z) = true := decide_eq_true (by omega)
        have d2 : decide ((s.size : Int) ≤ (Z : Int)) = true := decide_eq_true (by omega)
        have hc : common lockWord.data.toList (s.data.toList.drop P) = j := by
          have e1 : s.data.toList.drop Z = [] := List.drop_of_length_le (by rw [data_length]; omega)
          have := HE.out
          rw [e1, common_nil] at this
          exact this
        have HC := Lib.hid hc
        clear hc
        go_wp2_with (fail)
        go_quiet (fail)
        go_wp2_with (fail)
        refine (fail_calls _ p s _ _ _ has Z (HJ.out.drewN _) 1 Z).mono ?_
        rintro en w3 ⟨rfl, hf3, hfr3⟩
        have HF3 := Lib.hid hf3
        have HFR3 := Lib.hid ((HF.out.drewN _).same hfr3)
        clear hf3 hfr3
        go_wp2_with (fail)
        go_end0
        exact BAD.out _ HC.out HF3.out HFR3.out
    · have d0 : decide ((j : Int) < 8) = false := decide_eq_false (by omega)
      obtain rfl : j = 8 := by omega
      have hp : Lib.hasPrefix (s.data.toList.drop P) lockWord.data.toList = true := by
        apply common_pre
        have e1 : lockWord.data.toList.drop 8 = [] := rfl
        have := HE.out
        rw [e1] at this
        exact this
      have HR1 := HR.out
      rw [if_pos hp] at HR1
      have HR2 : Hid (BR R s P l (endedE l)) := Lib.hid HR1
      clear HR HR1 HE hp h0 h1 f1
      have h4 := HJ.out.cell 4
      have HL0 := Lib.hid (HL.out.keep HF.out (Blk.ty H.out (by decide)))
      have HB0 := Lib.hid (HF.out.below HBS.out (fun k hk => by rw [hk]; exact hbp))
      go_wp2_with (fail)
      refine (check6_calls _ base _ l HL0.out (by omega)).mono ?_
      rintro en w1 ⟨rfl, hb1⟩
      have HJ1 := Lib.hid (HJ.out.below hb1)
      have HL1 := Lib.hid (pw_own_below HL0.out hb1)
      have HB1 := Lib.hid (below_then HB0.out (Nat.le_trans HBS.out HB0.out.size) hb1)
      have h4 := HJ1.out.cell 4
      clear hb1
      generalize endedE l = E at *
      by_cases he : E = 0
      · subst he
        by_cases h40 : 40 ≤ l.length
        · have d40 : decide (40 ≤ l.length) = true := decide_eq_true h40
          have d41 : decide ((40 : Int) ≤ (l.length : Int)) = true := decide_eq_true (by omega)
          go_wp2_with (fail)
          refine (fail_calls _ p s _ _ _ has Z HJ1.out 2 P).mono ?_
          rintro en w2 ⟨rfl, hf, hfr⟩
          have HJ2 := Lib.hid hf
          have HL2 := Lib.hid (Ls.keep HL1.out hfr (Blk.ty HJ1.out (by decide)))
          have HB2 := Lib.hid (HB1.out.trans (hfr.below (Nat.le_trans HBS.out HB1.out.size) (fun k hk => by rw [hk]; exact hbp)))
          have h4 := hf.cell 4
          clear hf hfr
          have HX := HJ2
          have HLX := HL2
          have HBX := HB2
          have HBSX := Lib.hid (Nat.le_trans HBS.out HBX.out.size)
          go_wp2_with (first | ((with_reducible refine gate_builtin (b := .append) (xs := #[.tmp 75, .tmp 77]) rfl ?_); at_builtin; refine print_append_cells (w0 := w) base rfl (.tmp 75) (.tmp 77) 25 31 _ 5 80 rfl Tryd.underlying25 info39 rfl (by decide) (by decide) (.slice A l.length cc) l.length (lkCells l) Lk.zero.cells rfl rfl rfl Lk.one HLX.out HBX.out HBSX.out (by omega) ?next))
          case next =>
            intro v1 w1 hown hb1 hg1 hat
            obtain ⟨A1, c1, rfl⟩ := own_slice hown
            have hrx := f6_grown HX.out HLX.out hg1
            have k4 := hrx.cell 4
            have u4 := hrx.unfrozen 4
            have u5 := hrx.unfrozen 5
            have u6 := hrx.unfrozen 6
            have u7 := hrx.unfrozen 7
            have u8 := hrx.unfrozen 8
            have u9 := hrx.unfrozen 9
            have k5 := hrx.cell 5
            have k6 := hrx.cell 6
            have k7 := hrx.cell 7
            have k8 := hrx.cell 8
            have k9 := hrx.cell 9
            have HRX1 := Lib.hid hrx
            have HO1 := Lib.hid (Ls.snoc hown)
            have HB1 := Lib.hid hb1
            clear hrx hown hb1 hg1 hat
            go_wp2_with (fail)
            have hput := (((((HRX1.out.put 4 (.slice A1 (l.length + 1) c1)).put 5 (.bool false)).put 6 (.bool false)).put 7 (.bool false)).put 8 (.bool false)).put 9 (.bool false)
            have hfr := ((((((Fr.refl (· = p) w1).put (p := ⟨p, 4, none⟩) (.inl rfl) (.slice A1 (l.length + 1) c1)).put (p := ⟨p, 5, none⟩) (.inl rfl) (.bool false)).put (p := ⟨p, 6, none⟩) (.inl rfl) (.bool false)).put (p := ⟨p, 7, none⟩) (.inl rfl) (.bool false)).put (p := ⟨p, 8, none⟩) (.inl rfl) (.bool false)).put (p := ⟨p, 9, none⟩) (.inl rfl) (.bool false)
            refine (rest6_calls _ p s _ _ (.slice A1 (l.length + 1) c1) (fun _ => false) Z hput hPj hs).mono ?_
            rintro en w9 h9
            obtain ⟨rfl, h9, hf9⟩ := h9
            have H9 := Lib.hid h9
            have HF9 := Lib.hid (hfr.same hf9)
            clear h9 hf9 hput hfr
            go_wp2_with (fail)
            go_end0
            exact ⟨rfl, rest_holds hPj H9.out (HO1.out.keep HF9.out (Blk.ty HRX1.out (by decide))) (by simp; omega) has_none (begin_hR (a := a) HZ.out HR2.out (by simp [fE, h40]) (by simp [fE, fA, h40])), HB1.out.trans (HF9.out.below (Nat.le_trans HBS.out HB1.out.size) (fun k hk => by rw [hk]; exact hbp))⟩
        · have d40 : decide (40 ≤ l.length) = false := decide_eq_false h40
          have d41 : decide ((40 : Int) ≤ (l.length : Int)) = false := decide_eq_false (by omega)
          have HX := HJ1
          have HLX := HL1
          have HBX := HB1
          have HBSX := Lib.hid (Nat.le_trans HBS.out HBX.out.size)
          go_wp2_with (first | ((with_reducible refine gate_builtin (b := .append) (xs := #[.tmp 75, .tmp 77]) rfl ?_); at_builtin; refine print_append_cells (w0 := w) base rfl (.tmp 75) (.tmp 77) 25 31 _ 5 80 rfl Tryd.underlying25 info39 rfl (by decide) (by decide) (.slice A l.length cc) l.length (lkCells l) Lk.zero.cells rfl rfl rfl Lk.one HLX.out HBX.out HBSX.out (by omega) ?next))
          case next =>
            intro v1 w1 hown hb1 hg1 hat
            obtain ⟨A1, c1, rfl⟩ := own_slice hown
            have hrx := f6_grown HX.out HLX.out hg1
            have k4 := hrx.cell 4
            have u4 := hrx.unfrozen 4
            have u5 := hrx.unfrozen 5
            have u6 := hrx.unfrozen 6
            have u7 := hrx.unfrozen 7
            have u8 := hrx.unfrozen 8
            have u9 := hrx.unfrozen 9
            have k5 := hrx.cell 5
            have k6 := hrx.cell 6
            have k7 := hrx.cell 7
            have k8 := hrx.cell 8
            have k9 := hrx.cell 9
            have HRX1 := Lib.hid hrx
            have HO1 := Lib.hid (Ls.snoc hown)
            have HB1 := Lib.hid hb1
            clear hrx hown hb1 hg1 hat
            go_wp2_with (fail)
            have hput := (((((HRX1.out.put 4 (.slice A1 (l.length + 1) c1)).put 5 (.bool false)).put 6 (.bool false)).put 7 (.bool false)).put 8 (.bool false)).put 9 (.bool false)
            have hfr := ((((((Fr.refl (· = p) w1).put (p := ⟨p, 4, none⟩) (.inl rfl) (.slice A1 (l.length + 1) c1)).put (p := ⟨p, 5, none⟩) (.inl rfl) (.bool false)).put (p := ⟨p, 6, none⟩) (.inl rfl) (.bool false)).put (p := ⟨p, 7, none⟩) (.inl rfl) (.bool false)).put (p := ⟨p, 8, none⟩) (.inl rfl) (.bool false)).put (p := ⟨p, 9, none⟩) (.inl rfl) (.bool false)
            refine (rest6_calls _ p s _ _ (.slice A1 (l.length + 1) c1) (fun _ => false) Z hput hPj hs).mono ?_
            rintro en w9 h9
            obtain ⟨rfl, h9, hf9⟩ := h9
            have H9 := Lib.hid h9
            have HF9 := Lib.hid (hfr.same hf9)
            clear h9 hf9 hput hfr
            go_wp2_with (fail)
            go_end0
            exact ⟨rfl, rest_holds hPj H9.out (HO1.out.keep HF9.out (Blk.ty HRX1.out (by decide))) (by simp; omega) has_none (begin_hR (a := a) HZ.out HR2.out (by simp [fE, h40]) (by simp [fE, fA, h40])), HB1.out.trans (HF9.out.below (Nat.le_trans HBS.out HB1.out.size) (fun k hk => by rw [hk]; exact hbp))⟩
      · have n1 : (E != 0) = true := by simpa using he
        have HEE := Lib.hid he
        clear he
        go_wp2_with (fail)
        refine (fail_calls _ p s _ _ _ has Z HJ1.out E P).mono ?_
        rintro en w2 ⟨rfl, hf, hfr⟩
        have HJ2 := Lib.hid hf
        have HL2 := Lib.hid (Ls.keep HL1.out hfr (Blk.ty HJ1.out (by decide)))
        have HB2 := Lib.hid (HB1.out.trans (hfr.below (Nat.le_trans HBS.out HB1.out.size) (fun k hk => by rw [hk]; exact hbp)))
        have h4 := hf.cell 4
        clear hf hfr
        by_cases h40 : 40 ≤ l.length
        · have d40 : decide (40 ≤ l.length) = true := decide_eq_true h40
          have d41 : decide ((40 : Int) ≤ (l.length : Int)) = true := decide_eq_true (by omega)
          go_wp2_with (fail)
          refine (fail_calls _ p s _ _ _ has Z HJ2.out 2 P).mono ?_
          rintro en w3 ⟨rfl, hf, hfr⟩
          have HJ3 := Lib.hid hf
          have HL3 := Lib.hid (Ls.keep HL2.out hfr (Blk.ty HJ2.out (by decide)))
          have HB3 := Lib.hid (HB2.out.trans (hfr.below (Nat.le_trans HBS.out HB2.out.size) (fun k hk => by rw [hk]; exact hbp)))
          have h4 := hf.cell 4
          clear hf hfr
          have HX := HJ3
          have HLX := HL3
          have HBX := HB3
          have HBSX := Lib.hid (Nat.le_trans HBS.out HBX.out.size)
          go_wp2_with (first | ((with_reducible refine gate_builtin (b := .append) (xs := #[.tmp 75, .tmp 77]) rfl ?_); at_builtin; refine print_append_cells (w0 := w) base rfl (.tmp 75) (.tmp 77) 25 31 _ 5 80 rfl Tryd.underlying25 info39 rfl (by decide) (by decide) (.slice A l.length cc) l.length (lkCells l) Lk.zero.cells rfl rfl rfl Lk.one HLX.out HBX.out HBSX.out (by omega) ?next))
          case next =>
            intro v1 w1 hown hb1 hg1 hat
            obtain ⟨A1, c1, rfl⟩ := own_slice hown
            have hrx := f6_grown HX.out HLX.out hg1
            have k4 := hrx.cell 4
            have u4 := hrx.unfrozen 4
            have u5 := hrx.unfrozen 5
            have u6 := hrx.unfrozen 6
            have u7 := hrx.unfrozen 7
            have u8 := hrx.unfrozen 8
            have u9 := hrx.unfrozen 9
            have k5 := hrx.cell 5
            have k6 := hrx.cell 6
            have k7 := hrx.cell 7
            have k8 := hrx.cell 8
            have k9 := hrx.cell 9
            have HRX1 := Lib.hid hrx
            have HO1 := Lib.hid (Ls.snoc hown)
            have HB1 := Lib.hid hb1
            clear hrx hown hb1 hg1 hat
            go_wp2_with (fail)
            have hput := (((((HRX1.out.put 4 (.slice A1 (l.length + 1) c1)).put 5 (.bool false)).put 6 (.bool false)).put 7 (.bool false)).put 8 (.bool false)).put 9 (.bool false)
            have hfr := ((((((Fr.refl (· = p) w1).put (p := ⟨p, 4, none⟩) (.inl rfl) (.slice A1 (l.length + 1) c1)).put (p := ⟨p, 5, none⟩) (.inl rfl) (.bool false)).put (p := ⟨p, 6, none⟩) (.inl rfl) (.bool false)).put (p := ⟨p, 7, none⟩) (.inl rfl) (.bool false)).put (p := ⟨p, 8, none⟩) (.inl rfl) (.bool false)).put (p := ⟨p, 9, none⟩) (.inl rfl) (.bool false)
            refine (rest6_calls _ p s _ _ (.slice A1 (l.length + 1) c1) (fun _ => false) Z hput hPj hs).mono ?_
            rintro en w9 h9
            obtain ⟨rfl, h9, hf9⟩ := h9
            have H9 := Lib.hid h9
            have HF9 := Lib.hid (hfr.same hf9)
            clear h9 hf9 hput hfr
            go_wp2_with (fail)
            go_end0
            exact ⟨rfl, rest_holds hPj H9.out (HO1.out.keep HF9.out (Blk.ty HRX1.out (by decide))) (by simp; omega) has_none (begin_hR (a := a) HZ.out HR2.out (by simp [fE, HEE.out]) (by simp [fE, fA, HEE.out])), HB1.out.trans (HF9.out.below (Nat.le_trans HBS.out HB1.out.size) (fun k hk => by rw [hk]; exact hbp))⟩
        · have d40 : decide (40 ≤ l.length) = false := decide_eq_false h40
          have d41 : decide ((40 : Int) ≤ (l.length : Int)) = false := decide_eq_false (by omega)
          have HX := HJ2
          have HLX := HL2
          have HBX := HB2
          have HBSX := Lib.hid (Nat.le_trans HBS.out HBX.out.size)
          go_wp2_with (first | ((with_reducible refine gate_builtin (b := .append) (xs := #[.tmp 75, .tmp 77]) rfl ?_); at_builtin; refine print_append_cells (w0 := w) base rfl (.tmp 75) (.tmp 77) 25 31 _ 5 80 rfl Tryd.underlying25 info39 rfl (by decide) (by decide) (.slice A l.length cc) l.length (lkCells l) Lk.zero.cells rfl rfl rfl Lk.one HLX.out HBX.out HBSX.out (by omega) ?next))
          case next =>
            intro v1 w1 hown hb1 hg1 hat
            obtain ⟨A1, c1, rfl⟩ := own_slice hown
            have hrx := f6_grown HX.out HLX.out hg1
            have k4 := hrx.cell 4
            have u4 := hrx.unfrozen 4
            have u5 := hrx.unfrozen 5
            have u6 := hrx.unfrozen 6
            have u7 := hrx.unfrozen 7
            have u8 := hrx.unfrozen 8
            have u9 := hrx.unfrozen 9
            have k5 := hrx.cell 5
            have k6 := hrx.cell 6
            have k7 := hrx.cell 7
            have k8 := hrx.cell 8
            have k9 := hrx.cell 9
            have HRX1 := Lib.hid hrx
            have HO1 := Lib.hid (Ls.snoc hown)
            have HB1 := Lib.hid hb1
            clear hrx hown hb1 hg1 hat
            go_wp2_with (fail)
            have hput := (((((HRX1.out.put 4 (.slice A1 (l.length + 1) c1)).put 5 (.bool false)).put 6 (.bool false)).put 7 (.bool false)).put 8 (.bool false)).put 9 (.bool false)
            have hfr := ((((((Fr.refl (· = p) w1).put (p := ⟨p, 4, none⟩) (.inl rfl) (.slice A1 (l.length + 1) c1)).put (p := ⟨p, 5, none⟩) (.inl rfl) (.bool false)).put (p := ⟨p, 6, none⟩) (.inl rfl) (.bool false)).put (p := ⟨p, 7, none⟩) (.inl rfl) (.bool false)).put (p := ⟨p, 8, none⟩) (.inl rfl) (.bool false)).put (p := ⟨p, 9, none⟩) (.inl rfl) (.bool false)
            refine (rest6_calls _ p s _ _ (.slice A1 (l.length + 1) c1) (fun _ => false) Z hput hPj hs).mono ?_
            rintro en w9 h9
            obtain ⟨rfl, h9, hf9⟩ := h9
            have H9 := Lib.hid h9
            have HF9 := Lib.hid (hfr.same hf9)
            clear h9 hf9 hput hfr
            go_wp2_with (fail)
            go_end0
            exact ⟨rfl, rest_holds hPj H9.out (HO1.out.keep HF9.out (Blk.ty HRX1.out (by decide))) (by simp; omega) has_none (begin_hR (a := a) HZ.out HR2.out (by simp [fE, HEE.out]) (by simp [fE, fA, HEE.out])), HB1.out.trans (HF9.out.below (Nat.le_trans HBS.out HB1.out.size) (fun k hk => by rw [hk]; exact hbp))⟩
end
end Go.Proofs.YtljfcdfdedkajaaDoor.Q
