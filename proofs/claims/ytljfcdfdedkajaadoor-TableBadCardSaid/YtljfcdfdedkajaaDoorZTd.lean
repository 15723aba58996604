import Derived.Test.YtljfcdfdedkajaaDoorZTc
import Derived.Deep.RegionLaw
set_option linter.unusedVariables false
set_option linter.unusedSimpArgs false
namespace Go.Proofs.YtljfcdfdedkajaaDoor.Q
open Go.RowKit Go.Proofs.YtljfcdfdedkajaaDoorW.PrintWords
def Lk.zero : Lk := ⟨⟨#[]⟩, ⟨#[]⟩, ⟨#[]⟩, ⟨#[]⟩, ⟨#[]⟩⟩
theorem Lk.one : ∀ u ∈ Lk.zero.cells, u.oneCell' = true := by
  intro u hu
  simp only [Lk.cells, List.mem_cons, List.not_mem_nil, or_false] at hu
  rcases hu with rfl | rfl | rfl | rfl | rfl <;> rfl
theorem Ls.snoc {w : World} {base : Nat} {v : Value} {l : List Lk} {x : Lk} (h : w.ownsRow base 31 5 v (l.length + 1) (lkCells l ++ x.cells)) : Ls w base v (l ++ [x]) := by
  unfold Ls
  rw [List.length_append, lkCells_append]
  simpa [lkCells] using h
structure PSt where
  a : Nat
  l : List Lk
  hv : ByteArray
inductive Res
  | bad (wh : Nat) (e : Int)
  | ok (st : PSt)
def Good (w : World) (base p c : Nat) (s : ByteArray) (st : PSt) : Prop := ∃ lv wh, Rd w p c s lv st.hv wh 0 ∧ Ls w base lv st.l ∧ Cur w c s st.a
def Bad (w : World) (p c : Nat) (s : ByteArray) (wh : Nat) (e : Int) : Prop := e ≠ 0 ∧ ∃ lv hv, Rd w p c s lv hv wh e
def Holds (w : World) (base p c : Nat) (s : ByteArray) : Res → Prop
  | .bad wh e => Bad w p c s wh e
  | .ok st => Good w base p c s st
def lockWord : ByteArray := ⟨#[91, 91, 108, 111, 99, 107, 93, 93]⟩
def beginR (s : ByteArray) (st : PSt) : Res :=
  if Lib.hasPrefix (s.data.toList.drop st.a) lockWord.data.toList = true then
    if endedE st.l = 0 then if 40 ≤ st.l.length then .bad st.a 2 else .ok ⟨st.a + 8, st.l ++ [Lk.zero], ⟨#[]⟩⟩
    else .bad st.a (endedE st.l)
  else .bad (st.a + common lockWord.data.toList (s.data.toList.drop st.a)) 1
theorem beginR_eq (s : ByteArray) (a : Nat) (l : List Lk) (hv : ByteArray) : beginR s ⟨a, l, hv⟩ =
  if Lib.hasPrefix (s.data.toList.drop a) lockWord.data.toList = true then
    if endedE l = 0 then if 40 ≤ l.length then .bad a 2 else .ok ⟨a + 8, l ++ [Lk.zero], ⟨#[]⟩⟩
    else .bad a (endedE l)
  else .bad (a + common lockWord.data.toList (s.data.toList.drop a)) 1 := rfl
def StepPost (w : World) (base p c : Nat) (s : ByteArray) (r : Res) (e : Ending) (w' : World) : Prop :=
  e = .returned (.tuple #[]) ∧ Holds w' base p c s r ∧ Below base w w'
theorem info39 : (Tryd.prog.info? 31).map (fun i => (i.zero, i.size, i.bytes)) = some (some (.agg #[(.string ⟨#[]⟩), (.string ⟨#[]⟩), (.string ⟨#[]⟩), (.string ⟨#[]⟩), (.string ⟨#[]⟩)]), 5, 80) := by kernel_rfl
theorem rd_grown {w w1 : World} {base p c : Nat} {s : ByteArray} {lv : Value} {hv : ByteArray} {wh e : Int} {l : List Lk} {lv' : Value} (h : Rd w p c s lv' hv wh e) (hl : Ls w base lv l) (hg : w.grownBy w1 lv.ownBlock) : Rd w1 p c s lv' hv wh e :=
  blk_grown h hg (fun hk => by
    obtain ⟨cells, hc⟩ := own_typed hl p hk.symm
    exact Blk.ty h (by decide) p cells rfl hc)
theorem cur_grown {w w1 : World} {base c : Nat} {s : ByteArray} {lv : Value} {l : List Lk} {a : Int} (h : Cur w c s a) (hl : Ls w base lv l) (hg : w.grownBy w1 lv.ownBlock) : Cur w1 c s a :=
  blk_grown h hg (fun hk => by
    obtain ⟨cells, hc⟩ := own_typed hl c hk.symm
    exact Blk.ty h (by decide) c cells rfl hc)
section
variable (w : World) (base p c : Nat) (s : ByteArray)
theorem wrong_any (lv : Value) (hv : ByteArray) (wh e : Int) (h : Rd w p c s lv hv wh e) (a x : Int) :
    Calls Tryd.prog 49 #[.pointer (some ⟨p, 0, none⟩), .int .i64 a, .int .i64 x] w fun e' w' => e' = .returned (.tuple #[]) ∧ Rd w' p c s lv hv (if e = 0 then a else wh) (if e = 0 then x else e) ∧ Fr (· = p) w w' := by
  by_cases he : e = 0
  · subst he
    exact wrong_set w p c s lv hv wh h a x
  · refine (wrong_keep w p c s lv hv wh e h he a x).mono ?_
    rintro e' w' ⟨rfl, rfl⟩
    exact ⟨rfl, by rw [if_neg he, if_neg he]; exact h, Fr.refl _ _⟩
set_option maxHeartbeats 2000000 in
set_option maxRecDepth 100000 in
theorem begins_calls (st : PSt) (hg : Good w base p c s st) (hbp : base ≤ p) (hbc : base ≤ c) (ha : st.a ≤ s.size) (hs : s.size ≤ 140737488351232) (hn : st.l.length ≤ 40) :
    Calls Tryd.prog 22 #[.pointer (some ⟨p, 0, none⟩)] w (StepPost w base p c s (beginR s st)) := by
  obtain ⟨a, l, hv⟩ := st
  obtain ⟨lv, wh, h, hl, hc⟩ := hg
  simp only at h hl hc ha hn
  have HR := Lib.hid (beginR_eq s a l hv)
  generalize beginR s ⟨a, l, hv⟩ = R at *
  have h0 := h.cell 0
  have HPC := Lib.hid (rd_ne _ _ _ _ _ _ _ _ h hc)
  have HC := Lib.hid hc
  have H := Lib.hid h
  have HL := Lib.hid hl
  have hbs : base ≤ w.heap.size := Nat.le_trans hbp (Nat.le_of_lt (Blk.lt h))
  have HBS := Lib.hid hbs
  clear h hc hl hbs
  by_cases hp : Lib.hasPrefix (s.data.toList.drop a) lockWord.data.toList = true
  · rw [if_pos hp] at HR
    have HP := Lib.hid hp
    clear hp
    obtain ⟨A, cc, rfl⟩ := own_slice HL.out
    go_enter Tryd.func22, Tryd.ntmps22
    go_wp2_with (fail)
    refine (at_calls _ c s _ HC.out).mono ?_
    rintro e w1 ⟨rfl, rfl⟩
    go_wp2_with (fail)
    refine (take_yes _ c s lockWord a HC.out ha hs HP.out).mono ?_
    rintro e w2 ⟨rfl, hc2, hf2⟩
    have h2 : Rd w2 p c s _ hv wh 0 := Blk.fr H.out hf2 HPC.out
    have hl2 := Ls.keep HL.out hf2 (Blk.ty HC.out (by decide))
    have HC2 := Lib.hid hc2
    have H2 := Lib.hid h2
    have HL2 := Lib.hid hl2
    have HB2 := Lib.hid (hf2.below HBS.out (fun k hk => by rw [hk]; exact hbc))
    clear hc2 h2 hl2 hf2
    go_wp2_with (fail)
    refine (ended_calls _ p c s _ hv wh a base l H2.out HL2.out hn).mono ?_
    rintro e w3 ⟨rfl, hr3, hf3⟩
    have hr3' : ∃ wh3, Rd w3 p c s (.slice A l.length cc) hv wh3 (endedE l) ∧ (endedE l ≠ 0 → wh3 = a) := by
      by_cases he : endedE l = 0
      · rw [if_pos he] at hr3
        exact ⟨wh, by rw [he]; exact hr3, fun h => absurd he h⟩
      · rw [if_neg he] at hr3
        exact ⟨a, hr3, fun _ => rfl⟩
    obtain ⟨wh3, h3, hwh3⟩ := hr3'
    have hl3 := Ls.keep HL2.out hf3 (Blk.ty H2.out (by decide))
    have HC3 := Lib.hid (Blk.fr HC2.out hf3 (fun e => HPC.out e.symm))
    have HB3 := Lib.hid (HB2.out.trans (hf3.below (Nat.le_trans HBS.out HB2.out.size) (fun k hk => by rw [hk]; exact hbp)))
    have h32 := h3.cell 2
    have H3 := Lib.hid h3
    have HL3 := Lib.hid hl3
    have HW3 := Lib.hid hwh3
    clear h3 hl3 hwh3 hf3 hr3
    by_cases h40 : 40 ≤ l.length
    · rw [if_pos h40] at HR
      go_wp2_with (fail)
      refine (wrong_any _ p c s _ hv wh3 (endedE l) H3.out a 2).mono ?_
      rintro e w4 ⟨rfl, h4, hf4⟩
      have hl4 := Ls.keep HL3.out hf4 (Blk.ty H3.out (by decide))
      have HC4 := Lib.hid (Blk.fr HC3.out hf4 (fun e => HPC.out e.symm))
      have HB4 := Lib.hid (HB3.out.trans (hf4.below (Nat.le_trans HBS.out HB3.out.size) (fun k hk => by rw [hk]; exact hbp)))
      have h42 := h4.cell 2
      have H4 := Lib.hid h4
      have HL4 := Lib.hid hl4
      clear h4 hl4 hf4
      have HX := H4
      have HCX := HC4
      have HLX := HL4
      have HBX := HB4
      have HBSX := Lib.hid (Nat.le_trans HBS.out HBX.out.size)
      go_wp2_with (first | ((with_reducible refine gate_builtin (b := .append) (xs := #[.tmp 37, .tmp 39]) rfl ?_); at_builtin; refine print_append_cells (w0 := w) base rfl (.tmp 37) (.tmp 39) 25 31 _ 5 80 rfl Tryd.underlying25 info39 rfl (by decide) (by decide) (.slice A l.length cc) l.length (lkCells l) Lk.zero.cells rfl rfl rfl Lk.one HLX.out HBX.out HBSX.out (by omega) ?next))
      case next =>
        intro v1 w1 hown hb1 hg1 hat
        obtain ⟨A1, c1, rfl⟩ := own_slice hown
        have hrx := rd_grown HX.out HLX.out hg1
        have hcx := cur_grown HCX.out HLX.out hg1
        have k2 := hrx.cell 2
        have k3 := hrx.cell 3
        have u2 := hrx.unfrozen 2
        have u3 := hrx.unfrozen 3
        have HRX1 := Lib.hid hrx
        have HCX1 := Lib.hid hcx
        have HO1 := Lib.hid (Ls.snoc hown)
        have HB1 := Lib.hid hb1
        clear hrx hcx hown hb1 hg1 hat
        go_wp2_with (fail)
        go_end0
        have hput := ((HRX1.out.put 2 (.slice A1 (l.length + 1) c1)).put 3 (.string ⟨#[]⟩))
        have hfr := ((Fr.refl (· = p) w1).put (p := ⟨p, 2, none⟩) (.inl rfl) (.slice A1 (l.length + 1) c1)).put (p := ⟨p, 3, none⟩) (.inl rfl) (.string ⟨#[]⟩)
        refine ⟨rfl, ?_, HB1.out.trans (hfr.below (Nat.le_trans HBS.out HB1.out.size) (fun k hk => by rw [hk]; exact hbp))⟩
        rw [HR.out]
        by_cases he : endedE l = 0
        · rw [if_pos he]
          refine ⟨by decide, .slice A1 (l.length + 1) c1, ⟨#[]⟩, ?_⟩
          rw [if_pos he, if_pos he] at hput
          exact hput
        · rw [if_neg he]
          refine ⟨he, .slice A1 (l.length + 1) c1, ⟨#[]⟩, ?_⟩
          rw [if_neg he, if_neg he, HW3.out he] at hput
          exact hput
    · rw [if_neg h40] at HR
      have HX := H3
      have HCX := HC3
      have HLX := HL3
      have HBX := HB3
      have HBSX := Lib.hid (Nat.le_trans HBS.out HBX.out.size)
      go_wp2_with (first | ((with_reducible refine gate_builtin (b := .append) (xs := #[.tmp 37, .tmp 39]) rfl ?_); at_builtin; refine print_append_cells (w0 := w) base rfl (.tmp 37) (.tmp 39) 25 31 _ 5 80 rfl Tryd.underlying25 info39 rfl (by decide) (by decide) (.slice A l.length cc) l.length (lkCells l) Lk.zero.cells rfl rfl rfl Lk.one HLX.out HBX.out HBSX.out (by omega) ?next))
      case next =>
        intro v1 w1 hown hb1 hg1 hat
        obtain ⟨A1, c1, rfl⟩ := own_slice hown
        have hrx := rd_grown HX.out HLX.out hg1
        have hcx := cur_grown HCX.out HLX.out hg1
        have k2 := hrx.cell 2
        have k3 := hrx.cell 3
        have u2 := hrx.unfrozen 2
        have u3 := hrx.unfrozen 3
        have HRX1 := Lib.hid hrx
        have HCX1 := Lib.hid hcx
        have HO1 := Lib.hid (Ls.snoc hown)
        have HB1 := Lib.hid hb1
        clear hrx hcx hown hb1 hg1 hat
        go_wp2_with (fail)
        go_end0
        have hput := ((HRX1.out.put 2 (.slice A1 (l.length + 1) c1)).put 3 (.string ⟨#[]⟩))
        have hfr := ((Fr.refl (· = p) w1).put (p := ⟨p, 2, none⟩) (.inl rfl) (.slice A1 (l.length + 1) c1)).put (p := ⟨p, 3, none⟩) (.inl rfl) (.string ⟨#[]⟩)
        refine ⟨rfl, ?_, HB1.out.trans (hfr.below (Nat.le_trans HBS.out HB1.out.size) (fun k hk => by rw [hk]; exact hbp))⟩
        rw [HR.out]
        by_cases he : endedE l = 0
        · rw [if_pos he]
          rw [he] at hput
          exact ⟨.slice A1 (l.length + 1) c1, wh3, hput, HO1.out.keep hfr (Blk.ty HRX1.out (by decide)), Blk.fr HCX1.out hfr (fun e => HPC.out e.symm)⟩
        · rw [if_neg he]
          rw [HW3.out he] at hput
          exact ⟨he, .slice A1 (l.length + 1) c1, ⟨#[]⟩, hput⟩
  · rw [if_neg hp] at HR
    have hp' : Lib.hasPrefix (s.data.toList.drop a) lockWord.data.toList = false := by simpa using hp
    have HP := Lib.hid hp'
    clear hp hp'
    go_enter Tryd.func22, Tryd.ntmps22
    go_wp2_with (fail)
    refine (at_calls _ c s _ HC.out).mono ?_
    rintro e w1 ⟨rfl, rfl⟩
    go_wp2_with (fail)
    refine (take_no _ c s lockWord a HC.out ha HP.out).mono ?_
    rintro e w2 ⟨rfl, hd2⟩
    obtain ⟨n2, rfl⟩ := hd2
    go_wp2_with (fail)
    refine (odd_calls _ p c s lv hv wh 0 lockWord a (H.out.drewN n2) (HC.out.drewN n2) ha hs (by decide)).mono ?_
    rintro e w3 ⟨rfl, hd3⟩
    obtain ⟨n3, rfl⟩ := hd3
    go_wp2_with (fail)
    refine (wrong_set _ p c s lv hv wh (H.out.drewN (n2 + n3)) _ 1).mono ?_
    rintro e w4 ⟨rfl, h4, hf4⟩
    have H4 := Lib.hid h4
    have HF4 := Lib.hid hf4
    clear h4 hf4
    go_wp2_with (fail)
    refine bodyPost_ret (results_none rfl _ _ _) rfl ?_
    refine ⟨rfl, ?_, (Fr.below ((drawn_fr (S := fun k => k = p) ⟨n2 + n3, rfl⟩).same HF4.out) HBS.out (fun k hk => by rw [hk]; exact hbp))⟩
    rw [HR.out]
    exact ⟨by decide, lv, hv, H4.out⟩
end
end Go.Proofs.YtljfcdfdedkajaaDoor.Q
