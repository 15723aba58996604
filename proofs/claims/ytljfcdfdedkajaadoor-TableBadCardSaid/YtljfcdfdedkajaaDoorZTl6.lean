import Derived.Test.YtljfcdfdedkajaaDoorZTx6
import Derived.Test.YtljfcdfdedkajaaDoorZQ5
set_option linter.unusedVariables false
set_option linter.unusedSimpArgs false
namespace Go.Proofs.YtljfcdfdedkajaaDoor.Q
open Go.RowKit Go.Proofs.YtljfcdfdedkajaaDoorW.PrintWords Go.Proofs.YtljfcdfdedkajaaDoorW.PrintLast Go.Proofs.YtljfcdfdedkajaaDoorW.PrintMore
theorem ev_at {α : Type} {g : Nat → Option α} {r : α} (h : Ev g r) : ∃ k, g k = some r := by
 obtain ⟨n, hn⟩ := h
 exact ⟨n, hn n (Nat.le_refl _)⟩
theorem then_rest (s : ByteArray) (r : Res) : thenRest s r = restOf s r := by cases r <;> rfl
theorem extract_none (s : ByteArray) (A : Nat) : s.extract A A = ⟨#[]⟩ := by
 apply ByteArray.ext
 apply Array.ext'
 rw [ByteArray.data_extract, Array.toList_extract, List.extract_eq_take_drop, Nat.sub_self, List.take_zero]
theorem field_odd (s : ByteArray) (A : Nat) (l : List Lk) (hv : ByteArray) (hA : A < s.size) (h10 : byteAt s A ≠ 10) (h35 : byteAt s A ≠ 35) (hb : spanEnd blank s A = A) (hl : ¬ (97 ≤ byteAt s A ∧ byteAt s A ≤ 122)) :
  thenRest s (fieldR s ⟨A, l, hv⟩) = restOf s (.ok ⟨A, l, hv⟩) := by
 have hlow : lower s[A] = false := by
  rw [lower_eq]
  rw [byteAt_lt s hA] at hl
  by_cases h1 : 97 ≤ s[A].toNat
  ·rw [decide_eq_true h1, Bool.true_and, decide_eq_false (by omega)]
  ·rw [decide_eq_false h1, Bool.false_and]
 have e1 : fieldR s ⟨A, l, hv⟩ = .bad A 1 := by
  rcases List.eq_nil_or_concat l with rfl | ⟨init, x, rfl⟩
  ·rfl
  ·rw [List.concat_eq_append, fieldR_snoc, spanEnd_no lower s A hA hlow, extract_none, if_pos (by decide)]
 have e2 : restR s A = (false, A) := by
  unfold restR
  simp only [hb, if_neg h35, if_neg h10, if_pos hA]
 rw [e1]
 show Res.bad A 1 = if (restR s A).1 = true then _ else Res.bad (restR s A).2 1
 rw [e2]
 rfl
theorem rest_end (s : ByteArray) (A : Nat) (l : List Lk) (hv : ByteArray) (hA : s.size ≤ A) : restOf s (switchR s ⟨A, l, hv⟩) = .ok ⟨A, l, hv⟩ := by
 have h0 := byteAt_ge s hA
 have e2 : restR s A = (true, A) := by
  unfold restR
  simp only [spanEnd_end blank s A hA, h0]
  have e : (if (0 : Int) = 35 then spanEnd noteB s A else A) = A := if_neg (by decide)
  rw [e, h0, if_neg (by decide), if_neg (by omega)]
 have e1 : switchR s ⟨A, l, hv⟩ = .ok ⟨A, l, hv⟩ := by
  unfold switchR
  rw [h0, if_neg (by decide), if_neg (by decide)]
 rw [e1]
 show (if (restR s A).1 = true then Res.ok ⟨(restR s A).2, l, hv⟩ else _) = _
 rw [e2]
 rfl
theorem locksR_nil (s : ByteArray) (h : s.size = 0) : linesR s (s.size + 1) ⟨0, [], ⟨#[]⟩⟩ = .ok ⟨0, [], ⟨#[]⟩⟩ := by
 rw [linesR_eq, spanEnd_end blank s 0 (by omega), rest_end s 0 _ _ (by omega)]
 simp only [afterR]
 rw [if_neg (by omega)]
def L6 (s : ByteArray) (R0 : Res) (base p q : Nat) (w wr : World) : Prop :=
 Below base w wr ∧ ((∃ st, Good6 wr base p s st ∧ Inv s st ∧ st.a < s.size ∧ linesR s q st = R0 ∧ s.size < q + st.a) ∨
  (∃ st, Good6 wr base p s st ∧ Inv s st ∧ s.size ≤ st.a ∧ R0 = .ok st) ∨ (∃ wh e, Bad6 wr base p s wh e ∧ R0 = .bad wh e ∧ wh ≤ s.size))
theorem l6_after {s : ByteArray} {R0 : Res} {base p q : Nat} {w wr : World} {st1 : PSt} (hb : Below base w wr) (hi : Inv s st1) (h : Holds6 wr base p s (restOf s (switchR s st1))) (hR : afterR s q (restOf s (switchR s st1)) = R0) (hq : s.size < q + 1 + st1.a) : L6 s R0 base p q w wr := by
 have hs := switch_ok s st1 hi
 refine ⟨hb, ?_⟩
 generalize switchR s st1 = r at *
 cases r with
 | bad wh e => exact .inr (.inr ⟨wh, e, h, hR.symm, hs⟩)
 | ok st2 =>
  obtain ⟨hi2, hge⟩ := hs
  obtain ⟨r1, r2, r3⟩ := rest_bound s st2.a hi2.a
  cases hrr : (restR s st2.a).1 with
  | false =>
   have e : restOf s (.ok st2) = .bad (restR s st2.a).2 1 := by simp only [restOf, hrr]; rfl
   rw [e] at h hR
   exact .inr (.inr ⟨_, _, h, hR.symm, r1⟩)
  | true =>
   have e : restOf s (.ok st2) = .ok ⟨(restR s st2.a).2, st2.l, st2.hv⟩ := by simp only [restOf, hrr, if_true]
   rw [e] at h hR
   have hi3 : Inv s ⟨(restR s st2.a).2, st2.l, st2.hv⟩ := ⟨r1, hi2.l, Nat.le_trans hi2.hv r2⟩
   simp only [afterR] at hR
   by_cases hlt : (restR s st2.a).2 < s.size
   ·rw [if_pos hlt] at hR
    exact .inl ⟨_, h, hi3, hlt, hR, by have := r3 hrr hlt; simp only; omega⟩
   ·rw [if_neg hlt] at hR
    exact .inr (.inl ⟨_, h, hi3, by simp only; omega, hR.symm⟩)
theorem place_facts6 {w0 w w' : World} {p g : Nat} {s : ByteArray} {P e a x y : Int} {lv : Value} {has : Nat → Bool} (hb : Below w.heap.size w w') (he : w.heap = w0.heap) (h1 : w.os = w0.os) (h2 : w.tape = w0.tape) (h3 : w.output = w0.output) (h : F6 w0 p s P e a lv has) (hp : Blk w0 g 35 #[.int .i64 x, .int .i64 y]) :
  w'.cell? ⟨p, 2, none⟩ = some (.int .i64 e) ∧ w'.cell? ⟨g, 0, none⟩ = some (.int .i64 x) ∧ w'.cell? ⟨g, 1, none⟩ = some (.int .i64 y) ∧ w'.frozen? ⟨g, 0, none⟩ = false ∧ w'.frozen? ⟨g, 1, none⟩ = false ∧ Hid (Blk w' g 35 #[.int .i64 x, .int .i64 y]) ∧ Hid (Below w0.heap.size w0 w') :=
 ⟨(Blk.below' h he hb).cell 2, (Blk.below' hp he hb).cell 0, (Blk.below' hp he hb).cell 1, (Blk.below' hp he hb).unfrozen 0, (Blk.below' hp he hb).unfrozen 1, Lib.hid (Blk.below' hp he hb), Lib.hid
  (by
   rw [← he]
   exact ⟨hb.os.trans h1, hb.tape.trans h2, hb.output.trans h3, by rw [← he]; exact hb.size, fun k hk => by rw [← he]; exact hb.block k hk⟩)⟩
section
variable (w : World) (s : ByteArray)
theorem place6_calls (wh : Nat) (hwh : wh ≤ s.size) (hs : s.size ≤ 8000) (w : World) :
  Calls Tryd.prog 15 #[.string s, .int .i64 wh] w fun e w' => e = .returned (.agg #[.int .i64 (place (s.data.toList.take wh)).1, .int .i64 (place (s.data.toList.take wh)).2]) ∧ Below w.heap.size w w' := by
 obtain ⟨k, hk⟩ := ev_at (place_ev s (by omega) wh hwh)
 exact transhumanceref1_Place.calls k _ _ _ _ w hk
set_option maxHeartbeats 4000000 in
set_option maxRecDepth 100000 in
theorem locks6_short (hs : s.size ≤ 8000) :
  Calls Tryd.prog 14 #[.string s] w (LocksPost w s) := by
 generalize hR0 : linesR s (s.size + 1) ⟨0, [], ⟨#[]⟩⟩ = R0
 have HR0 := Lib.hid hR0
 clear hR0
 generalize hB : w.heap.size = B
 have HB := Lib.hid hB
 clear hB
 go_enter Tryd.func14, Tryd.ntmps14
 go_upto_block 0 with (fail)
 have HN0 := Lib.hid (Blk.new2 w (.cells #[.int .i64 0, .int .i64 0] 35) 65 #[.string s, .int .i64 0, .int .i64 0, .int .i64 0, .slice none 0 0, .bool false, .bool false, .bool false, .bool false, .bool false])
 have HP0 := Lib.hid ((Blk.new w 35 #[.int .i64 0, .int .i64 0]).alloc (.cells #[.string s, .int .i64 0, .int .i64 0, .int .i64 0, .slice none 0 0, .bool false, .bool false, .bool false, .bool false, .bool false] 65))
 have HB0 := Lib.hid (((Below.refl B w).alloc (by rw [HB.out]; exact Nat.le_refl _) (.cells #[.int .i64 0, .int .i64 0] 35)).alloc (by rw [World.size_alloc, HB.out]; omega) (.cells #[.string s, .int .i64 0, .int .i64 0, .int .i64 0, .slice none 0 0, .bool false, .bool false, .bool false, .bool false, .bool false] 65))
 have hB := HB.out
 rw [hB] at HN0 HP0 ⊢
 clear hB
 generalize (w.alloc (.cells #[.int .i64 0, .int .i64 0] 35)).alloc (.cells #[.string s, .int .i64 0, .int .i64 0, .int .i64 0, .slice none 0 0, .bool false, .bool false, .bool false, .bool false, .bool false] 65) = w0 at *
 have HL0 : Hid (L6 s R0 (B + 1) (B + 1) (s.size + 1) w0 w0) := Lib.hid (by
  refine ⟨Below.refl _ _, ?_⟩
  have hg : Good6 w0 (B + 1) (B + 1) s ⟨0, [], ⟨#[]⟩⟩ := ⟨0, 0, .slice none 0 0, fun _ => false, HN0.out, Ls.nil _ _, .inl rfl, HasRel.none⟩
  have hi : Inv s ⟨0, [], ⟨#[]⟩⟩ := ⟨Nat.zero_le _, Nat.zero_le _, Nat.zero_le _⟩
  by_cases hz : s.size = 0
  ·exact .inr (.inl ⟨_, hg, hi, by simp only; omega, HR0.out.symm.trans (locksR_nil s hz)⟩)
  ·exact .inl ⟨_, hg, hi, by simp only; omega, HR0.out, by simp only; omega⟩)
 have hs' : s.size ≤ 140737488351232 := by omega
 go_cut [] (fun wx => Below (B + 1) w0 wx ∧ Holds6 wx (B + 1) (B + 1) s R0 ∧ ResOk s 0 R0)
 case first =>
  go_wp2_with (fail)
  go_loopg [] (s.size + 1) (fun q wr => L6 s R0 (B + 1) (B + 1) q w0 wr)
  case atStart => exact HL0.out
  case round =>
   obtain ⟨hb, hl⟩ := hrel
   rcases hl with ⟨st, hg, hi, ha, hln, hq⟩ | ⟨st, hg, hi, ha, hln⟩ | ⟨wh, e, hg, hln, hw⟩
   ·obtain ⟨P, a, lv, has, hf, hls, hP, hr⟩ := hg
    obtain rfl : P = st.a := by omega
    obtain ⟨m, rfl⟩ : ∃ m, gk = m + 1 := ⟨gk - 1, by omega⟩
    have h1 := hf.cell 1
    have h2 := hf.cell 2
    have d1 : decide ((st.a : Int) < (s.size : Int)) = true := decide_eq_true (by omega)
    have d1n : decide (st.a < s.size) = true := decide_eq_true (by omega)
    rw [linesR_eq] at hln
    have hA := spanEnd_le blank s st.a hi.a
    have hAg := spanEnd_ge blank s st.a
    have hAi := spanEnd_idem blank s st.a hi.a
    have hib := hi.blank
    have HF := Lib.hid hf
    have HLS := Lib.hid hls
    have HLN := Lib.hid hln
    have HR := Lib.hid hr
    have HB1 := Lib.hid hb
    have hia := hi.a
    clear hf hls hln hr hb hP
    go_wp2_with (fail)
    refine (blanks6_calls _ (B + 1) s _ _ _ has st.a HF.out hia hs').mono ?_
    rintro en w2 ⟨rfl, hf2, hfr2⟩
    have HF2 := Lib.hid hf2
    have HLS2 := Lib.hid (HLS.out.keep hfr2 (Blk.ty HF.out (by decide)))
    have HB2 := Lib.hid (HB1.out.trans (hfr2.below (B := B + 1) (by have := Blk.lt HF.out; omega) (fun k hk => by rw [hk]; exact Nat.le_refl _)))
    clear hf2 hfr2 HF HLS HB1 h1 h2
    generalize hAA : spanEnd blank s st.a = A at *
    clear hAA
    have h1 := HF2.out.cell 1
    have h2 := HF2.out.cell 2
    have HIB := Lib.hid hib
    have HAI := Lib.hid hAi
    have HQ := Lib.hid (show s.size < m + 1 + A from by omega)
    clear hib hAi d1 d1n
    by_cases hAs : s.size ≤ A
    ·have d2 : decide (s.size ≤ A) = true := decide_eq_true hAs
     have d3 : decide ((s.size : Int) ≤ (A : Int)) = true := decide_eq_true (by omega)
     have HE := Lib.hid (rest_end s A st.l st.hv hAs)
     go_wp2_with (fail)
     go_roundg m
     case measure => omega
     case rel =>
      refine ⟨HB2.out, .inr (.inl ⟨⟨A, st.l, st.hv⟩, ⟨A, a, lv, has, HF2.out, HLS2.out, .inl rfl, HR.out⟩, HIB.out, hAs, ?_⟩)⟩
      have := HLN.out
      rw [HE.out] at this
      simp only [afterR] at this
      rw [if_neg (by omega)] at this
      exact this.symm
    ·have d2 : decide (s.size ≤ A) = false := decide_eq_false hAs
     have d3 : decide ((s.size : Int) ≤ (A : Int)) = false := decide_eq_false (by omega)
     have i1 : (0 : Int) ≤ (A : Int) ∧ (A : Int) < (s.size : Int) := ⟨by omega, by omega⟩
     have hAlt : A < s.size := by omega
     have HBY := Lib.hid (byteAt_lt s hAlt)
     have hl40 := hi.l
     by_cases h10 : (s[A].toNat : Int) = 10
     ·have n1 : ((s[A].toNat : Int) == 10) = true := by simpa using h10
      have HSW : Hid (switchR s ⟨A, st.l, st.hv⟩ = .ok ⟨A, st.l, st.hv⟩) := Lib.hid (by
       unfold switchR
       simp only
       rw [HBY.out, h10, if_neg (by decide), if_neg (by decide)])
      clear h10
      go_wp2_with (fail)
      refine (rest6_calls _ (B + 1) s _ _ lv has A HF2.out hA hs').mono ?_
      rintro en w3 ⟨rfl, hf3, hfr3⟩
      have HF3 := Lib.hid hf3
      have HLS3 := Lib.hid (HLS2.out.keep hfr3 (Blk.ty HF2.out (by decide)))
      have HB3 := Lib.hid (HB2.out.trans (hfr3.below (B := B + 1) (by have := Blk.lt HF2.out; omega) (fun k hk => by rw [hk]; exact Nat.le_refl _)))
      clear hf3 hfr3
      go_wp2_with (fail)
      go_roundg m
      case measure => omega
      case rel => exact l6_after HB3.out HIB.out (by rw [HSW.out]; exact rest_holds hA HF3.out HLS3.out (by omega) HR.out (.inl ⟨rfl, (then_rest s _).symm⟩)) HLN.out HQ.out
     ·have n1 : ((s[A].toNat : Int) == 10) = false := by simpa using h10
      by_cases h35 : (s[A].toNat : Int) = 35
      ·have n2 : ((s[A].toNat : Int) == 35) = true := by simpa using h35
       have HSW : Hid (switchR s ⟨A, st.l, st.hv⟩ = .ok ⟨A, st.l, st.hv⟩) := Lib.hid (by
        unfold switchR
        simp only
        rw [HBY.out, h35, if_neg (by decide), if_neg (by decide)])
       clear h10 h35
       go_wp2_with (fail)
       refine (rest6_calls _ (B + 1) s _ _ lv has A HF2.out hA hs').mono ?_
       rintro en w3 ⟨rfl, hf3, hfr3⟩
       have HF3 := Lib.hid hf3
       have HLS3 := Lib.hid (HLS2.out.keep hfr3 (Blk.ty HF2.out (by decide)))
       have HB3 := Lib.hid (HB2.out.trans (hfr3.below (B := B + 1) (by have := Blk.lt HF2.out; omega) (fun k hk => by rw [hk]; exact Nat.le_refl _)))
       clear hf3 hfr3
       go_wp2_with (fail)
       go_roundg m
       case measure => omega
       case rel => exact l6_after HB3.out HIB.out (by rw [HSW.out]; exact rest_holds hA HF3.out HLS3.out (by omega) HR.out (.inl ⟨rfl, (then_rest s _).symm⟩)) HLN.out HQ.out
      ·have n2 : ((s[A].toNat : Int) == 35) = false := by simpa using h35
       by_cases h91 : (s[A].toNat : Int) = 91
       ·have n3 : ((s[A].toNat : Int) == 91) = true := by simpa using h91
        have HSW : Hid (switchR s ⟨A, st.l, st.hv⟩ = beginR s ⟨A, st.l, st.hv⟩) := Lib.hid (by
         unfold switchR
         simp only
         rw [HBY.out, if_pos h91])
        clear h10 h35 h91
        go_wp2_with (fail)
        refine (begin6_calls _ (B + 1) (B + 1) s A a lv has st.l st.hv HF2.out HLS2.out (Nat.le_refl _) hA hs' hl40).mono ?_
        rintro en w3 ⟨rfl, hh3, hb3⟩
        have HH3 := Lib.hid hh3
        have HB3 := Lib.hid (HB2.out.trans hb3)
        clear hh3 hb3
        go_wp2_with (fail)
        go_roundg m
        case measure => omega
        case rel => exact l6_after HB3.out HIB.out (by rw [HSW.out, ← then_rest]; exact HH3.out) HLN.out HQ.out
       ·have n3 : ((s[A].toNat : Int) == 91) = false := by simpa using h91
        have HSW : Hid (thenRest s (fieldR s ⟨A, st.l, st.hv⟩) = restOf s (switchR s ⟨A, st.l, st.hv⟩)) := Lib.hid (by
         unfold switchR
         simp only
         rw [HBY.out, if_neg h91]
         by_cases hlo : 97 ≤ (s[A].toNat : Int) ∧ (s[A].toNat : Int) ≤ 122
         ·rw [if_pos hlo, then_rest]
         ·rw [if_neg hlo]
          exact field_odd s A st.l st.hv hAlt (by rw [HBY.out]; exact h10) (by rw [HBY.out]; exact h35) HAI.out (by rw [HBY.out]; exact hlo))
        clear h10 h35 h91
        go_wp2_with (fail)
        refine (field6_calls _ (B + 1) (B + 1) s A a lv has st.l st.hv HF2.out HLS2.out HR.out (Nat.le_refl _) hA (by omega) (by omega)).mono ?_
        rintro en w3 ⟨rfl, hh3, hb3⟩
        have HH3 := Lib.hid hh3
        have HB3 := Lib.hid (HB2.out.trans hb3)
        clear hh3 hb3
        go_wp2_with (fail)
        go_roundg m
        case measure => omega
        case rel => exact l6_after HB3.out HIB.out (by rw [← HSW.out]; exact HH3.out) HLN.out HQ.out
   ·obtain ⟨P, a, lv, has, hf, hls, hP, hr⟩ := hg
    have h1 := hf.cell 1
    have h2 := hf.cell 2
    have d1 : decide ((P : Int) < (s.size : Int)) = false := decide_eq_false (by have := hi.a; omega)
    have d1n : decide (P < s.size) = false := decide_eq_false (by have := hi.a; omega)
    have HX : Hid (Below (B + 1) w0 wr ∧ Holds6 wr (B + 1) (B + 1) s R0 ∧ ResOk s 0 R0) := Lib.hid ⟨hb, by rw [hln]; exact ⟨P, a, lv, has, hf, hls, hP, hr⟩, by rw [hln]; exact ⟨hi, Nat.zero_le _⟩⟩
    clear hf hls hln hr hb hP
    go_wp2_with (fail)
    go_meet
    exact HX.out
   ·have HX : Hid (Below (B + 1) w0 wr ∧ Holds6 wr (B + 1) (B + 1) s R0 ∧ ResOk s 0 R0) := Lib.hid ⟨hb, by rw [hln]; exact hg, by rw [hln]; exact hw⟩
    obtain ⟨hne, P, lv, has, l, hf, hP, hls, hz⟩ := hg
    have h1 := hf.cell 1
    have h2 := hf.cell 2
    have n2 : (e == 0) = false := by simpa using hne
    clear hf hls hln hb hne
    by_cases hlt : P < s.size
    ·have d1 : decide ((P : Int) < (s.size : Int)) = true := decide_eq_true (by omega)
     have d1n : decide (P < s.size) = true := decide_eq_true (by omega)
     go_wp2_with (fail)
     go_meet
     exact HX.out
    ·have d1 : decide ((P : Int) < (s.size : Int)) = false := decide_eq_false (by omega)
     have d1n : decide (P < s.size) = false := decide_eq_false (by omega)
     go_wp2_with (fail)
     go_meet
     exact HX.out
 case rest =>
  obtain ⟨hb, hh, hro⟩ := hcut
  have HBX := Lib.hid (HB0.out.trans (below_succ hb))
  have HPX := Lib.hid (Blk.under HP0.out hb)
  cases R0 with
  | ok st =>
   obtain ⟨P, a, lv, has, hf, hls, hP, hr⟩ := hh
   have h4 := hf.cell 4
   have HF := Lib.hid hf
   have HLS := Lib.hid hls
   have hl40 := hro.1.l
   have HLO := Lib.hid (locksR_ok hs HR0.out)
   clear hf hls hP hr hb hro
   go_wp2_with (fail)
   refine (check6_calls _ (B + 1) lv st.l HLS.out (by omega)).mono ?_
   rintro en w1 ⟨rfl, hb1⟩
   have HF1 := Lib.hid (HF.out.below hb1)
   have HLS1 : Hid (Ls w1 (B + 1) lv st.l) := Lib.hid (pw_own_below HLS.out hb1)
   have HPX1 := Lib.hid (HPX.out.below hb1)
   have HBX1 := Lib.hid (below_then HBX.out (Nat.le_trans (Nat.le_of_eq HB.out.symm) HBX.out.size) hb1)
   clear hb1 h4
   by_cases hE : endedE st.l = 0
   ·have HLO2 := Lib.hid (HLO.out.trans (if_pos hE))
    have h2 := HF1.out.cell 2
    have h4 := HF1.out.cell 4
    rw [hE]
    have HE := Lib.hid hE
    have p0 := HPX1.out.cell 0
    have p1 := HPX1.out.cell 1
    have f0 := HPX1.out.unfrozen 0
    have f1 := HPX1.out.unfrozen 1
    clear hE
    go_wp2_with (fail)
    (try simp only [Exit.jump])
    refine bodyPost_ret (results_tct rfl _ _ B 35 #[.int .i64 0, .int .i64 0] (0, 0) _ rfl ((HPX1.out.put 0 (.int .i64 0)).put 1 (.int .i64 0)) Tryd.underlying35 rfl (by kernel_rfl)) rfl ?_
    have hfr := ((Fr.refl (fun k => k = B) w1).put (p := ⟨B, 0, none⟩) (.inl rfl) (.int .i64 0) |>.put (p := ⟨B, 1, none⟩) (.inl rfl) (.int .i64 0))
    refine ⟨lv, ?_, ?_, ?_⟩
    ·unfold locksV
     rw [HLO2.out]
     rfl
    ·rw [HLO2.out]
     exact Ls.keep (own_weaken HLS1.out (by have := HB.out; omega)) hfr (Blk.ty HPX1.out (by decide))
    ·rw [HB.out]
     exact HBX1.out.trans (hfr.below (by have := HBX1.out.size; have := HB.out; omega) (fun k hk => by rw [hk]; exact Nat.le_refl _))
   ·have HLO2 := Lib.hid (HLO.out.trans (if_neg hE))
    generalize endedE st.l = E at *
    have n1 : (E != 0) = true := by simpa using hE
    have HE := Lib.hid hE
    clear hE
    go_wp2_with (fail)
    refine (fail_calls _ (B + 1) s _ _ _ has P HF1.out E (s.size : Int)).mono ?_
    rintro en w2 ⟨rfl, hf2, hfr2⟩
    have e1 : fE 0 E = E := rfl
    have e2 : fA 0 a (s.size : Int) = (s.size : Int) := rfl
    rw [e1, e2] at hf2
    have h2 := hf2.cell 2
    have h3 := hf2.cell 3
    have HF2 := Lib.hid hf2
    have HB2 := Lib.hid (below_succ (hfr2.below (B := B + 1) (by have := Blk.lt HF1.out; omega) (fun k hk => by rw [hk]; exact Nat.le_refl _)))
    have HPX2 := Lib.hid (Blk.fr HPX1.out hfr2 (by omega))
    have HBX2 := Lib.hid (HBX1.out.trans HB2.out)
    clear hf2 hfr2 e1 e2
    go_wp2_with (fail)
    go_region_with (go_at_call 15; refine (place6_calls s s.size (Nat.le_refl _) hs _).mono ?_; rintro e wp ⟨rfl, hbp⟩; obtain ⟨k5p, kp0, kp1, fp0, fp1, HKP, HBP⟩ := place_facts6 (w0 := w2) hbp rfl rfl rfl rfl HF2.out HPX2.out)
    all_goals (go_wp2_with (fail))
    all_goals (try simp only [Exit.jump])
    all_goals refine bodyPost_ret (results_tct rfl _ _ B 35 #[.int .i64 (place (List.take s.size s.data.toList)).1, .int .i64 (place (List.take s.size s.data.toList)).2] (0, 0) _ rfl ((HKP.out.put 0 (.int .i64 (place (List.take s.size s.data.toList)).1)).put 1 (.int .i64 (place (List.take s.size s.data.toList)).2)) Tryd.underlying35 rfl (by kernel_rfl)) rfl ?_
    all_goals exact locks_bad HLO2.out HE.out HB.out HBX2.out HBP.out _ _
  | bad wh e =>
   obtain ⟨hne, P, lv, has, l, hf, hP, hls, hz⟩ := hh
   have h4 := hf.cell 4
   have HF := Lib.hid hf
   have HLO := Lib.hid (locksR_bad hs HR0.out)
   have HNE := Lib.hid hne
   have HW := Lib.hid hro
   have hc := check6_calls wc (B + 1) lv l hls (by omega)
   have HC := Lib.hid hc
   have n2 : (e != 0) = true := by simpa using hne
   clear hf hls hP hb hne hro hc
   go_wp2_with (fail)
   refine HC.out.mono ?_
   rintro en w1 ⟨rfl, hb1⟩
   have HF1 := Lib.hid (HF.out.below hb1)
   have HPX1 := Lib.hid (HPX.out.below hb1)
   have HBX1 := Lib.hid (below_then HBX.out (Nat.le_trans (Nat.le_of_eq HB.out.symm) HBX.out.size) hb1)
   clear hb1 h4
   clear HC
   generalize endedE l = E at *
   by_cases hE : E = 0
   ·have n1 : (E != 0) = false := by simpa using hE
    clear hE
    have h2 := HF1.out.cell 2
    have h3 := HF1.out.cell 3
    go_wp2_with (fail)
    go_region_with (go_at_call 15; refine (place6_calls s wh HW.out hs _).mono ?_; rintro e wp ⟨rfl, hbp⟩; obtain ⟨k5p, kp0, kp1, fp0, fp1, HKP, HBP⟩ := place_facts6 (w0 := w1) hbp rfl rfl rfl rfl HF1.out HPX1.out)
    all_goals (go_wp2_with (fail))
    all_goals (try simp only [Exit.jump])
    all_goals refine bodyPost_ret (results_tct rfl _ _ B 35 #[.int .i64 (place (List.take wh s.data.toList)).1, .int .i64 (place (List.take wh s.data.toList)).2] (0, 0) _ rfl ((HKP.out.put 0 (.int .i64 (place (List.take wh s.data.toList)).1)).put 1 (.int .i64 (place (List.take wh s.data.toList)).2)) Tryd.underlying35 rfl (by kernel_rfl)) rfl ?_
    all_goals exact locks_bad HLO.out HNE.out HB.out HBX1.out HBP.out _ _
   ·have n1 : (E != 0) = true := by simpa using hE
    clear hE
    go_wp2_with (fail)
    refine (fail_calls _ (B + 1) s _ _ _ has P HF1.out E (s.size : Int)).mono ?_
    rintro en w2 ⟨rfl, hf2, hfr2⟩
    have e1 : fE e E = e := if_neg HNE.out
    have e2 : fA e (wh : Int) (s.size : Int) = (wh : Int) := if_neg HNE.out
    rw [e1, e2] at hf2
    have HF2 := Lib.hid hf2
    have HB2 := Lib.hid (below_succ (hfr2.below (B := B + 1) (by have := Blk.lt HF1.out; omega) (fun k hk => by rw [hk]; exact Nat.le_refl _)))
    have HPX2 := Lib.hid (Blk.fr HPX1.out hfr2 (by omega))
    have HBX2 := Lib.hid (HBX1.out.trans HB2.out)
    clear hf2 hfr2 e1 e2
    have h2 := HF2.out.cell 2
    have h3 := HF2.out.cell 3
    go_wp2_with (fail)
    go_region_with (go_at_call 15; refine (place6_calls s wh HW.out hs _).mono ?_; rintro e wp ⟨rfl, hbp⟩; obtain ⟨k5p, kp0, kp1, fp0, fp1, HKP, HBP⟩ := place_facts6 (w0 := w2) hbp rfl rfl rfl rfl HF2.out HPX2.out)
    all_goals (go_wp2_with (fail))
    all_goals (try simp only [Exit.jump])
    all_goals refine bodyPost_ret (results_tct rfl _ _ B 35 #[.int .i64 (place (List.take wh s.data.toList)).1, .int .i64 (place (List.take wh s.data.toList)).2] (0, 0) _ rfl ((HKP.out.put 0 (.int .i64 (place (List.take wh s.data.toList)).1)).put 1 (.int .i64 (place (List.take wh s.data.toList)).2)) Tryd.underlying35 rfl (by kernel_rfl)) rfl ?_
    all_goals exact locks_bad HLO.out HNE.out HB.out HBX2.out HBP.out _ _
end
end Go.Proofs.YtljfcdfdedkajaaDoor.Q
