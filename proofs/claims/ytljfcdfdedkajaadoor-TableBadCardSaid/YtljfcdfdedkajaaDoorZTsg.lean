import Derived.Test.YtljfcdfdedkajaaDoorZTe
import Derived.Test.YtljfcdfdedkajaaDoorZQ7
import Derived.Test.YtljfcdfdedkajaaDoorZQ8
import Derived.Test.YtljfcdfdedkajaaDoorZQ3
import Derived.Test.YtljfcdfdedkajaaDoorZQ4
import Derived.Test.YtljfcdfdedkajaaDoorZQ6
import Derived.IntWalk
set_option linter.unusedVariables false
set_option linter.unusedSimpArgs false
section
namespace Go.Proofs.YtljfcdfdedkajaaDoor.Q
open Go.RowKit Go.Proofs.YtljfcdfdedkajaaDoorW.PrintWords
def F6 (w : World) (p : Nat) (s : ByteArray) (P e a : Int) (lv : Value) (has : Nat → Bool) : Prop :=
  Blk w p 65 #[.string s, .int .i64 P, .int .i64 e, .int .i64 a, lv, .bool (has 0), .bool (has 1), .bool (has 2), .bool (has 3), .bool (has 4)]
def fE (e x : Int) : Int := if e = 0 then x else e
def fA (e a y : Int) : Int := if e = 0 then y else a
section
variable (w : World) (p : Nat) (s : ByteArray) (e a : Int) (lv : Value) (has : Nat → Bool)
set_option maxHeartbeats 400000 in
theorem fail_calls (P : Int) (h : F6 w p s P e a lv has) (x y : Int) :
    Calls Tryd.prog 33 #[.pointer (some ⟨p, 0, none⟩), .int .i64 x, .int .i64 y] w fun e' w' => e' = .returned (.tuple #[]) ∧ F6 w' p s P (fE e x) (fA e a y) lv has ∧ Fr (· = p) w w' := by
  by_cases he : e = 0
  · subst he
    have h2 := h.cell 2
    have h3 := h.cell 3
    have f2 := h.unfrozen 2
    have f3 := h.unfrozen 3
    have H := Lib.hid h
    clear h
    go_enter Tryd.func33, Tryd.ntmps33
    go_wp2
    go_end0
    exact ⟨rfl, (H.out.put 2 _).put 3 _, ((Fr.refl (· = p) w).put (.inl rfl) _).put (.inl rfl) _⟩
  · have h2 := h.cell 2
    have hb : (e == 0) = false := by simpa using he
    have H := Lib.hid h
    have HE := Lib.hid he
    clear h he
    go_enter Tryd.func33, Tryd.ntmps33
    go_wp2
    go_end0
    refine ⟨rfl, ?_, Fr.refl _ _⟩
    unfold fE fA
    rw [if_neg HE.out, if_neg HE.out]
    exact H.out
theorem blank_or (b : UInt8) (h : blank b = true) : b = 32 ∨ b = 9 := by
  simpa [blank, inSet] using h
theorem blank_not (b : UInt8) (h : blank b = false) : ((b.toNat : Int) == 32) = false ∧ ((b.toNat : Int) == 9) = false := by
  have : b ≠ 32 ∧ b ≠ 9 := by simpa [blank, inSet] using h
  have h1 : b.toNat ≠ 32 := fun e => this.1 (UInt8.toNat_inj.mp e)
  have h2 : b.toNat ≠ 9 := fun e => this.2 (UInt8.toNat_inj.mp e)
  exact ⟨by simp only [beq_eq_false_iff_ne, ne_eq]; omega, by simp only [beq_eq_false_iff_ne, ne_eq]; omega⟩
set_option maxHeartbeats 1000000 in
set_option maxRecDepth 100000 in
theorem blanks6_calls (P : Nat) (h : F6 w p s P e a lv has) (hP : P ≤ s.size) (hs : s.size ≤ 140737488351232) :
    Calls Tryd.prog 28 #[.pointer (some ⟨p, 0, none⟩)] w fun e' w' => e' = .returned (.tuple #[]) ∧ F6 w' p s (spanEnd blank s P : Nat) e a lv has ∧ Fr (· = p) w w' := by
  have H := Lib.hid h
  clear h
  go_enter Tryd.func28, Tryd.ntmps28
  go_wp2_with (fail)
  go_loopg [] (s.size - P) (fun q wr => ∃ j : Nat, q = s.size - j ∧ j ≤ s.size ∧ spanEnd blank s j = spanEnd blank s P ∧ F6 wr p s j e a lv has ∧ Fr (· = p) w wr)
  case atStart => exact ⟨P, rfl, hP, rfl, H.out, Fr.refl _ _⟩
  case round =>
    obtain ⟨j, rfl, hj, he, h, hf⟩ := hrel
    have h0 := h.cell 0
    have h1 := h.cell 1
    have f1 := h.unfrozen 1
    have HJ := Lib.hid h
    have HE := Lib.hid he
    have HF := Lib.hid hf
    clear h he hf
    by_cases hlt : j < s.size
    · have d1 : decide ((j : Int) < (s.size : Int)) = true := decide_eq_true (by omega)
      have i1 : (0 : Int) ≤ (j : Int) ∧ (j : Int) < (s.size : Int) := ⟨by omega, by omega⟩
      cases hb : blank s[j] with
      | true =>
        have hE2 := spanEnd_yes blank s j hlt hb
        have HE2 := Lib.hid (hE2.symm.trans HE.out)
        have fin : ∀ n, F6 (((wr.drewN n)).setCell ⟨p, 1, none⟩ (.int .i64 ((j + 1 : Nat) : Int))) p s ((j + 1 : Nat) : Int) e a lv has ∧ Fr (· = p) w ((wr.drewN n).setCell ⟨p, 1, none⟩ (.int .i64 ((j + 1 : Nat) : Int))) := fun n => ⟨(HJ.out.drewN n).put 1 _, (HF.out.drewN n).put (.inl rfl) _⟩
        have FIN := Lib.hid fin
        clear hE2 fin
        have h32 := blank_or s[j] hb
        clear hb
        by_cases hc : s[j] = 32
        · have n1 : ((s[j].toNat : Int) == 32) = true := by rw [hc]; rfl
          have HC := Lib.hid hc
          clear hc h32
          go_wp2_with (fail)
          go_quiet (fail)
          go_wp2_with (fail)
          go_roundg (s.size - (j + 1))
          case measure => omega
          case rel => exact ⟨j + 1, rfl, by omega, HE2.out, (FIN.out _).1, (FIN.out _).2⟩
        · have h9 : s[j] = 9 := h32.resolve_left hc
          have n1 : ((s[j].toNat : Int) == 32) = false := by rw [h9]; rfl
          have n2 : ((s[j].toNat : Int) == 9) = true := by rw [h9]; rfl
          clear hc h32 h9
          go_wp2_with (fail)
          go_quiet (fail)
          go_wp2_with (fail)
          go_roundg (s.size - (j + 1))
          case measure => omega
          case rel => exact ⟨j + 1, rfl, by omega, HE2.out, (FIN.out _).1, (FIN.out _).2⟩
      | false =>
        have hE2 := spanEnd_no blank s j hlt hb
        have HE2 := Lib.hid (hE2.symm.trans HE.out)
        obtain ⟨n1, n2⟩ := blank_not s[j] hb
        clear hE2 hb
        go_wp2_with (fail)
        go_quiet (fail)
        go_wp2_with (fail)
        go_end0
        rw [← HE2.out]
        exact ⟨rfl, HJ.out.drewN _, HF.out.drewN _⟩
    · have d1 : decide ((j : Int) < (s.size : Int)) = false := decide_eq_false (by omega)
      have HE2 := Lib.hid ((spanEnd_end blank s j (by omega)).symm.trans HE.out)
      go_wp2_with (fail)
      go_quiet (fail)
      go_wp2_with (fail)
      go_end0
      rw [← HE2.out]
      exact ⟨rfl, HJ.out.drewN _, HF.out.drewN _⟩
end
end Go.Proofs.YtljfcdfdedkajaaDoor.Q
end
section
namespace Go.Proofs.YtljfcdfdedkajaaDoor.Q
open Go.RowKit Go.Proofs.YtljfcdfdedkajaaDoorW.PrintWords
def not10 (b : UInt8) : Bool := b != 10
def rest6 (s : ByteArray) (P : Nat) : Option Nat × Nat :=
  if byteAt s (spanEnd blank s P) = 35 then
    (if spanEnd noteB s (spanEnd blank s P) < spanEnd not10 s (spanEnd blank s P) then some (spanEnd noteB s (spanEnd blank s P)) else none, spanEnd not10 s (spanEnd blank s P) + 1)
  else (if spanEnd blank s P < s.size ∧ byteAt s (spanEnd blank s P) ≠ 10 then some (spanEnd blank s P) else none, spanEnd blank s P + 1)
def eAfter (e : Int) (o : Option Nat) : Int := match o with | none => e | some _ => fE e 1
def aAfter (e a : Int) (o : Option Nat) : Int := match o with | none => a | some k => fA e a k
theorem fE_ne (e : Int) : fE e 1 ≠ 0 := by
  unfold fE
  split
  · decide
  · assumption
theorem fE_fE (e x : Int) : fE (fE e 1) x = fE e 1 := by
  have := fE_ne e
  rw [fE, if_neg this]
theorem fA_fE (e a y : Int) : fA (fE e 1) a y = a := by
  have := fE_ne e
  rw [fA, if_neg this]
theorem plain_ones : ∀ n : Nat, n < 256 → transhumanceref1_Plain.f 5 (bs [UInt8.ofNat n]) = some (plainB (UInt8.ofNat n)) := by decide +kernel
theorem extract_byte (s : ByteArray) (i : Nat) (h : i < s.size) : s.extract i (i + 1) = bs [s[i]] := by
  apply ext_bs
  rw [data_bs, ByteArray.data_extract]
  simp only [Array.toList_extract, List.extract_eq_take_drop]
  rw [drop_at s i h]
  simp
theorem plain6_calls (s : ByteArray) (i : Nat) (h : i < s.size) (w : World) :
    Calls Tryd.prog 16 #[.string (s.extract i (i + 1))] w fun e w' => e = .returned (.bool (plainB s[i])) ∧ Drawn0 w w' := by
  rw [extract_byte s i h]
  have := plain_ones s[i].toNat s[i].toNat_lt
  simp only [UInt8.ofNat_toNat] at this
  exact transhumanceref1_Plain.calls 5 _ _ w this
theorem not10_bool (b : UInt8) (h : not10 b = true) : ((b.toNat : Int) != 10) = true := by
  have : b ≠ 10 := by simpa [not10] using h
  have h1 : b.toNat ≠ 10 := fun e => this (UInt8.toNat_inj.mp e)
  simp only [bne_iff_ne, ne_eq]
  omega
theorem not10_bool' (b : UInt8) (h : not10 b = false) : ((b.toNat : Int) != 10) = false := by
  have : b = 10 := by simpa [not10] using h
  rw [this]
  rfl
section
variable (w : World) (p : Nat) (s : ByteArray) (e a : Int) (lv : Value) (has : Nat → Bool)
def R6Post (w : World) (p : Nat) (s : ByteArray) (e a : Int) (lv : Value) (has : Nat → Bool) (r : Option Nat × Nat) (en : Ending) (w' : World) : Prop :=
  en = .returned (.tuple #[]) ∧ F6 w' p s (r.2 : Nat) (eAfter e r.1) (aAfter e a r.1) lv has ∧ Fr (· = p) w w'
set_option maxHeartbeats 2000000 in
set_option maxRecDepth 100000 in
theorem rest6_calls (P : Nat) (h : F6 w p s P e a lv has) (hP : P ≤ s.size) (hs : s.size ≤ 140737488351232) :
    Calls Tryd.prog 29 #[.pointer (some ⟨p, 0, none⟩)] w (R6Post w p s e a lv has (rest6 s P)) := by
  have H := Lib.hid h
  have HR := Lib.hid (show rest6 s P = if byteAt s (spanEnd blank s P) = 35 then
    (if spanEnd noteB s (spanEnd blank s P) < spanEnd not10 s (spanEnd blank s P) then some (spanEnd noteB s (spanEnd blank s P)) else none, spanEnd not10 s (spanEnd blank s P) + 1)
  else (if spanEnd blank s P < s.size ∧ byteAt s (spanEnd blank s P) ≠ 10 then some (spanEnd blank s P) else none, spanEnd blank s P + 1) from rfl)
  generalize rest6 s P = R at *
  clear h
  go_enter Tryd.func29, Tryd.ntmps29
  go_wp2_with (fail)
  refine (blanks6_calls w p s e a lv has P H.out hP hs).mono ?_
  rintro en w1 ⟨rfl, h1, hf1⟩
  have hA := spanEnd_le blank s P hP
  generalize spanEnd blank s P = A at *
  have a0 := h1.cell 0
  have a1 := h1.cell 1
  have u1 := h1.unfrozen 1
  have H1 := Lib.hid h1
  have HF1 := Lib.hid hf1
  clear H h1 hf1
  by_cases hlt : A < s.size
  · have d1 : decide ((A : Int) < (s.size : Int)) = true := decide_eq_true (by omega)
    have i1 : (0 : Int) ≤ (A : Int) ∧ (A : Int) < (s.size : Int) := ⟨by omega, by omega⟩
    by_cases h35 : s[A] = 35
    · have n1 : ((s[A].toNat : Int) == 35) = true := by rw [h35]; rfl
      have hr2 := HR.out
      rw [if_pos (by rw [byteAt_lt s hlt, h35]; rfl)] at hr2
      have HR2 := Lib.hid hr2
      clear HR hr2
      have HQ0 := Lib.hid (spanEnd_le not10 s A (by omega))
      have HQA := Lib.hid (spanEnd_ge not10 s A)
      have HKA := Lib.hid (spanEnd_ge noteB s A)
      have HKS := Lib.hid (spanEnd_stop noteB s A (by omega))
      have HKL := Lib.hid (spanEnd_le noteB s A (by omega))
      clear h35
      go_wp2_with (fail)
      go_quiet (fail)
      go_wp2_with (fail)
      go_loopg [] (s.size - A) (fun q wr => ∃ j : Nat, q = s.size - j ∧ A ≤ j ∧ j ≤ s.size ∧ spanEnd not10 s j = spanEnd not10 s A ∧ (j ≤ spanEnd noteB s A → spanEnd noteB s j = spanEnd noteB s A)
        ∧ F6 wr p s j (if spanEnd noteB s A < j then fE e 1 else e) (if spanEnd noteB s A < j then fA e a (spanEnd noteB s A : Nat) else a) lv has ∧ Fr (· = p) w wr)
      case atStart => exact ⟨A, rfl, Nat.le_refl _, by omega, rfl, fun _ => rfl, by rw [if_neg (by have := HKA.out; omega), if_neg (by have := HKA.out; omega)]; exact H1.out.drewN _, HF1.out.drewN _⟩
      case round =>
        obtain ⟨j, rfl, hAj, hj, hq, hk, hf6, hfr⟩ := hrel
        have h0 := hf6.cell 0
        have h1 := hf6.cell 1
        have h2 := hf6.unfrozen 1
        have HF6 := Lib.hid hf6
        have HFR := Lib.hid hfr
        have HQ := Lib.hid hq
        have HK := Lib.hid hk
        clear hf6 hfr hq hk a0 a1 u1
        have finish : ∀ w', j = spanEnd not10 s A → F6 w' p s ((j + 1 : Nat) : Int) (if spanEnd noteB s A < j then fE e 1 else e) (if spanEnd noteB s A < j then fA e a (spanEnd noteB s A : Nat) else a) lv has → Fr (· = p) w w' → R6Post w p s e a lv has R (.returned (.tuple #[])) w' := by
          intro w' hjq hF hFr
          refine ⟨rfl, ?_, hFr⟩
          rw [HR2.out, ← hjq]
          by_cases hkj : spanEnd noteB s A < j
          · rw [if_pos hkj, if_pos hkj] at hF
            rw [if_pos hkj]
            exact hF
          · rw [if_neg hkj, if_neg hkj] at hF
            rw [if_neg hkj]
            exact hF
        have FIN := Lib.hid finish
        clear finish
        by_cases hjs : j < s.size
        · have d2 : decide ((j : Int) < (s.size : Int)) = true := decide_eq_true (by omega)
          have i2 : (0 : Int) ≤ (j : Int) ∧ (j : Int) < (s.size : Int) := ⟨by omega, by omega⟩
          have i3 : (0 : Int) ≤ (j : Int) ∧ (j : Int) ≤ (j : Int) + 1 ∧ (j : Int) + 1 ≤ (s.size : Int) := ⟨by omega, by omega, by omega⟩
          cases hb : not10 s[j] with
          | true =>
            have n2 := not10_bool s[j] hb
            have HQ2 := Lib.hid ((spanEnd_yes not10 s j hjs hb).symm.trans HQ.out)
            have hnote : noteB s[j] = plainB s[j] := by
              have : (s[j] != 10) = true := hb
              simp [noteB, this]
            have HKY := Lib.hid (fun h => spanEnd_yes noteB s j hjs h)
            have HKN := Lib.hid (fun h => spanEnd_no noteB s j hjs h)
            have HNK := Lib.hid (show ∀ hq : spanEnd noteB s A = j, noteB s[j] = false from fun hq => by
              have := HKS.out (by omega)
              simpa only [hq] using this)
            have HNT := Lib.hid hnote
            clear hb hnote
            go_wp2_with (fail)
            go_quiet (fail)
            go_wp2_with (fail)
            have hf6' := HF6.out.drewN nq
            have hfr' := HFR.out.drewN nq
            clear h0 h1 h2 HF6 HFR
            generalize wr.drewN nq = W0 at *
            have h0 := hf6'.cell 0
            have h1 := hf6'.cell 1
            have h2 := hf6'.unfrozen 1
            have HF6 := Lib.hid hf6'
            have HFR := Lib.hid hfr'
            clear hf6' hfr'
            have ws : IntKind.i64.wrap ((j : Int) + 1) = (j : Int) + 1 := IntWalk.i64_in _ (by omega)
            have wt : ((j : Int) + 1).toNat = j + 1 := by omega
            have w0 : (0 : Int) ≤ (j : Int) + 1 := by omega
            cases hp : plainB s[j] with
            | true =>
              have HP := Lib.hid hp
              have HC := Lib.hid (fun w => (show Calls Tryd.prog 16 #[.string (s.extract j (j + 1))] w fun e w' => e = .returned (.bool true) ∧ Drawn0 w w' from by rw [← hp]; exact plain6_calls s j hjs w))
              clear hp
              go_quiet ((go_at_call 16; exact quiet_drawn (HC.out _)))
              clear ws wt w0
              go_wp2_with (fail)
              go_roundg (s.size - (j + 1))
              case measure => omega
              case rel =>
                have hnoteT : noteB s[j] = true := HNT.out.trans HP.out
                have hjk : spanEnd noteB s A ≠ j := fun hq => by rw [HNK.out hq] at hnoteT; cases hnoteT
                have hc : (spanEnd noteB s A < j + 1) ↔ (spanEnd noteB s A < j) := by omega
                refine ⟨j + 1, rfl, by omega, by omega, HQ2.out, fun hle => ?_, ?_, (HFR.out.drewN _).put (.inl rfl) _⟩
                · rw [← HKY.out hnoteT]
                  exact HK.out (by omega)
                · have hF := (HF6.out.drewN nq).put 1 (.int .i64 ((j + 1 : Nat) : Int))
                  simp only [hc]
                  exact hF
            | false =>
              have HP := Lib.hid hp
              have HC := Lib.hid (fun w => (show Calls Tryd.prog 16 #[.string (s.extract j (j + 1))] w fun e w' => e = .returned (.bool false) ∧ Drawn0 w w' from by rw [← hp]; exact plain6_calls s j hjs w))
              clear hp
              go_quiet ((go_at_call 16; exact quiet_drawn (HC.out _)))
              clear ws wt w0
              go_wp2_with (fail)
              refine (fail_calls _ p s _ _ lv has j (HF6.out.drewN _) 1 j).mono ?_
              rintro en w3 ⟨rfl, hf3, hfr3⟩
              have h1' := hf3.cell 1
              have h2' := hf3.unfrozen 1
              have HF3 := Lib.hid hf3
              have HFR3 := Lib.hid ((HFR.out.drewN _).same hfr3)
              clear hf3 hfr3
              go_wp2_with (fail)
              go_roundg (s.size - (j + 1))
              case measure => omega
              case rel =>
                have hnoteF : noteB s[j] = false := HNT.out.trans HP.out
                have hjk : spanEnd noteB s A ≤ j := by
                  rcases Nat.lt_or_ge j (spanEnd noteB s A) with hl | hl
                  · have h1 := HK.out (by omega)
                    rw [HKN.out hnoteF] at h1
                    omega
                  · exact hl
                refine ⟨j + 1, rfl, by omega, by omega, HQ2.out, fun hle => by omega, ?_, HFR3.out.put (.inl rfl) _⟩
                have hF := HF3.out.put 1 (.int .i64 ((j + 1 : Nat) : Int))
                rw [if_pos (by omega), if_pos (by omega)]
                by_cases hkj : spanEnd noteB s A < j
                · rw [if_pos hkj, if_pos hkj, fE_fE, fA_fE] at hF
                  exact hF
                · rw [if_neg hkj, if_neg hkj] at hF
                  have : spanEnd noteB s A = j := by omega
                  rw [this]
                  exact hF
          | false =>
            have n2 := not10_bool' s[j] hb
            have HJQ := Lib.hid ((spanEnd_no not10 s j hjs hb).symm.trans HQ.out)
            clear hb
            go_wp2_with (fail)
            go_quiet (fail)
            go_wp2_with (fail)
            go_quiet (fail)
            go_wp2_with (fail)
            go_end0
            exact FIN.out _ HJQ.out ((HF6.out.drewN _).put 1 _) ((HFR.out.drewN _).put (.inl rfl) _)
        · have d2 : decide ((j : Int) < (s.size : Int)) = false := decide_eq_false (by omega)
          have HJQ := Lib.hid ((spanEnd_end not10 s j (by omega)).symm.trans HQ.out)
          go_wp2_with (fail)
          go_quiet (fail)
          go_wp2_with (fail)
          go_quiet (fail)
          go_wp2_with (fail)
          go_end0
          exact FIN.out _ HJQ.out ((HF6.out.drewN _).put 1 _) ((HFR.out.drewN _).put (.inl rfl) _)
    · have hb35 : ¬ byteAt s A = 35 := by
        rw [byteAt_lt s hlt]
        intro h
        exact h35 (UInt8.toNat_inj.mp (by show s[A].toNat = 35; omega))
      have n1 : ((s[A].toNat : Int) == 35) = false := by
        have : s[A].toNat ≠ 35 := fun e => h35 (UInt8.toNat_inj.mp e)
        simp only [beq_eq_false_iff_ne, ne_eq]
        omega
      have HR2 := Lib.hid (HR.out.trans (if_neg hb35))
      clear HR hb35 h35
      cases hb : not10 s[A] with
      | true =>
        have n2 := not10_bool s[A] hb
        have hb10 : byteAt s A ≠ 10 := by
          rw [byteAt_lt s hlt]
          simp only [bne_iff_ne, ne_eq] at n2
          exact n2
        have HR3 := Lib.hid (HR2.out.trans (show _ = ((some A, A + 1) : Option Nat × Nat) from by rw [if_pos ⟨hlt, hb10⟩]))
        clear hb hb10
        go_wp2_with (fail)
        go_quiet (fail)
        go_wp2_with (fail)
        go_quiet (fail)
        go_wp2_with (fail)
        refine (fail_calls _ p s _ _ lv has A (H1.out.drewN _) 1 A).mono ?_
        rintro en w3 ⟨rfl, hf3, hfr3⟩
        have h1' := hf3.cell 1
        have h2' := hf3.unfrozen 1
        have HF3 := Lib.hid hf3
        have HFR3 := Lib.hid ((HF1.out.drewN _).same hfr3)
        clear hf3 hfr3
        go_wp2_with (fail)
        go_end0
        refine ⟨rfl, ?_, HFR3.out.put (.inl rfl) _⟩
        rw [HR3.out]
        exact HF3.out.put 1 _
      | false =>
        have n2 := not10_bool' s[A] hb
        have hb10 : ¬ byteAt s A ≠ 10 := by
          rw [byteAt_lt s hlt]
          simp only [bne_eq_false_iff_eq] at n2
          omega
        have HR3 := Lib.hid (HR2.out.trans (show _ = ((none, A + 1) : Option Nat × Nat) from by rw [if_neg (fun h => hb10 h.2)]))
        clear hb hb10
        go_wp2_with (fail)
        go_quiet (fail)
        go_wp2_with (fail)
        go_quiet (fail)
        go_wp2_with (fail)
        go_end0
        refine ⟨rfl, ?_, (HF1.out.drewN _).put (.inl rfl) _⟩
        rw [HR3.out]
        exact (H1.out.drewN _).put 1 _
  · have d1 : decide ((A : Int) < (s.size : Int)) = false := decide_eq_false (by omega)
    have HR3 := Lib.hid (HR.out.trans (show _ = ((none, A + 1) : Option Nat × Nat) from by rw [if_neg (by rw [byteAt_ge s (by omega)]; decide), if_neg (fun h => hlt h.1)]))
    clear HR
    go_wp2_with (fail)
    go_quiet (fail)
    go_wp2_with (fail)
    go_quiet (fail)
    go_wp2_with (fail)
    go_end0
    refine ⟨rfl, ?_, (HF1.out.drewN _).put (.inl rfl) _⟩
    rw [HR3.out]
    exact (H1.out.drewN _).put 1 _
end
end Go.Proofs.YtljfcdfdedkajaaDoor.Q
end
