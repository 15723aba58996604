import Derived.Test.YtljfcdfdedkajaaDoorZUnq
import Derived.Test.YtljfcdfdedkajaaDoorZPath
set_option linter.unusedVariables false
set_option linter.unusedSimpArgs false
section
namespace Go.Proofs.YtljfcdfdedkajaaDoor.Q
open Go.RowKit Go.Proofs.YtljfcdfdedkajaaDoorW.PrintWords
def Rd (w : World) (p c : Nat) (s : ByteArray) (lv : Value) (hv : ByteArray) (wh e : Int) : Prop :=
  Blk w p 53 #[.pointer (some ⟨c, 0, none⟩), .string s, lv, .string hv, .int .i64 wh, .int .i64 e]
section
variable (w : World) (p c : Nat) (s : ByteArray) (lv : Value) (hv : ByteArray) (wh e : Int)
set_option maxHeartbeats 400000 in
theorem wrong_keep (h : Rd w p c s lv hv wh e) (he : e ≠ 0) (a x : Int) :
    Calls Tryd.prog 49 #[.pointer (some ⟨p, 0, none⟩), .int .i64 a, .int .i64 x] w fun e w' => e = .returned (.tuple #[]) ∧ w = w' := by
  have h5 := h.cell 5
  have hb : (e == 0) = false := by simpa using he
  clear h he
  go_enter Tryd.func49, Tryd.ntmps49
  go_wp2
  go_end0
  exact ⟨rfl, rfl⟩
set_option maxHeartbeats 400000 in
theorem wrong_set (h : Rd w p c s lv hv wh 0) (a x : Int) :
    Calls Tryd.prog 49 #[.pointer (some ⟨p, 0, none⟩), .int .i64 a, .int .i64 x] w fun e w' => e = .returned (.tuple #[]) ∧ Rd w' p c s lv hv a x ∧ Fr (· = p) w w' := by
  have h5 := h.cell 5
  have h4 := h.cell 4
  have f4 := h.unfrozen 4
  have f5 := h.unfrozen 5
  have H := Lib.hid h
  clear h
  go_enter Tryd.func49, Tryd.ntmps49
  go_wp2
  go_end0
  exact ⟨rfl, (H.out.put 4 _).put 5 _, ((Fr.refl (· = p) w).put (.inl rfl) _).put (.inl rfl) _⟩
def blank (b : UInt8) : Bool := inSet ⟨#[32, 9]⟩ b
set_option maxHeartbeats 400000 in
theorem blanks_calls (a : Nat) (h : Rd w p c s lv hv wh e) (hc : Cur w c s a) (ha : a ≤ s.size) (hs : s.size ≤ 140737488351232) :
    Calls Tryd.prog 21 #[.pointer (some ⟨p, 0, none⟩)] w fun e w' => e = .returned (.int .u8 (byteAt s (spanEnd blank s a))) ∧ Cur w' c s (spanEnd blank s a) ∧ Fr (· = c) w w' := by
  by_cases hpc : p = c
  · subst hpc
    have := h.symm.trans hc
    simp at this
  have h0 := h.cell 0
  have HC := Lib.hid hc
  have H := Lib.hid h
  have HPC := Lib.hid hpc
  clear h hc hpc
  go_enter Tryd.func21, Tryd.ntmps21
  go_wp2_with (fail)
  refine (while_calls _ c s ⟨#[32, 9]⟩ a HC.out ha hs).mono ?_
  rintro e w1 ⟨rfl, hc1, hf1⟩
  have h1 : Blk w1 p _ _ := Blk.fr H.out hf1 HPC.out
  have h01 := h1.cell 0
  have HC1 := Lib.hid hc1
  have HF1 := Lib.hid hf1
  clear hc1 hf1 h1
  go_wp2_with (fail)
  refine (peek_calls _ c s (spanEnd blank s a) HC1.out).mono ?_
  rintro e w2 ⟨rfl, hd⟩
  have HD := Lib.hid hd
  clear hd
  go_wp2_with (fail)
  go_ret
  obtain ⟨n, rfl⟩ := HD.out
  exact ⟨rfl, HC1.out.drewN _, HF1.out.drewN _⟩
theorem rd_ne (h : Rd w p c s lv hv wh e) {a : Int} (hc : Cur w c s a) : p ≠ c := by
  rintro rfl
  have := h.symm.trans hc
  simp at this
set_option maxHeartbeats 800000 in
theorem must_yes (x : ByteArray) (a : Nat) (h : Rd w p c s lv hv wh 0) (hc : Cur w c s a) (ha : a ≤ s.size) (hs : s.size ≤ 140737488351232)
    (hp : Lib.hasPrefix (s.data.toList.drop (spanEnd blank s a)) x.data.toList = true) :
    Calls Tryd.prog 53 #[.pointer (some ⟨p, 0, none⟩), .string x] w fun e w' => e = .returned (.tuple #[]) ∧ Cur w' c s (spanEnd blank s a + x.size : Nat) ∧ Fr (· = c) w w' := by
  have HPC := Lib.hid (rd_ne _ _ _ _ _ _ _ _ h hc)
  have HP := Lib.hid hp
  have HC := Lib.hid hc
  have H := Lib.hid h
  clear h hc hp
  go_enter Tryd.func53, Tryd.ntmps53
  go_wp2_with (fail)
  refine (blanks_calls _ p c s lv hv wh 0 a H.out HC.out ha hs).mono ?_
  rintro e w1 ⟨rfl, hc1, hf1⟩
  have h1 : Rd w1 p c s lv hv wh 0 := Blk.fr H.out hf1 HPC.out
  have h01 := h1.cell 0
  have h51 := h1.cell 5
  have HC1 := Lib.hid hc1
  have HF1 := Lib.hid hf1
  clear hc1 hf1 h1
  go_wp2_with (fail)
  refine (take_yes _ c s x (spanEnd blank s a) HC1.out (spanEnd_le _ _ _ ha) hs HP.out).mono ?_
  rintro e w2 ⟨rfl, hc2, hf2⟩
  have HC2 := Lib.hid hc2
  have HF2 := Lib.hid hf2
  clear hc2 hf2
  go_wp2_with (fail)
  go_end0
  exact ⟨rfl, HC2.out, HF1.out.same HF2.out⟩
set_option maxHeartbeats 800000 in
theorem must_no (x : ByteArray) (a : Nat) (h : Rd w p c s lv hv wh 0) (hc : Cur w c s a) (ha : a ≤ s.size) (hs : s.size ≤ 140737488351232)
    (hp : Lib.hasPrefix (s.data.toList.drop (spanEnd blank s a)) x.data.toList = false) :
    Calls Tryd.prog 53 #[.pointer (some ⟨p, 0, none⟩), .string x] w fun e w' => e = .returned (.tuple #[]) ∧ Rd w' p c s lv hv (spanEnd blank s a : Nat) 1 ∧ Cur w' c s (spanEnd blank s a : Nat) ∧ Fr (fun k => k = p ∨ k = c) w w' := by
  have HPC := Lib.hid (rd_ne _ _ _ _ _ _ _ _ h hc)
  have HP := Lib.hid hp
  have HC := Lib.hid hc
  have H := Lib.hid h
  clear h hc hp
  go_enter Tryd.func53, Tryd.ntmps53
  go_wp2_with (fail)
  refine (blanks_calls _ p c s lv hv wh 0 a H.out HC.out ha hs).mono ?_
  rintro e w1 ⟨rfl, hc1, hf1⟩
  have h1 : Rd w1 p c s lv hv wh 0 := Blk.fr H.out hf1 HPC.out
  have h01 := h1.cell 0
  have h51 := h1.cell 5
  have HC1 := Lib.hid hc1
  have HF1 := Lib.hid hf1
  have H1 := Lib.hid h1
  clear hc1 hf1 h1
  go_wp2_with (fail)
  refine (take_no _ c s x (spanEnd blank s a) HC1.out (spanEnd_le _ _ _ ha) HP.out).mono ?_
  rintro e w2 ⟨rfl, hd⟩
  have HD := Lib.hid hd
  clear hd
  obtain ⟨n, hn⟩ := HD.out
  subst hn
  go_wp2_with (fail)
  refine (at_calls _ c s _ (HC1.out.drewN n)).mono ?_
  rintro e w3 ⟨rfl, rfl⟩
  go_wp2_with (fail)
  refine (wrong_set _ p c s lv hv wh (H1.out.drewN n) _ _).mono ?_
  rintro e w4 ⟨rfl, hr, hf⟩
  have HR := Lib.hid hr
  have HF := Lib.hid hf
  clear hr hf
  go_wp2_with (fail)
  go_end0
  exact ⟨rfl, HR.out, Blk.fr (HC1.out.drewN n) HF.out (fun e => HPC.out e.symm), ((HF1.out.drewN n).mono fun k hk => .inr hk).trans HF.out fun k hk => .inl (.inl hk)⟩
end
end Go.Proofs.YtljfcdfdedkajaaDoor.Q
end
section
namespace Go.Proofs.YtljfcdfdedkajaaDoor.Q
open Go.RowKit Go.Proofs.YtljfcdfdedkajaaDoorW.PrintWords
def plainB (b : UInt8) : Bool := b == 9 || b == 10 || (32 ≤ b && b ≤ 126)
def noteB (b : UInt8) : Bool := plainB b && b != 10
theorem spanEnd_stop (p : UInt8 → Bool) (s : ByteArray) (i : Nat) (hi : i ≤ s.size) : ∀ h : spanEnd p s i < s.size, p (s[spanEnd p s i]'h) = false := by
  intro h
  generalize hd : s.size - i = d
  induction d generalizing i with
  | zero =>
    have : i = s.size := by omega
    have h2 := spanEnd_ge p s i
    omega
  | succ d ih =>
    have hlt : i < s.size := by omega
    cases hp : p s[i] with
    | true =>
      have e := spanEnd_yes p s i hlt hp
      have h' : spanEnd p s (i + 1) < s.size := by omega
      have := ih (i + 1) (by omega) h' (by omega)
      simpa only [e] using this
    | false =>
      have e := spanEnd_no p s i hlt hp
      simpa only [e] using hp
theorem spanEnd_idem (p : UInt8 → Bool) (s : ByteArray) (i : Nat) (hi : i ≤ s.size) : spanEnd p s (spanEnd p s i) = spanEnd p s i := by
  by_cases h : spanEnd p s i < s.size
  · exact spanEnd_no p s _ h (spanEnd_stop p s i hi h)
  · exact spanEnd_end p s _ (by omega)
theorem encode_low : ∀ n : Nat, n < 128 → Utf8.encode (n : Int) = ⟨#[UInt8.ofNat n]⟩ := by decide +kernel
theorem encode_plain : ∀ n : Nat, n < 256 → (Utf8.encode (n : Int)).data.toList.all plainB = plainB (UInt8.ofNat n) := by decide +kernel
def plainI (x : Int) : Bool := x == 9 || x == 10 || (decide (32 ≤ x) && decide (x ≤ 126))
theorem plain_int (c : UInt8) : plainI (c.toNat : Int) = plainB c := by
  unfold plainI plainB
  rw [Bool.eq_iff_iff]
  simp only [Bool.or_eq_true, Bool.and_eq_true, decide_eq_true_eq, beq_iff_eq, UInt8.le_iff_toNat_le, ← UInt8.toNat_inj]
  simp only [show (9 : UInt8).toNat = 9 from rfl, show (10 : UInt8).toNat = 10 from rfl, show (32 : UInt8).toNat = 32 from rfl, show (126 : UInt8).toNat = 126 from rfl]
  omega
theorem plain_f (x : Int) : R.text_plain.f x = some (plainI x) := by
  unfold R.text_plain.f plainI
  split
  · rename_i h; subst h; rfl
  split
  · rename_i h; subst h; rfl
  rename_i h1 h2
  have e1 : (x == 9) = false := by simpa using h1
  have e2 : (x == 10) = false := by simpa using h2
  rw [e1, e2]
  split
  · rename_i h3; rw [decide_eq_true (by omega : 32 ≤ x)]; simp
  · rename_i h3; rw [decide_eq_false (by omega : ¬ 32 ≤ x)]; simp
theorem plain_at (s : ByteArray) (hs : s.size ≤ 140737488351232) : ∀ (d k i : Nat), s.size = i + d → d < k → R.text_Plain.l0 k s (s.size : Int) (i : Int) = some ((s.data.toList.drop i).all plainB)
  | 0, k, i, hd, hk => by
    obtain ⟨k, rfl⟩ : ∃ m, k = m + 1 := ⟨k - 1, by omega⟩
    simp only [R.text_Plain.l0]
    rw [if_neg (by omega), List.drop_eq_nil_of_le (by simp; omega)]
    rfl
  | d + 1, k, i, hd, hk => by
    obtain ⟨k, rfl⟩ : ∃ m, k = m + 1 := ⟨k - 1, by omega⟩
    have hi : i < s.size := by omega
    simp only [R.text_Plain.l0]
    rw [if_pos (by omega), if_pos (by omega), if_pos (by omega), plain_f, drop_at s i hi, List.all_cons, bt_at' s i hi, plain_int]
    have hw : wrap64 ((i : Int) + 1) = ((i + 1 : Nat) : Int) := by unfold wrap64; omega
    rw [hw]
    cases plainB s[i] with
    | true => simpa using plain_at s hs d k (i + 1) (by omega) (by omega)
    | false => simp
theorem plain_calls (s : ByteArray) (w : World) (hl : s.size ≤ 140737488351232) :
    Calls Tryd.prog 56 #[.string s] w fun e w' => e = .returned (.bool (s.data.toList.all plainB)) ∧ Drawn0 w w' := by
  have h := plain_at s hl s.size (s.size + 1) 0 (by omega) (by omega)
  rw [List.drop_zero] at h
  exact R.text_Plain.calls (s.size + 1) s _ w h
theorem plain_one (s : ByteArray) (k : Nat) (h : k < s.size) (w : World) :
    Calls Tryd.prog 56 #[.string (Utf8.encode (byteAt s k))] w fun e w' => e = .returned (.bool (plainB s[k])) ∧ Drawn0 w w' := by
  have hlt := (s[k]).toNat_lt
  have hz : ∀ n : Nat, n < 256 → (Utf8.encode (n : Int)).size ≤ 140737488351232 := by decide +kernel
  have h1 := plain_calls (Utf8.encode (byteAt s k)) w (by rw [byteAt_lt s h]; exact hz _ hlt)
  rw [byteAt_lt s h] at h1 ⊢
  rw [encode_plain _ hlt] at h1
  simpa using h1
theorem encode_one (s : ByteArray) (k : Nat) (h : k < s.size) (hp : plainB s[k] = true) : Utf8.encode (byteAt s k) = ⟨#[s[k]]⟩ := by
  have h1 : s[k].toNat < 128 := by
    rw [← plain_int] at hp
    simp [plainI] at hp
    omega
  rw [byteAt_lt s h, encode_low _ h1]
  simp
theorem prefix_one (s : ByteArray) (k : Nat) (h : k < s.size) : Lib.hasPrefix (s.data.toList.drop k) [s[k]] = true := by
  rw [drop_at s k h]
  simp [Lib.hasPrefix]
def restR (s : ByteArray) (a : Nat) : Bool × Nat :=
  let a1 := spanEnd blank s a
  let a2 := if byteAt s a1 = 35 then spanEnd noteB s a1 else a1
  if byteAt s a2 = 10 then (true, a2 + 1) else if a2 < s.size then (false, a2) else (true, a2)
def RestPost (s : ByteArray) (p c : Nat) (lv : Value) (hv : ByteArray) (wh : Int) (r : Bool × Nat) (w : World) (e : Ending) (w' : World) : Prop :=
  e = .returned (.tuple #[]) ∧ Fr (fun k => k = p ∨ k = c) w w' ∧ Cur w' c s r.2 ∧ Rd w' p c s lv hv (if r.1 = true then wh else r.2) (if r.1 = true then 0 else 1)
theorem byteAt_ten (s : ByteArray) (k : Nat) (h : byteAt s k = 10) : k < s.size := by
  unfold byteAt at h
  split at h
  · assumption
  · omega
theorem nl_prefix (s : ByteArray) (k : Nat) (h : byteAt s k = 10) : Lib.hasPrefix (s.data.toList.drop k) [10] = true := by
  have hlt := byteAt_ten s k h
  rw [byteAt_lt s hlt] at h
  have : s[k] = 10 := UInt8.toNat.inj (by simp only [show (10 : UInt8).toNat = 10 from rfl]; omega)
  rw [← this]
  exact prefix_one s k hlt
theorem nl_no (s : ByteArray) (k : Nat) (h : byteAt s k ≠ 10) : Lib.hasPrefix (s.data.toList.drop k) [10] = false := by
  by_cases hlt : k < s.size
  · rw [drop_at s k hlt]
    rw [byteAt_lt s hlt] at h
    have : (10 == s[k]) = false := by
      simp
      intro e
      rw [← e] at h
      exact h rfl
    show (10 == s[k] && _) = false
    rw [this]; rfl
  · rw [List.drop_eq_nil_of_le (by simp; omega)]
    rfl
theorem blank_nl (s : ByteArray) (k : Nat) (h : byteAt s k = 10) : spanEnd blank s k = k := by
  have hlt := byteAt_ten s k h
  rw [byteAt_lt s hlt] at h
  have : s[k] = 10 := UInt8.toNat.inj (by simp only [show (10 : UInt8).toNat = 10 from rfl]; omega)
  exact spanEnd_no _ s k hlt (by rw [this]; decide)
section
variable (w : World) (p c : Nat) (s : ByteArray) (lv : Value) (hv : ByteArray) (wh e : Int)
set_option maxHeartbeats 1000000 in
set_option maxRecDepth 100000 in
theorem rest_note (a : Nat) (h : Rd w p c s lv hv wh 0) (hc : Cur w c s a) (ha : a ≤ s.size) (hs : s.size ≤ 140737488351232)
    (h35 : byteAt s (spanEnd blank s a) = 35) :
    Calls Tryd.prog 24 #[.pointer (some ⟨p, 0, none⟩)] w (RestPost s p c lv hv wh (restR s a) w) := by
  have HX : ∀ k, spanEnd noteB s (spanEnd blank s a) = k → Hid (restR s a = if byteAt s k = 10 then (true, k + 1) else if k < s.size then (false, k) else (true, k)) := by
    intro k hk
    show restR s a = _
    unfold restR
    simp only [h35, if_true, hk]
  have HPC := Lib.hid (rd_ne _ _ _ _ _ _ _ _ h hc)
  have HC := Lib.hid hc
  have H := Lib.hid h
  have HB := Lib.hid h35
  clear h hc h35
  go_enter Tryd.func24, Tryd.ntmps24
  go_wp2_with (fail)
  refine (blanks_calls _ p c s lv hv wh 0 a H.out HC.out ha hs).mono ?_
  rintro e w1 ⟨rfl, hc1, hf1⟩
  have h1 : Rd w1 p c s lv hv wh 0 := Blk.fr H.out hf1 HPC.out
  have h01 := h1.cell 0
  have HC1 := Lib.hid hc1
  have HF1 := Lib.hid hf1
  have H1 := Lib.hid h1
  clear hc1 hf1 h1
  have hb : (byteAt s (spanEnd blank s a) == 35) = true := by rw [HB.out]; rfl
  go_wp2_with (fail)
  refine (peek_calls _ c s (spanEnd blank s a) HC1.out).mono ?_
  rintro e w2 ⟨rfl, hd⟩
  have HD := Lib.hid hd
  clear hd
  go_wp2_with (fail)
  go_loopg [2, 3] (s.size - spanEnd blank s a) (fun q b i wr => ∃ k : Nat, q = s.size - k ∧ k ≤ s.size ∧ spanEnd noteB s (spanEnd blank s a) = spanEnd noteB s k ∧ b = .int .u8 (byteAt s k) ∧ i = .bool (decide (k < s.size)) ∧ Cur wr c s k ∧ Fr (· = c) w wr)
  case atStart =>
    obtain ⟨n, rfl⟩ := HD.out
    exact ⟨_, rfl, spanEnd_le _ _ _ ha, rfl, rfl, rfl, HC1.out.drewN _, HF1.out.drewN _⟩
  case round =>
    obtain ⟨k, rfl, hk, he, rfl, rfl, hck, hfk⟩ := hrel
    have HE := Lib.hid he
    have HK := Lib.hid hck
    have HF := Lib.hid hfk
    have hrk : Rd _ p c s lv hv wh 0 := Blk.fr H.out hfk HPC.out
    have HR := Lib.hid hrk
    have k0 := hrk.cell 0
    clear he hck hfk hrk HD HF1 HC1 H1 h01 H
    have hx := byteAt_bd s k
    by_cases hlt : k < s.size
    · have hd : decide (k < s.size) = true := decide_eq_true hlt
      by_cases hnl : byteAt s k = 10
      · have hnb : (byteAt s k != 10) = false := by simpa using hnl
        have hend : spanEnd noteB s k = k := by
          refine spanEnd_no _ s k hlt ?_
          have h2 := byteAt_lt s hlt
          have : s[k] = 10 := UInt8.toNat.inj (by simp only [show (10 : UInt8).toNat = 10 from rfl]; omega)
          rw [this]; decide
        have HRES := HX k (HE.out.trans hend)
        have HNL := Lib.hid hnl
        have hs1 := HR.out.cell 1
        have hk0 := HK.out.cell 1
        clear hend hnl
        go_wp2_with (fail)
        go_quiet ((go_at_call 25; exact quiet_eq' (at_calls _ _ _ _ (HK.out.drewN _))))
        go_wp2_with (fail)
        have hbl := blank_nl s k HNL.out
        refine (must_yes _ p c s lv hv wh ⟨#[10]⟩ k (HR.out.drewN _) (HK.out.drewN _) hk hs (by rw [hbl]; exact nl_prefix s k HNL.out)).mono ?_
        rintro e w6 ⟨rfl, hc6, hf6⟩
        rw [hbl] at hc6
        have HC6 := Lib.hid hc6
        have HF6 := Lib.hid hf6
        clear hc6 hf6 hbl
        go_wp2_with (fail)
        go_end0
        have hr := HRES.out
        rw [if_pos HNL.out] at hr
        rw [hr]
        exact ⟨rfl, ((HF.out.drewN _).same HF6.out).mono fun k hk => .inr hk, HC6.out, Blk.fr (HR.out.drewN _) HF6.out HPC.out⟩
      · have hnb : (byteAt s k != 10) = true := by simpa using hnl
        cases hpl : plainB s[k] with
        | true =>
          have HPL := fun w => Lib.hid (plain_one s k hlt w)
          have HQ := Lib.hid hpl
          have HE1 := Lib.hid (encode_one s k hlt hpl)
          rw [hpl] at HPL
          have hnote : noteB s[k] = true := by
            unfold noteB
            rw [hpl]
            have : s[k] ≠ 10 := by
              intro e
              have h2 := byteAt_lt s hlt
              rw [e] at h2
              exact hnl h2
            simpa using this
          have HN := Lib.hid (spanEnd_yes noteB s k hlt hnote)
          clear hpl hnote hnl
          go_wp2_with (fail)
          refine (HPL _).out.mono ?_
          rintro e w3 ⟨rfl, hd3⟩
          obtain ⟨n3, hn3⟩ := hd3
          subst hn3
          go_wp2_with (fail)
          rw [HE1.out]
          refine (take_yes _ c s ⟨#[s[k]]⟩ k (HK.out.drewN n3) hk hs (prefix_one s k hlt)).mono ?_
          rintro e w4 ⟨rfl, hc4, hf4⟩
          have hr4 := Blk.fr (HR.out.drewN n3) hf4 HPC.out
          have k4 := hr4.cell 0
          have HC4 := Lib.hid hc4
          have HF4 := Lib.hid hf4
          clear hc4 hf4 hr4
          go_wp2_with (fail)
          refine (peek_calls _ c s (k + 1) HC4.out).mono ?_
          rintro e w5 ⟨rfl, hd5⟩
          have HD5 := Lib.hid hd5
          clear hd5
          go_wp2_with (fail)
          go_roundg (s.size - (k + 1))
          case measure => omega
          case rel =>
            obtain ⟨n, rfl⟩ := HD5.out
            exact ⟨k + 1, rfl, by omega, HE.out.trans HN.out, rfl, rfl, HC4.out.drewN _, ((HF.out.drewN n3).same HF4.out).drewN _⟩
        | false =>
          have HPL := fun w => Lib.hid (plain_one s k hlt w)
          rw [hpl] at HPL
          have hend : spanEnd noteB s k = k := spanEnd_no _ s k hlt (by unfold noteB; rw [hpl]; rfl)
          have HRES := HX k (HE.out.trans hend)
          have HNL := Lib.hid hnl
          clear hpl hend hnl
          go_wp2_with (fail)
          refine (HPL _).out.mono ?_
          rintro e w3 ⟨rfl, hd3⟩
          obtain ⟨n3, hn3⟩ := hd3
          subst hn3
          go_wp2_with (fail)
          refine (at_calls _ c s _ (HK.out.drewN n3)).mono ?_
          rintro e w4 ⟨rfl, rfl⟩
          go_wp2_with (fail)
          refine (wrong_set _ p c s lv hv wh (HR.out.drewN n3) _ _).mono ?_
          rintro e w5 ⟨rfl, hr5, hf5⟩
          have HR5 := Lib.hid hr5
          have HF5 := Lib.hid hf5
          clear hr5 hf5
          go_wp2_with (fail)
          refine bodyPost_ret (results_none rfl _ _ _) rfl ?_
          have hr := HRES.out
          rw [if_neg HNL.out, if_pos hlt] at hr
          rw [hr]
          exact ⟨rfl, ((HF.out.drewN n3).mono fun k hk => .inr hk).trans HF5.out fun k hk => .inl (.inl hk), Blk.fr (HK.out.drewN n3) HF5.out (fun e => HPC.out e.symm), HR5.out⟩
    · have hd : decide (k < s.size) = false := decide_eq_false hlt
      have HRES := HX k (HE.out.trans (spanEnd_end _ s k (by omega)))
      have hs1 := HR.out.cell 1
      have hk0 := HK.out.cell 1
      have hnb : ¬ byteAt s k = 10 := fun h => hlt (byteAt_ten s k h)
      have HNL := Lib.hid hnb
      clear hnb
      go_wp2_with (fail)
      go_quiet ((go_at_call 25; exact quiet_eq' (at_calls _ _ _ _ (HK.out.drewN _))))
      go_wp2_with (fail)
      go_end0
      have hr := HRES.out
      rw [if_neg HNL.out, if_neg hlt] at hr
      rw [hr]
      exact ⟨rfl, (HF.out.drewN _).mono fun k hk => .inr hk, HK.out.drewN _, HR.out.drewN _⟩
set_option maxHeartbeats 1000000 in
set_option maxRecDepth 100000 in
theorem rest_plain (a : Nat) (h : Rd w p c s lv hv wh 0) (hc : Cur w c s a) (ha : a ≤ s.size) (hs : s.size ≤ 140737488351232)
    (h35 : byteAt s (spanEnd blank s a) ≠ 35) :
    Calls Tryd.prog 24 #[.pointer (some ⟨p, 0, none⟩)] w (RestPost s p c lv hv wh (restR s a) w) := by
  have hrr : restR s a = if byteAt s (spanEnd blank s a) = 10 then (true, spanEnd blank s a + 1) else if spanEnd blank s a < s.size then (false, spanEnd blank s a) else (true, spanEnd blank s a) := by
    unfold restR
    simp only [if_neg h35]
  have hle := spanEnd_le blank s a ha
  have hid := spanEnd_idem blank s a ha
  have HRES := Lib.hid hrr
  have HID := Lib.hid hid
  have HPC := Lib.hid (rd_ne _ _ _ _ _ _ _ _ h hc)
  have HC := Lib.hid hc
  have H := Lib.hid h
  have hb : (byteAt s (spanEnd blank s a) == 35) = false := by simpa using h35
  clear h hc h35 hrr hid
  go_enter Tryd.func24, Tryd.ntmps24
  go_wp2_with (fail)
  refine (blanks_calls _ p c s lv hv wh 0 a H.out HC.out ha hs).mono ?_
  rintro e w1 ⟨rfl, hc1, hf1⟩
  generalize spanEnd blank s a = a1 at *
  have h1 : Rd w1 p c s lv hv wh 0 := Blk.fr H.out hf1 HPC.out
  have h01 := h1.cell 0
  have h11 := h1.cell 1
  have HC1 := Lib.hid hc1
  have HF1 := Lib.hid hf1
  have H1 := Lib.hid h1
  have c11 := hc1.cell 1
  clear hc1 hf1 h1
  by_cases hlt : a1 < s.size
  · go_wp2_with (fail)
    go_quiet ((go_at_call 25; exact quiet_eq' (at_calls _ _ _ _ (HC1.out.drewN _))))
    go_wp2_with (fail)
    by_cases h10 : byteAt s a1 = 10
    · refine (must_yes _ p c s lv hv wh ⟨#[10]⟩ a1 (H1.out.drewN _) (HC1.out.drewN _) hle hs (by rw [HID.out]; exact nl_prefix s a1 h10)).mono ?_
      rintro e w6 ⟨rfl, hc6, hf6⟩
      rw [HID.out] at hc6
      have HC6 := Lib.hid hc6
      have HF6 := Lib.hid hf6
      have HNL := Lib.hid h10
      clear hc6 hf6 h10
      go_wp2_with (fail)
      go_end0
      have hr := HRES.out
      rw [if_pos HNL.out] at hr
      rw [hr]
      exact ⟨rfl, ((HF1.out.drewN _).same HF6.out).mono fun k hk => .inr hk, HC6.out, Blk.fr (H1.out.drewN _) HF6.out HPC.out⟩
    · refine (must_no _ p c s lv hv wh ⟨#[10]⟩ a1 (H1.out.drewN _) (HC1.out.drewN _) hle hs (by rw [HID.out]; exact nl_no s a1 h10)).mono ?_
      rintro e w6 ⟨rfl, hr6, hc6, hf6⟩
      rw [HID.out] at hc6 hr6
      have HC6 := Lib.hid hc6
      have HF6 := Lib.hid hf6
      have HR6 := Lib.hid hr6
      have HNL := Lib.hid h10
      clear hc6 hf6 h10 hr6
      go_wp2_with (fail)
      go_end0
      have hr := HRES.out
      rw [if_neg HNL.out, if_pos hlt] at hr
      rw [hr]
      exact ⟨rfl, (((HF1.out.drewN _).mono fun k hk => .inr hk).same HF6.out), HC6.out, HR6.out⟩
  · have hnb : ¬ byteAt s a1 = 10 := fun h => hlt (byteAt_ten s a1 h)
    have HNL := Lib.hid hnb
    clear hnb
    go_wp2_with (fail)
    go_quiet ((go_at_call 25; exact quiet_eq' (at_calls _ _ _ _ (HC1.out.drewN _))))
    go_wp2_with (fail)
    go_end0
    have hr := HRES.out
    rw [if_neg HNL.out, if_neg hlt] at hr
    rw [hr]
    exact ⟨rfl, (HF1.out.drewN _).mono fun k hk => .inr hk, HC1.out.drewN _, H1.out.drewN _⟩
theorem rest_calls (a : Nat) (h : Rd w p c s lv hv wh 0) (hc : Cur w c s a) (ha : a ≤ s.size) (hs : s.size ≤ 140737488351232) :
    Calls Tryd.prog 24 #[.pointer (some ⟨p, 0, none⟩)] w (RestPost s p c lv hv wh (restR s a) w) := by
  by_cases h35 : byteAt s (spanEnd blank s a) = 35
  · exact rest_note w p c s lv hv wh a h hc ha hs h35
  · exact rest_plain w p c s lv hv wh a h hc ha hs h35
def common : List UInt8 → List UInt8 → Nat
  | x :: l, y :: m => if x = y then common l m + 1 else 0
  | _, _ => 0
theorem common_nil (l : List UInt8) : common l [] = 0 := by cases l <;> rfl
set_option maxHeartbeats 1000000 in
set_option maxRecDepth 100000 in
theorem odd_calls (x : ByteArray) (a : Nat) (h : Rd w p c s lv hv wh e) (hc : Cur w c s a) (ha : a ≤ s.size) (hs : s.size ≤ 140737488351232) (hx : x.size ≤ 140737488351232) :
    Calls Tryd.prog 50 #[.pointer (some ⟨p, 0, none⟩), .string x] w fun e w' => e = .returned (.int .i64 (a + common x.data.toList (s.data.toList.drop a) : Nat)) ∧ Drawn0 w w' := by
  have h0 := h.cell 0
  have h1 := h.cell 1
  have HC := Lib.hid hc
  have H := Lib.hid h
  clear h hc
  go_enter Tryd.func50, Tryd.ntmps50
  go_wp2_with (fail)
  refine (at_calls _ c s _ HC.out).mono ?_
  rintro e w1 ⟨rfl, rfl⟩
  go_wp2_with (fail)
  go_loopw [5, 16] (fun k i wr => ∃ j : Nat, j ≤ x.size ∧ a + j ≤ s.size ∧ i = .int .i64 j ∧ k = .int .i64 (a + j : Nat) ∧ common x.data.toList (s.data.toList.drop a) = j + common (x.data.toList.drop j) (s.data.toList.drop (a + j)) ∧ Drawn0 w wr) (fun _ i _ => x.size - (intOf i).toNat)
  case atStart => exact ⟨0, Nat.zero_le _, by omega, rfl, rfl, by simp, Drawn0.refl _⟩
  case round =>
    obtain ⟨j, hj, haj, rfl, rfl, he, hd⟩ := hrel
    have HE := Lib.hid he
    obtain ⟨n, hn⟩ := hd
    subst hn
    clear he
    have h1' := (H.out.drewN n).cell 1
    have h0' := (H.out.drewN n).cell 0
    by_cases hlt : j < x.size
    · by_cases hs2 : a + j < s.size
      · have e1 := drop_at x j hlt
        have e2 := drop_at s (a + j) hs2
        have d1 : decide (s.size ≤ a + j) = false := decide_eq_false (by omega)
        have d2 : decide ((s.size : Int) ≤ ((a + j : Nat) : Int)) = false := decide_eq_false (by omega)
        have d3 : decide ((s.size : Int) ≤ (a : Int) + (j : Int)) = false := decide_eq_false (by omega)
        have i1 : (0 : Int) ≤ (a : Int) + (j : Int) ∧ (a : Int) + (j : Int) < (s.size : Int) := ⟨by omega, by omega⟩
        have i2 : (0 : Int) ≤ (j : Int) ∧ (j : Int) < (x.size : Int) := ⟨by omega, by omega⟩
        have E1 := Lib.hid e1
        have E2 := Lib.hid e2
        clear e1 e2
        by_cases hq : x[j] = s[a + j]
        · have n1 : ((s[a + j].toNat : Int) != (x[j].toNat : Int)) = false := by rw [hq]; simp
          have HQ := Lib.hid hq
          clear hq
          go_wp2_with (fail)
          go_quiet (fail)
          go_wp2_with (fail)
          refine ⟨⟨j + 1, by omega, by omega, by simp, by simp [Nat.add_assoc, Int.add_assoc], ?_, n + nq, rfl⟩, by simp only [intOf]; omega⟩
          have hr := HE.out
          rw [E1.out, E2.out] at hr
          simp only [common, if_pos HQ.out] at hr
          rw [hr, Nat.add_assoc a j 1]
          omega
        · have n1 : ((s[a + j].toNat : Int) != (x[j].toNat : Int)) = true := by
            have : s[a + j].toNat ≠ x[j].toNat := fun e => hq (UInt8.toNat_inj.mp e.symm)
            simp only [bne_iff_ne, ne_eq]; omega
          have HQ := Lib.hid hq
          clear hq
          go_wp2_with (fail)
          go_quiet (fail)
          go_wp2_with (fail)
          go_ret
          have hr := HE.out
          rw [E1.out, E2.out] at hr
          simp only [common, if_neg HQ.out, Nat.add_zero] at hr
          rw [hr]
          exact ⟨rfl, _, (World.drewN_drewN ..)⟩
      · have d1 : decide (s.size ≤ a + j) = true := decide_eq_true (by omega)
        have d2 : decide ((s.size : Int) ≤ ((a + j : Nat) : Int)) = true := decide_eq_true (by omega)
        have d3 : decide ((s.size : Int) ≤ (a : Int) + (j : Int)) = true := decide_eq_true (by omega)
        go_wp2_with (fail)
        go_quiet (fail)
        go_wp2_with (fail)
        go_ret
        have hz : s.data.toList.drop (a + j) = [] := List.drop_eq_nil_of_le (by have : s.data.toList.length = s.size := rfl; omega)
        have hr := HE.out
        rw [hz, common_nil, Nat.add_zero] at hr
        rw [hr]
        exact ⟨rfl, _, (World.drewN_drewN ..)⟩
    · go_wp2_with (fail)
      go_ret
      have hz : x.data.toList.drop j = [] := List.drop_eq_nil_of_le (by have : x.data.toList.length = x.size := rfl; omega)
      have hr := HE.out
      rw [hz] at hr
      simp only [common, Nat.add_zero] at hr
      rw [hr]
      exact ⟨rfl, n, rfl⟩
end
end Go.Proofs.YtljfcdfdedkajaaDoor.Q
end
