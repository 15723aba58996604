import Derived.Test.YtljfcdfdedkajaaDoorZR1g
import Derived.Test.YtljfcdfdedkajaaDoorZShelf
import Derived.StillTailTactics
set_option linter.unusedVariables false
set_option linter.unusedSimpArgs false
namespace Go.Proofs.YtljfcdfdedkajaaDoor.Q
open Go.RowKit Go.Proofs.YtljfcdfdedkajaaDoorW.PrintWords
def Cur (w : World) (c : Nat) (s : ByteArray) (a : Int) : Prop := Blk w c 59 #[.string s, .int .i64 a]
def spanEnd (p : UInt8 → Bool) (s : ByteArray) (i : Nat) : Nat := i + ((s.data.toList.drop i).takeWhile p).length
theorem spanEnd_end (p : UInt8 → Bool) (s : ByteArray) (i : Nat) (h : s.size ≤ i) : spanEnd p s i = i := by
  unfold spanEnd
  rw [List.drop_eq_nil_of_le (by simpa using h)]; rfl
theorem drop_at (s : ByteArray) (i : Nat) (h : i < s.size) : s.data.toList.drop i = s[i] :: s.data.toList.drop (i + 1) := by
  rw [List.drop_eq_getElem_cons (by simpa using h)]; rfl
theorem spanEnd_no (p : UInt8 → Bool) (s : ByteArray) (i : Nat) (h : i < s.size) (hp : p s[i] = false) : spanEnd p s i = i := by
  unfold spanEnd
  rw [drop_at s i h, List.takeWhile_cons]; simp [hp]
theorem spanEnd_yes (p : UInt8 → Bool) (s : ByteArray) (i : Nat) (h : i < s.size) (hp : p s[i] = true) : spanEnd p s i = spanEnd p s (i + 1) := by
  unfold spanEnd
  rw [drop_at s i h, List.takeWhile_cons]; simp [hp]; omega
theorem spanEnd_le (p : UInt8 → Bool) (s : ByteArray) (i : Nat) (h : i ≤ s.size) : spanEnd p s i ≤ s.size := by
  unfold spanEnd
  have := (List.takeWhile_prefix p (l := s.data.toList.drop i)).length_le
  simp at this
  omega
theorem spanEnd_ge (p : UInt8 → Bool) (s : ByteArray) (i : Nat) : i ≤ spanEnd p s i := by unfold spanEnd; omega
section
variable (w : World) (c : Nat) (s : ByteArray)
set_option maxHeartbeats 400000 in
theorem new_calls :
    Calls Tryd.prog 20 #[.string s] w fun e w' => e = .returned (.pointer (some ⟨w.heap.size, 0, none⟩)) ∧ w' = w.alloc (.cells #[.string s, .int .i64 0] 59) := by
  go_enter Tryd.func20, Tryd.ntmps20
  go_wp2
  go_ret
  exact ⟨rfl, rfl⟩
set_option maxHeartbeats 400000 in
theorem at_calls (a : Int) (h : Cur w c s a) :
    Calls Tryd.prog 25 #[.pointer (some ⟨c, 0, none⟩)] w fun e w' => e = .returned (.int .i64 a) ∧ w = w' := by
  have h1 := h.cell 1
  clear h
  go_enter Tryd.func25, Tryd.ntmps25
  go_wp2
  go_ret
  exact ⟨rfl, rfl⟩
set_option maxHeartbeats 400000 in
theorem peek_end (a : Nat) (h : Cur w c s a) (ha : s.size ≤ a) :
    Calls Tryd.prog 47 #[.pointer (some ⟨c, 0, none⟩)] w fun e w' => e = .returned (.tuple #[.int .u8 0, .bool false]) ∧ Drawn0 w w' := by
  have h0 := h.cell 0
  have h1 := h.cell 1
  clear h
  go_enter Tryd.func47, Tryd.ntmps47
  go_wp2
  go_quiet (fail)
  go_wp2
  go_ret2
  exact ⟨rfl, ⟨_, rfl⟩⟩
set_option maxHeartbeats 400000 in
theorem peek_mid (a : Nat) (h : Cur w c s a) (ha : a < s.size) :
    Calls Tryd.prog 47 #[.pointer (some ⟨c, 0, none⟩)] w fun e w' => e = .returned (.tuple #[.int .u8 s[a].toNat, .bool true]) ∧ Drawn0 w w' := by
  have h0 := h.cell 0
  have h1 := h.cell 1
  clear h
  go_enter Tryd.func47, Tryd.ntmps47
  go_wp2
  go_quiet (fail)
  go_wp2
  go_quiet (fail)
  go_wp2
  go_ret2
  exact ⟨rfl, ((Drawn0.refl w).step _).step _⟩
def inSet (set : ByteArray) (b : UInt8) : Bool := set.data.toList.contains b
theorem indexByte_in (set : ByteArray) (b : UInt8) : decide (0 ≤ Lib.indexByte set.data.toList b) = inSet set b := by
  have h1 := Lib.indexByte_ge set.data.toList b
  unfold inSet
  rw [Bool.eq_iff_iff]
  simp only [decide_eq_true_eq, List.contains_iff_mem]
  constructor
  · intro h
    obtain ⟨n, hn⟩ := Int.eq_ofNat_of_zero_le h
    have := (Lib.indexByte_some hn).1
    exact List.mem_of_getElem? this
  · intro h
    rcases Int.lt_or_le (Lib.indexByte set.data.toList b) 0 with h2 | h2
    · obtain ⟨k, hk⟩ := List.getElem?_of_mem h
      exact absurd hk (Lib.indexByte_none (by omega) k)
    · exact h2
theorem hasPrefix_drop (s p : ByteArray) (a : Nat) (h : a ≤ s.size) : Lib.hasPrefix (s.extract a s.size).data.toList p.data.toList = Lib.hasPrefix (s.data.toList.drop a) p.data.toList := by
  congr 1
  simp [ByteArray.data_extract]
  exact List.take_of_length_le (by simp)
theorem prefix_call (p : ByteArray) (a : Nat) (ha : a ≤ s.size) (b : Bool) (hp : Lib.hasPrefix (s.data.toList.drop a) p.data.toList = b) :
    Calls Tryd.prog 75 #[.string (s.extract a s.size), .string p] w fun e w' => e = .returned (.bool b) ∧ w' = w := by
  have h := Tryd.strings_HasPrefix (s.extract a s.size) p w
  rw [hasPrefix_drop s p a ha, hp] at h
  exact h
set_option maxHeartbeats 800000 in
theorem take_no (p : ByteArray) (a : Nat) (h : Cur w c s a) (ha : a ≤ s.size) (hp : Lib.hasPrefix (s.data.toList.drop a) p.data.toList = false) :
    Calls Tryd.prog 48 #[.pointer (some ⟨c, 0, none⟩), .string p] w fun e w' => e = .returned (.bool false) ∧ Drawn0 w w' := by
  have h0 := h.cell 0
  have HP := fun w => Lib.hid (prefix_call w s p a ha false hp)
  have HC := Lib.hid h
  clear h hp
  go_enter Tryd.func48, Tryd.ntmps48
  go_wp2
  go_quiet ((first | (go_at_call 25; exact quiet_eq' (at_calls _ _ _ _ (HC.out.drewN _))) | (go_at_call 75; exact quiet_eq (HP _).out)))
  go_wp2
  go_ret
  exact ⟨rfl, (Drawn0.refl w).step _⟩
set_option maxHeartbeats 800000 in
theorem take_yes (p : ByteArray) (a : Nat) (h : Cur w c s a) (ha : a ≤ s.size) (hs : s.size ≤ 140737488351232) (hp : Lib.hasPrefix (s.data.toList.drop a) p.data.toList = true) :
    Calls Tryd.prog 48 #[.pointer (some ⟨c, 0, none⟩), .string p] w fun e w' => e = .returned (.bool true) ∧ Cur w' c s (a + p.size) ∧ Fr (· = c) w w' := by
  have h0 := h.cell 0
  have h1 := h.cell 1
  have f1 := h.unfrozen 1
  have HP := fun w => Lib.hid (prefix_call w s p a ha true hp)
  have HC := Lib.hid h
  have hl : p.size ≤ s.size - a := by
    have := (List.isPrefixOf_iff_prefix.1 hp).length_le
    simpa using this
  clear h hp
  go_enter Tryd.func48, Tryd.ntmps48
  go_wp2
  go_quiet ((first | (go_at_call 25; exact quiet_eq' (at_calls _ _ _ _ (HC.out.drewN _))) | (go_at_call 75; exact quiet_eq (HP _).out)))
  go_wp2
  go_ret
  exact ⟨rfl, (HC.out.drewN _).put 1 _, ((Fr.refl (· = c) w).drewN _).put (.inl rfl) _⟩
def byteAt (s : ByteArray) (a : Nat) : Int := if h : a < s.size then (s[a].toNat : Int) else 0
theorem byteAt_lt {a : Nat} (h : a < s.size) : byteAt s a = s[a].toNat := by unfold byteAt; rw [dif_pos h]
theorem byteAt_ge {a : Nat} (h : s.size ≤ a) : byteAt s a = 0 := by unfold byteAt; rw [dif_neg (by omega)]
theorem byteAt_bd (a : Nat) : 0 ≤ byteAt s a ∧ byteAt s a < 256 := by
  unfold byteAt
  split
  · have := (s[a]).toNat_lt
    omega
  · omega
theorem peek_calls (a : Nat) (h : Cur w c s a) :
    Calls Tryd.prog 47 #[.pointer (some ⟨c, 0, none⟩)] w fun e w' => e = .returned (.tuple #[.int .u8 (byteAt s a), .bool (decide (a < s.size))]) ∧ Drawn0 w w' := by
  by_cases ha : a < s.size
  · rw [byteAt_lt s ha, decide_eq_true ha]
    exact peek_mid w c s a h ha
  · rw [byteAt_ge s (by omega), decide_eq_false ha]
    exact peek_end w c s a h (by omega)
theorem index_call (set : ByteArray) (k : Nat) (h : k < s.size) :
    Calls Tryd.prog 64 #[.string set, .int .u8 (byteAt s k)] w fun e w' => e = .returned (.int .i64 (Lib.indexByte set.data.toList s[k])) ∧ w = w' := by
  have h1 := Tryd.strings_IndexByte set (byteAt s k) w
  rw [byteAt_lt s h] at h1 ⊢
  have e : ((s[k].toNat : Int)).toNat.toUInt8 = s[k] := by simp
  rw [e] at h1
  exact h1.mono fun _ _ ⟨he, hw⟩ => ⟨he, hw.symm⟩
set_option maxHeartbeats 400000 in
theorem clone_calls (hs : s.size ≤ 281474976710656) :
    Calls Tryd.prog 74 #[.string s] w fun e w' => e = .returned (.string s) ∧ Below w.heap.size w w' := by
  go_enter Tryd.func74, Tryd.ntmps74
  go_wp2_with (go_at_call 86; refine (Tryd.stringslite_Clone _ _ hs).mono ?_; rintro e w1 ⟨rfl, hb⟩)
  go_ret
  exact ⟨rfl, hb⟩
set_option maxHeartbeats 1000000 in
set_option maxRecDepth 100000 in
theorem while_calls (set : ByteArray) (a : Nat) (h : Cur w c s a) (ha : a ≤ s.size) (hs : s.size ≤ 140737488351232) :
    Calls Tryd.prog 46 #[.pointer (some ⟨c, 0, none⟩), .string set] w fun e w' => e = .returned (.string (s.extract a (spanEnd (inSet set) s a))) ∧ Cur w' c s (spanEnd (inSet set) s a) ∧ Fr (· = c) w w' := by
  have h1 := h.cell 1
  have HC := Lib.hid h
  clear h
  go_enter Tryd.func46, Tryd.ntmps46
  go_wp2_with (go_at_call 47; refine (peek_calls _ _ _ _ HC.out).mono ?_; rintro e w1 ⟨rfl, hd1⟩)
  have HD := Lib.hid hd1
  clear hd1
  go_loopg [6, 7] (s.size - a) (fun q b i wr => ∃ k : Nat, q = s.size - k ∧ k ≤ s.size ∧ spanEnd (inSet set) s a = spanEnd (inSet set) s k ∧ b = .int .u8 (byteAt s k) ∧ i = .bool (decide (k < s.size)) ∧ Cur wr c s k ∧ Fr (· = c) w wr)
  case atStart =>
    obtain ⟨n, rfl⟩ := HD.out
    exact ⟨a, rfl, ha, rfl, rfl, rfl, HC.out.drewN _, (Fr.refl _ _).drewN _⟩
  case round =>
    obtain ⟨k, rfl, hk, he, rfl, rfl, hc, hf⟩ := hrel
    have HF := Lib.hid hf
    have HE := Lib.hid he
    have HK := Lib.hid hc
    have h1 := hc.cell 1
    have f1 := hc.unfrozen 1
    clear hf he hc HC HD
    by_cases hlt : k < s.size
    · have hd : decide (k < s.size) = true := decide_eq_true hlt
      by_cases hin : inSet set s[k] = true
      · have hb : decide (0 ≤ Lib.indexByte set.data.toList s[k]) = true := (indexByte_in _ _).trans hin
        go_wp2_with (first | (go_at_call 64; refine (index_call _ _ set k hlt).mono ?_; rintro e w1 ⟨rfl, rfl⟩) | (go_at_call 47; refine (peek_calls _ _ _ _ (HK.out.put 1 _)).mono ?_; rintro e w1 ⟨rfl, hd1⟩))
        have HD1 := Lib.hid hd1
        clear hd1
        go_roundg (s.size - (k + 1))
        case measure => omega
        case rel =>
          obtain ⟨n, rfl⟩ := HD1.out
          exact ⟨k + 1, rfl, by omega, HE.out.trans (spanEnd_yes _ s k hlt hin), rfl, rfl, ((HK.out.put 1 _).drewN _), ((HF.out.put (.inl rfl) _).drewN _)⟩
      · have hb : decide (0 ≤ Lib.indexByte set.data.toList s[k]) = false := (indexByte_in _ _).trans (by simpa using hin)
        have hak : a ≤ k := by
          have := spanEnd_ge (inSet set) s a
          rw [HE.out, spanEnd_no _ s k hlt (by simpa using hin)] at this
          exact this
        have h0 := HK.out.cell 0
        have HL : Hid ((s.extract a k).size ≤ 281474976710656) := by show (s.extract a k).size ≤ _; rw [ByteArray.size_extract]; omega
        go_wp2_with (go_at_call 64; refine (index_call _ _ set k hlt).mono ?_; rintro e w1 ⟨rfl, rfl⟩)
        go_still_tail 12, (by kernel_rfl)
        change wpList _ _ _ _ _ wr.drew
        go_wp2_with (go_at_call 74; refine (clone_calls _ _ HL.out).mono ?_; rintro e w1 ⟨rfl, hb1⟩)
        go_ret
        have he2 := HE.out.trans (spanEnd_no _ s k hlt (by simpa using hin))
        rw [he2]
        exact ⟨rfl, HK.out.drew.below hb1, (HF.out.drew.trans (Fr.of_below (S := fun _ => False) hb1) (fun _ h => h.elim))⟩
    · have hd : decide (k < s.size) = false := decide_eq_false hlt
      have hak : a ≤ k := by omega
      have h0 := HK.out.cell 0
      have HL : Hid ((s.extract a k).size ≤ 281474976710656) := by show (s.extract a k).size ≤ _; rw [ByteArray.size_extract]; omega
      go_wp2
      go_still_tail 12, (by kernel_rfl)
      change wpList _ _ _ _ _ wr.drew
      go_wp2_with (go_at_call 74; refine (clone_calls _ _ HL.out).mono ?_; rintro e w1 ⟨rfl, hb1⟩)
      go_ret
      have he2 := HE.out.trans (spanEnd_end _ s k (by omega))
      rw [he2]
      exact ⟨rfl, HK.out.drew.below hb1, (HF.out.drew.trans (Fr.of_below (S := fun _ => False) hb1) (fun _ h => h.elim))⟩
end
end Go.Proofs.YtljfcdfdedkajaaDoor.Q
