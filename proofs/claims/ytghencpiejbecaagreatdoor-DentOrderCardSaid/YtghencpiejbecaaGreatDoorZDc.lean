import Derived.Test.YtghencpiejbecaaGreatDoorZDb
import Derived.Test.YtghencpiejbecaaGreatDoorZR
import Derived.Test.YtghencpiejbecaaGreatDoorZDit
set_option linter.unusedVariables false
set_option linter.unusedSimpArgs false
namespace Go.Proofs.YtghencpiejbecaaGreatDoor.Q
open Go.RowKit Go.Proofs.YtghencpiejbecaaGreatDoorW.PrintWords
theorem idx_call (s : ByteArray) (c : UInt8) (w : World) :
    Calls Tryz.prog 47 #[.string s, .int .u8 c.toNat] w fun e w' => e = .returned (.int .i64 (Lib.indexByte s.data.toList c)) ∧ w' = w := by
  have h := Tryz.strings_IndexByte s (c.toNat : Int) w
  have e : ((c.toNat : Int)).toNat.toUInt8 = c := by simp
  rw [e] at h
  exact h
theorem last_get (s : ByteArray) (h : 0 < s.size) (hne : s.data.toList ≠ []) : s.data.toList.getLast hne = s[s.size - 1] := by
  rw [List.getLast_eq_getElem]
  rfl
theorem mayL_eq (s : ByteArray) (h : 0 < s.size) : mayL s.data.toList = (decide (Lib.indexByte [34, 32, 35] s[0] < 0) && (s[s.size - 1] != 32) && !Lib.contains s.data.toList [32, 35] && !decide (0 ≤ Lib.indexByte s.data.toList 10)) := by
  obtain ⟨⟨l⟩⟩ := s
  cases l with
  | nil => exact absurd h (by decide)
  | cons b t =>
    show (decide _ && ((b :: t).getLast _ != 32) && _ && _) = _
    rw [last_get ⟨⟨b :: t⟩⟩ h (by simp)]
    rfl
set_option maxHeartbeats 1000000 in
set_option maxRecDepth 100000 in
theorem may_calls (s : ByteArray) (w : World) (hs : s.size ≤ 8000) (hG : GL w) :
    Calls Tryz.prog 24 #[.string s] w fun e w' => e = .returned (.bool (mayL s.data.toList)) ∧ w' = w := by
  obtain ⟨m, hm⟩ := hG.maxLen
  by_cases h0 : 0 < s.size
  · have HI := Lib.hid (idx_call ⟨#[34, 32, 35]⟩ s[0] w)
    have H1 := Lib.hid (Tryz.strings_Contains s ⟨#[32, 35]⟩ m w (by omega) hm)
    have H2 := Lib.hid (Tryz.strings_Contains_one s 10 w)
    have HE := Lib.hid (mayL_eq s h0)
    generalize mayL s.data.toList = R at *
    have hne : s.toList.isEmpty = false := by
      rw [Lib.toList_data]
      obtain ⟨⟨l⟩⟩ := s
      cases l with
      | nil => exact absurd h0 (by decide)
      | cons b t => rfl
    clear hm hG
    generalize Lib.contains s.data.toList [32, 35] = c1 at *
    generalize decide (0 ≤ Lib.indexByte s.data.toList 10) = c2 at *
    generalize Lib.indexByte [34, 32, 35] s[0] = k at *
    have hz : IntKind.i64.wrap ((s.size : Int) - 1) = ((s.size - 1 : Nat) : Int) := by rw [IntWalk.i64_in _ ⟨by omega, by omega⟩]; omega
    go_enter Tryz.func24, Tryz.ntmps24
    go_wp2_with (fail)
    refine HI.out.mono ?_
    rintro e w1 ⟨rfl, rfl⟩
    by_cases hk : k < 0
    · rw [decide_eq_true hk, Bool.true_and] at HE
      by_cases hl : s[s.size - 1] = 32
      · have hx : ((s[s.size - 1].toNat : Int)) = 32 := by rw [hl]; rfl
        rw [hl] at HE
        go_wp2_with (fail)
        go_ret
        exact ⟨by rw [HE.out]; rfl, rfl⟩
      · have hx : ¬ ((s[s.size - 1].toNat : Int)) = 32 := fun e => hl (by apply UInt8.toNat.inj; have h10 : (32 : UInt8).toNat = 32 := rfl; omega)
        have hy : (s[s.size - 1] != 32) = true := by simpa using hl
        have HY := Lib.hid (show (((s[s.size - 1].toNat : Int)) != 32) = true by simpa using hx)
        rw [hy, Bool.true_and] at HE
        clear hl hy
        go_wp2_with (fail)
        refine H1.out.mono ?_
        rintro e w2 ⟨rfl, rfl⟩
        cases c1 with
        | true =>
          go_wp2_with (fail)
          go_ret
          exact ⟨by rw [HE.out]; rfl, rfl⟩
        | false =>
          go_wp2_with (fail)
          refine H2.out.mono ?_
          rintro e w2 ⟨rfl, rfl⟩
          go_wp2_with (fail)
          go_ret
          exact ⟨by rw [HE.out]; show Ending.returned (Value.bool (_ && !c2)) = _; rw [HY.out]; rfl, rfl⟩
    · rw [decide_eq_false hk] at HE
      go_wp2_with (fail)
      go_ret
      exact ⟨by rw [HE.out]; rfl, rfl⟩
  · have : s = ⟨#[]⟩ := by
      obtain ⟨⟨l⟩⟩ := s
      cases l with
      | nil => rfl
      | cons b t => exact absurd (Nat.zero_lt_succ _) h0
    subst this
    clear hm hG
    go_enter Tryz.func24, Tryz.ntmps24
    go_wp2_with (fail)
    go_ret
    exact ⟨rfl, rfl⟩
set_option maxHeartbeats 1000000 in
set_option maxRecDepth 100000 in
theorem value_calls (s : ByteArray) (w : World) (hs : s.size ≤ 8000) (hG : GL w) :
    Calls Tryz.prog 93 #[.string s] w fun e w' => e = .returned (.tuple #[.string (ofL (valueL s.data.toList).1), .bool (valueL s.data.toList).2]) ∧ Below w.heap.size w w' := by
  have HU := Lib.hid (unquote_calls w s (by omega))
  have HM := fun w1 hG => Lib.hid (may_calls s w1 hs hG)
  have HV : Hid ((unq s.data.toList = none → valueL s.data.toList = (s.data.toList, mayL s.data.toList)) ∧
    ∀ out used, unq s.data.toList = some (out, used) → valueL s.data.toList = if used = s.size then (out, true) else (s.data.toList, mayL s.data.toList)) := Lib.hid (by
      refine ⟨fun h => ?_, fun out used h => ?_⟩
      · unfold valueL
        rw [h]
      · unfold valueL
        rw [h]
        simp)
  have HG := Lib.hid hG
  have HO := Lib.hid (ofL_of s)
  have hb := fun r => unq_bound s.data.toList r
  have hz : s.data.toList.length = s.size := by simp
  clear hG
  generalize valueL s.data.toList = V at *
  generalize mayL s.data.toList = M at *
  go_enter Tryz.func93, Tryz.ntmps93
  go_wp2_with (fail)
  refine HU.out.mono ?_
  rintro e w1 ⟨rfl, hb1⟩
  have HB := Lib.hid hb1
  have HM1 := HM w1 (HG.out.below0 hb1)
  clear hb1 HM
  cases hu : unq s.data.toList with
  | none =>
    have HV := Lib.hid (HV.out.1 hu)
    simp only [unqRes]
    clear hu hb
    go_wp2_with (fail)
    refine HM1.out.mono ?_
    rintro e w2 ⟨rfl, rfl⟩
    go_wp2_with (fail)
    go_ret2
    exact ⟨by rw [HV.out]; show _ = Ending.returned (.tuple #[.string (ofL s.data.toList), .bool M]); rw [HO.out]; rfl, HB.out⟩
  | some r =>
    obtain ⟨out, used⟩ := r
    have hub := (hb _ hu).1
    have HV := Lib.hid (HV.out.2 _ _ hu)
    simp only [unqRes]
    clear hu hb
    simp only at hub
    by_cases he : used = s.size
    · rw [if_pos he] at HV
      have he' : ((used : Int)) = (s.size : Int) := by omega
      go_wp2_with (fail)
      go_ret2
      exact ⟨by rw [HV.out]; rfl, HB.out⟩
    · rw [if_neg he] at HV
      have he' : ¬ ((used : Int)) = (s.size : Int) := by omega
      go_wp2_with (fail)
      refine HM1.out.mono ?_
      rintro e w2 ⟨rfl, rfl⟩
      go_wp2_with (fail)
      go_ret2
      exact ⟨by rw [HV.out]; show _ = Ending.returned (.tuple #[.string (ofL s.data.toList), .bool M]); rw [HO.out]; rfl, HB.out⟩
theorem names_call (b1 : Nat) (x : ByteArray) (w : World) (h : Blk w b1 9 #[.string wordRoot, .string wordVersion, .string wordRev, .string wordWithin, .string wordSource]) :
    Calls Tryz.prog 61 #[.slice (some ⟨b1, 0, none⟩) 5 5, .string x] w fun e w' => e = .returned (.bool (Lib.containsS names x)) ∧ w' = w :=
  Tryz.slices_Contains_string b1 0 5 5 names x w (by decide) (by decide) (by
    intro j hj
    have := h.cell j
    rw [Nat.zero_add, this]
    have hj' : j < 5 := hj
    rcases j with _ | _ | _ | _ | _ | j
    all_goals first | rfl | omega)
theorem below_alloc1 {w w' : World} {o : Obj} (h : Below (w.alloc o).heap.size (w.alloc o) w') : Below w.heap.size w w' :=
  below_then ((Below.refl _ w).alloc (Nat.le_refl _) o) (by simp) h
def PairRel (x : List UInt8) (k v : ByteArray) (is : Bool) : Prop := match pairL x with | none => is = false | some (k', v') => is = true ∧ k = k' ∧ v = ofL v'
set_option maxHeartbeats 1000000 in
set_option maxRecDepth 100000 in
theorem pair_calls (x : ByteArray) (w : World) (hs : x.size ≤ 8000) (hG : GL w) :
    Calls Tryz.prog 60 #[.string x] w fun e w' => ∃ k v is, e = .returned (.tuple #[.string k, .string v, .bool is]) ∧ PairRel x.data.toList k v is ∧ Below w.heap.size w w' := by
  obtain ⟨m, hm⟩ := hG.maxLen
  have HC := Lib.hid (Tryz.strings_Cut x ⟨#[58, 32]⟩ m w (by omega) hm)
  have HP : Hid (∀ k v is, (if (Lib.cut x.data.toList [58, 32]).2.2 = true ∧ Lib.containsS names ⟨(Lib.cut x.data.toList [58, 32]).1.toArray⟩ = true then
      if (valueL (Lib.cut x.data.toList [58, 32]).2.1).2 = true then is = true ∧ k = ⟨(Lib.cut x.data.toList [58, 32]).1.toArray⟩ ∧ v = ofL (valueL (Lib.cut x.data.toList [58, 32]).2.1).1 else is = false else is = false) → PairRel x.data.toList k v is) := Lib.hid (by
    intro k v is h
    unfold PairRel pairL
    split at h
    · rename_i h1
      rw [if_pos h1]
      split at h
      · rename_i h2
        rw [if_pos h2]
        exact h
      · rename_i h2
        rw [if_neg h2]
        exact h
    · rename_i h1
      rw [if_neg h1]
      exact h)
  have hz := (cut_len x.data.toList [58, 32]).2
  have hxl : x.data.toList.length = x.size := by simp
  have HG := Lib.hid hG
  clear hG hm
  generalize hc : Lib.cut x.data.toList [58, 32] = c at *
  obtain ⟨c1, c2, c3⟩ := c
  simp only at HC HP hz
  have HV := fun w1 hG => Lib.hid (value_calls (ofL c2) w1 (by show c2.length ≤ 8000; omega) hG)
  rw [ofL_data] at HV
  generalize valueL c2 = V at *
  have HK := fun b1 w h => Lib.hid (names_call b1 ⟨c1.toArray⟩ w h)
  generalize Lib.containsS names ⟨c1.toArray⟩ = N at *
  clear hc hz
  go_enter Tryz.func60, Tryz.ntmps60
  go_wp2_with (fail)
  refine HC.out.mono ?_
  rintro e w1 ⟨rfl, n, rfl⟩
  go_wp2_with (fail)
  refine (fields_calls _ _ 0).mono ?_
  rintro e w4 ⟨b1, b2, rfl, hb1, hb2, hb12, hk1, hk2, hbl4⟩
  have hbl : Below w.heap.size w w4 := by
    have h := below_alloc1 hbl4
    exact ⟨h.os, h.tape, h.output, h.size, h.block⟩
  have HB := Lib.hid hbl
  have HK1 := HK b1 w4 hk1
  have HV1 := HV w4 (HG.out.below0 hbl)
  have hws : w.heap.size ≤ w4.heap.size := hbl.size
  have HWS := Lib.hid hws
  clear hbl4 hk1 hk2 hb1 hb2 hb12 HV HK hbl hws
  cases c3 with
  | false =>
    go_wp2_with (fail)
    go_ret3
    exact ⟨_, _, _, rfl, HP.out _ _ _ (by rw [if_neg (by simp)]), HB.out⟩
  | true =>
    go_wp2_with (fail)
    refine HK1.out.mono ?_
    rintro e w5 ⟨rfl, rfl⟩
    cases N with
    | false =>
      go_wp2_with (fail)
      go_ret3
      exact ⟨_, _, _, rfl, HP.out _ _ _ (by rw [if_neg (by simp)]), HB.out⟩
    | true =>
      go_wp2_with (fail)
      refine HV1.out.mono ?_
      rintro e w6 ⟨rfl, hb6⟩
      have HB6 := Lib.hid (below_then HB.out HWS.out hb6)
      clear hb6
      go_wp2_with (fail)
      go_ret3
      refine ⟨_, _, _, rfl, HP.out _ _ _ ?_, HB6.out⟩
      rw [if_pos (by simp)]
      obtain ⟨v, is⟩ := V
      cases is
      · rfl
      · rw [if_pos rfl]
        exact ⟨rfl, rfl, rfl⟩
theorem badAt_cons (b : UInt8) (t : List UInt8) : badAt (b :: t) = if plainB b = true then (badAt t).map (· + 1) else some 0 := rfl
theorem bad_at (s : ByteArray) (hs : s.size ≤ 8000) : ∀ (d k i : Nat), s.size = i + d → d + 2 < k → R.dent_bad.l0 k s (s.size : Int) (i : Int) = some (match badAt (s.data.toList.drop i) with | some j => ((i + j : Nat) : Int) | none => -1)
  | 0, k, i, hd, hk => by
    obtain ⟨k, rfl⟩ : ∃ m, k = m + 1 := ⟨k - 1, by omega⟩
    simp only [R.dent_bad.l0]
    rw [if_neg (by omega), List.drop_eq_nil_of_le (by simp; omega)]
    rfl
  | d + 1, k, i, hd, hk => by
    obtain ⟨k, rfl⟩ : ∃ m, k = m + 1 := ⟨k - 1, by omega⟩
    have hi : i < s.size := by omega
    have hw : wrap64 ((i : Int) + 1) = ((i + 1 : Nat) : Int) := by unfold wrap64; omega
    have hx : (s.extract i (i + 1)).data.toList = [s[i]] := by
      rw [ByteArray.data_extract, Array.toList_extract, List.extract_eq_take_drop, drop_at s i hi]
      simp
    have hxs : (s.extract i (i + 1)).size = 1 := by rw [ByteArray.size_extract]; omega
    have hp : R.text_Plain.f k (s.extract i (i + 1)) = some (plainB s[i]) := by
      have h := plain_at (s.extract i (i + 1)) (by omega) 1 k 0 (by omega) (by omega)
      rw [List.drop_zero, hx] at h
      refine Eq.trans h ?_
      simp
    simp only [R.dent_bad.l0]
    rw [if_pos (by omega), if_pos (by omega), hw, if_pos (by omega), if_pos (by omega), Int.toNat_natCast, Int.toNat_natCast, hp, Option.bind_some, drop_at s i hi]
    cases hpl : plainB s[i] with
    | true =>
      rw [if_pos rfl, bad_at s hs d k (i + 1) (by omega) (by omega)]
      rw [badAt_cons, if_pos hpl]
      cases badAt (s.data.toList.drop (i + 1)) with
      | none => rfl
      | some j => simp only [Option.map_some]; congr 2; omega
    | false =>
      rw [if_neg (by simp)]
      rw [badAt_cons, if_neg (by rw [hpl]; simp)]
      rfl
def badI (s : List UInt8) : Int := match badAt s with | some j => (j : Int) | none => -1
theorem bad_calls (s : ByteArray) (w : World) (hl : s.size ≤ 8000) :
    Calls Tryz.prog 28 #[.string s] w fun e w' => e = .returned (.int .i64 (badI s.data.toList)) ∧ Drawn0 w w' := by
  have h := bad_at s hl s.size (s.size + 3) 0 (by omega) (by omega)
  rw [List.drop_zero] at h
  have h2 := R.dent_bad.calls (s.size + 3) s _ w h
  unfold badI
  simpa using h2
end Go.Proofs.YtghencpiejbecaaGreatDoor.Q
