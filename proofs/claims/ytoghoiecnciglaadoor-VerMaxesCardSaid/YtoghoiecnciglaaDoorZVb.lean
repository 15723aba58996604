import Derived.Test.YtoghoiecnciglaaDoorZVa
import Derived.Test.YtoghoiecnciglaaDoorZCmp
namespace Go.Proofs.YtoghoiecnciglaaDoor.Q
open Go.RowKit Go.Proofs.YtoghoiecnciglaaDoorW.PrintWords
def cmpI (a b : Int) : Int := if a < b then -1 else if a > b then 1 else 0
def cmpBs (x y : List UInt8) : Int := if Op.bytesLess x y = true then -1 else if (x == y) = true then 0 else 1
def wordsI (x y : List UInt8) : Int :=
  if allL x = true then
    if allL y = true then (if cmpI x.length y.length = 0 then cmpBs x y else cmpI x.length y.length) else -1
  else if allL y = true then 1 else cmpBs x y
def rowsI : List (List UInt8) → List (List UInt8) → Int
  | [], [] => 0
  | [], _ :: _ => -1
  | _ :: _, [] => 1
  | x :: l, y :: m => if wordsI x y = 0 then rowsI l m else wordsI x y
def aheadI (x y : List UInt8) : Int := if (x == y) = true then 0 else if (x == []) = true then 1 else if (y == []) = true then -1 else rowsI (parts 46 x) (parts 46 y)
theorem cmpS_list (a b : ByteArray) : R.cmpS a b = cmpBs a.data.toList b.data.toList := by
  unfold R.cmpS cmpBs
  rw [Lib.toList_data, Lib.toList_data]
theorem cmpInt_f (a b : Int) : R.cmp_Compare_int.f a b = some (cmpI a b) := by
  unfold R.cmp_Compare_int.f R.cmp_isNaN_int.f cmpI
  simp only [bne_self_eq_false, Option.bind_some, if_neg (show ¬ (false = true) by simp)]
  split
  · rfl
  · split <;> rfl
theorem or_two (x y : Int) (k : Nat) (hk : 3 ≤ k) : R.cmp_Or_int.f k [x, y] = some (if x = 0 then y else x) := by
  obtain ⟨k, rfl⟩ : ∃ m, k = m + 3 := ⟨k - 3, by omega⟩
  unfold R.cmp_Or_int.f
  have w1 : wrap64 ((0 : Int) + 1) = 1 := by unfold wrap64; omega
  have w2 : wrap64 ((1 : Int) + 1) = 2 := by unfold wrap64; omega
  have r0 : rd [x, y] 0 = x := rfl
  have r1 : rd [x, y] 1 = y := rfl
  rw [R.cmp_Or_int.l0.eq_2, if_pos (by show (0 : Int) < ((2 : Nat) : Int); decide), if_pos (by decide), if_pos (by show (0 : Int) < ((2 : Nat) : Int); decide), r0, w1]
  by_cases h : x = 0
  · rw [if_pos h, if_pos h, R.cmp_Or_int.l0.eq_2, if_pos (by show (1 : Int) < ((2 : Nat) : Int); decide), if_pos (by decide), if_pos (by show (1 : Int) < ((2 : Nat) : Int); decide), r1, w2]
    by_cases h2 : y = 0
    · rw [if_pos h2, R.cmp_Or_int.l0.eq_2, if_neg (by show ¬ (2 : Int) < ((2 : Nat) : Int); decide), h2]
    · rw [if_neg h2]
  · rw [if_neg h, if_neg h]
theorem words_f (a b : ByteArray) (ha : a.size ≤ 140737488351232) (hb : b.size ≤ 140737488351232) : R.ver_words.f (a.size + b.size + 10) a b = some (wordsI a.data.toList b.data.toList) := by
  unfold R.ver_words.f wordsI
  rw [all_f a ha _ (by omega), Option.bind_some, all_f b hb _ (by omega), Option.bind_some]
  have hj : ∀ (p q z : Bool), R.ver_words.j0 (a.size + b.size + 10) a b p q z = if z = true then some (if cmpI a.size b.size = 0 then cmpBs a.data.toList b.data.toList else cmpI a.size b.size) else if p = true then some (-1) else if q = true then some 1 else some (cmpBs a.data.toList b.data.toList) := by
    intro p q z
    rw [R.ver_words.j0.eq_2, cmpInt_f, Option.bind_some]
    have hc : R.cmp_Compare_string.f a b = some (cmpBs a.data.toList b.data.toList) := by unfold R.cmp_Compare_string.f; rw [cmpS_list]
    rw [hc, Option.bind_some, or_two _ _ _ (by omega), Option.bind_some, Option.bind_some]
  rw [hj, hj]
  have l1 : (a.data.toList.length : Int) = a.size := rfl
  have l2 : (b.data.toList.length : Int) = b.size := rfl
  rw [l1, l2]
  cases allL a.data.toList <;> cases allL b.data.toList <;> simp <;> split <;> rfl
theorem words_calls (x y : List UInt8) (w : World) (hx : x.length ≤ 1000000) (hy : y.length ≤ 1000000) :
    Calls Tryd.prog 44 #[.string (bs x), .string (bs y)] w fun e w' => e = .returned (.int .i64 (wordsI x y)) ∧ Below w.heap.size w w' := by
  have h := words_f (bs x) (bs y) (by rw [size_bs]; omega) (by rw [size_bs]; omega)
  rw [data_bs, data_bs] at h
  exact R.ver_words.calls _ _ _ _ w h
section
variable (w : World)
theorem rowsI_drop (l m : List (List UInt8)) (j : Nat) (hj : j < l.length) (hk : j < m.length) : rowsI (l.drop j) (m.drop j) = if wordsI l[j] m[j] = 0 then rowsI (l.drop (j + 1)) (m.drop (j + 1)) else wordsI l[j] m[j] := by
  rw [List.drop_eq_getElem_cons hj, List.drop_eq_getElem_cons hk]
  rfl
theorem rowsI_more (l m : List (List UInt8)) (j : Nat) (hj : j < l.length) (hk : m.length ≤ j) : rowsI (l.drop j) (m.drop j) = 1 := by
  rw [List.drop_eq_getElem_cons hj, List.drop_eq_nil_of_le hk]
  rfl
set_option maxHeartbeats 1000000 in
theorem compare_calls (q c r d : Nat) (l m : List (List UInt8)) (hl : StrsAt w q l) (hm : StrsAt w r m) (hq : q < w.heap.size) (hr : r < w.heap.size) (hlz : l.length ≤ 1000000) (hmz : m.length ≤ 1000000) (hz : ∀ x ∈ l, x.length ≤ 1000000) (hy : ∀ x ∈ m, x.length ≤ 1000000) :
    Calls Tryd.prog 43 #[.slice (some ⟨q, 0, none⟩) l.length c, .slice (some ⟨r, 0, none⟩) m.length d, .func (.func 44) #[] #[]] w
      fun e w' => e = .returned (.int .i64 (rowsI l m)) ∧ Below w.heap.size w w' := by
  have HL := Lib.hid hl
  have HM := Lib.hid hm
  have HZ := Lib.hid hz
  have HY := Lib.hid hy
  have HQ := Lib.hid hq
  have HR := Lib.hid hr
  clear hl hm hz hy hq hr
  go_enter Tryd.func43, Tryd.ntmps43
  go_wp2_with (fail)
  go_loopg [13] (l.length) (fun q' i wr => ∃ j : Nat, q' = l.length - j ∧ j ≤ l.length ∧ j ≤ m.length ∧ i = .int .i64 j ∧ rowsI l m = rowsI (l.drop j) (m.drop j) ∧ Below w.heap.size w wr)
  case atStart => exact ⟨0, by omega, Nat.zero_le _, Nat.zero_le _, rfl, by simp, Below.refl _ _⟩
  case round =>
    obtain ⟨j, rfl, hj, hj2, rfl, he, hb⟩ := hrel
    have HE := Lib.hid he
    have HB := Lib.hid hb
    clear he hb
    by_cases hlt : j < l.length
    · by_cases hlm : j < m.length
      · have c0 : wr.cell? ⟨q, j, none⟩ = some (.string (bs l[j])) := (HL.out.below HB.out HQ.out) j hlt
        have c1 : wr.cell? ⟨r, j, none⟩ = some (.string (bs m[j])) := (HM.out.below HB.out HR.out) j hlm
        have HD := Lib.hid (rowsI_drop l m j hlt hlm)
        have HX := Lib.hid (HZ.out l[j] (List.getElem_mem hlt))
        have HX2 := Lib.hid (HY.out m[j] (List.getElem_mem hlm))
        have hd : decide (m.length ≤ j) = false := decide_eq_false (by omega)
        generalize l[j] = x at *
        generalize m[j] = y at *
        go_wp2_with (fail)
        refine (words_calls x y _ HX.out HX2.out).mono ?_
        rintro e w1 ⟨rfl, hb1⟩
        have HB1 := Lib.hid (below_then HB.out HB.out.size hb1)
        clear hb1
        by_cases h0 : wordsI x y = 0
        · have HD2 := Lib.hid (HD.out.trans (if_pos h0))
          have hbb : (wordsI x y != 0) = false := by simpa using h0
          have H0 := Lib.hid h0
          clear h0
          go_wp2_with (fail)
          go_roundg (l.length - (j + 1))
          case measure => omega
          case rel => exact ⟨j + 1, rfl, by omega, by omega, rfl, HE.out.trans HD2.out, HB1.out⟩
        · have HD2 := Lib.hid (HD.out.trans (if_neg h0))
          have hbb : (wordsI x y != 0) = true := by simpa using h0
          have H0 := Lib.hid h0
          clear h0
          go_wp2_with (fail)
          go_ret
          exact ⟨by rw [HE.out, HD2.out]; rfl, HB1.out⟩
      · have HD := Lib.hid (rowsI_more l m j hlt (by omega))
        have c0 : wr.cell? ⟨q, j, none⟩ = some (.string (bs l[j])) := (HL.out.below HB.out HQ.out) j hlt
        generalize l[j] = x at *
        have hd : decide (m.length ≤ j) = true := decide_eq_true (by omega)
        go_wp2_with (fail)
        go_ret
        exact ⟨by rw [HE.out, HD.out]; rfl, HB.out⟩
    · have hje : j = l.length := by omega
      by_cases hlm : l.length < m.length
      · have HD := Lib.hid (show rowsI (l.drop j) (m.drop j) = -1 from by
          rw [List.drop_eq_nil_of_le (by omega), List.drop_eq_getElem_cons (by omega)]
          rfl)
        have hd : decide (l.length < m.length) = true := decide_eq_true hlm
        clear hje
        go_wp2_with (fail)
        go_ret
        exact ⟨by rw [HE.out, HD.out]; rfl, HB.out⟩
      · have HD := Lib.hid (show rowsI (l.drop j) (m.drop j) = 0 from by
          rw [List.drop_eq_nil_of_le (by omega), List.drop_eq_nil_of_le (by omega)]
          rfl)
        have hd : decide (l.length < m.length) = false := decide_eq_false hlm
        clear hje
        go_wp2_with (fail)
        go_ret
        exact ⟨by rw [HE.out, HD.out]; rfl, HB.out⟩
set_option maxHeartbeats 1000000 in
set_option maxRecDepth 100000 in
theorem ahead_calls (a b : ByteArray) (ha : a.size ≤ 1000000 - 1) (hb : b.size ≤ 1000000 - 1) (hG : GL w) :
    Calls Tryd.prog 28 #[.string a, .string b] w fun e w' => e = .returned (.int .i64 (aheadI a.data.toList b.data.toList)) ∧ Below w.heap.size w w' := by
  have HG := Lib.hid hG
  clear hG
  cases h1 : (a.toList == b.toList) with
  | true =>
    have HV := Lib.hid (show aheadI a.data.toList b.data.toList = 0 from by unfold aheadI; rw [if_pos (by rw [← Lib.toList_data, ← Lib.toList_data]; exact h1)])
    go_enter Tryd.func28, Tryd.ntmps28
    go_wp2_with (fail)
    go_ret
    exact ⟨by rw [HV.out]; rfl, Below.refl _ _⟩
  | false =>
    have n1 : ¬ (a.data.toList == b.data.toList) = true := by rw [← Lib.toList_data, ← Lib.toList_data, h1]; simp
    cases h2 : a.toList.isEmpty with
    | true =>
      have HV := Lib.hid (show aheadI a.data.toList b.data.toList = 1 from by unfold aheadI; rw [if_neg n1, if_pos (by rw [← Lib.toList_data]; cases h : a.toList <;> simp_all)])
      clear n1
      go_enter Tryd.func28, Tryd.ntmps28
      go_wp2_with (fail)
      go_ret
      exact ⟨by rw [HV.out]; rfl, Below.refl _ _⟩
    | false =>
      have n2 : ¬ (a.data.toList == []) = true := by rw [← Lib.toList_data]; cases h : a.toList <;> simp_all
      cases h3 : b.toList.isEmpty with
      | true =>
        have HV := Lib.hid (show aheadI a.data.toList b.data.toList = -1 from by unfold aheadI; rw [if_neg n1, if_neg n2, if_pos (by rw [← Lib.toList_data]; cases h : b.toList <;> simp_all)])
        clear n1 n2
        go_enter Tryd.func28, Tryd.ntmps28
        go_wp2_with (fail)
        go_ret
        exact ⟨by rw [HV.out]; rfl, Below.refl _ _⟩
      | false =>
        have n3 : ¬ (b.data.toList == []) = true := by rw [← Lib.toList_data]; cases h : b.toList <;> simp_all
        have HV := Lib.hid (show aheadI a.data.toList b.data.toList = rowsI (parts 46 a.data.toList) (parts 46 b.data.toList) from by unfold aheadI; rw [if_neg n1, if_neg n2, if_neg n3])
        clear n1 n2 n3
        have pl : a.data.toList.length = a.size := rfl
        have ql : b.data.toList.length = b.size := rfl
        have l1 := parts_len 46 a.data.toList
        have l2 := parts_len 46 b.data.toList
        have hl1 : (parts 46 a.data.toList).length ≤ 1000000 := by omega
        have hl2 : (parts 46 b.data.toList).length ≤ 1000000 := by omega
        have HZ := Lib.hid (fun x hx => Nat.le_trans (parts_each 46 a.data.toList x hx) (show a.data.toList.length ≤ 1000000 by omega))
        have HY := Lib.hid (fun x hx => Nat.le_trans (parts_each 46 b.data.toList x hx) (show b.data.toList.length ≤ 1000000 by omega))
        clear pl ql l1 l2
        go_enter Tryd.func28, Tryd.ntmps28
        go_wp2_with (fail)
        refine (split_calls _ a 46 (by omega) HG.out).mono ?_
        rintro e w1 ⟨rfl, rfl⟩
        have hsz : (w.alloc (.cells ((parts 46 a.data.toList).map fun x => Value.string (bs x)).toArray 9)).heap.size = w.heap.size + 1 := by simp
        have HS1 := Lib.hid (StrsAt.new w (parts 46 a.data.toList) 9)
        have HS2 := Lib.hid (StrsAt.new (w.alloc (.cells ((parts 46 a.data.toList).map fun x => Value.string (bs x)).toArray 9)) (parts 46 b.data.toList) 9)
        have HB1 := Lib.hid ((Below.refl _ w).alloc (Nat.le_refl _) (.cells ((parts 46 a.data.toList).map fun x => Value.string (bs x)).toArray 9))
        have HB2 := Lib.hid ((Below.refl _ (w.alloc (.cells ((parts 46 a.data.toList).map fun x => Value.string (bs x)).toArray 9))).alloc (Nat.le_refl _) (.cells ((parts 46 b.data.toList).map fun x => Value.string (bs x)).toArray 9))
        have HG1 := Lib.hid (HG.out.below0 HB1.out)
        have HSZ := Lib.hid hsz
        clear hsz
        go_wp2_with (fail)
        refine (split_calls _ b 46 (by omega) HG1.out).mono ?_
        rintro e w1 ⟨rfl, rfl⟩
        rw [HSZ.out]
        go_wp2_with (fail)
        have s1 := HS1.out.below HB2.out (by rw [HSZ.out]; omega)
        have s2 := HS2.out
        rw [HSZ.out] at s2
        refine (compare_calls _ w.heap.size _ (w.heap.size + 1) _ _ _ s1 s2 (by simp; omega) (by simp) hl1 hl2 HZ.out HY.out).mono ?_
        rintro e w2 ⟨rfl, hb2⟩
        have HB3 := Lib.hid hb2
        clear hb2 s1 s2
        go_wp2_with (fail)
        go_ret
        refine ⟨by rw [HV.out]; rfl, ?_⟩
        exact below_then (below_then HB1.out HB1.out.size HB2.out) (by have h1 := HB1.out.size; have h2 := HB2.out.size; omega) HB3.out
end
end Go.Proofs.YtoghoiecnciglaaDoor.Q
