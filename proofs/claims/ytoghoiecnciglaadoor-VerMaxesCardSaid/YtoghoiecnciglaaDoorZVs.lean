import Derived.Test.YtoghoiecnciglaaDoorZVb
import Derived.Shelf.Strings.SlTrimAscii
namespace Go.Proofs.YtoghoiecnciglaaDoor.Q
open Go.RowKit Go.Proofs.YtoghoiecnciglaaDoorW.PrintWords
theorem grow_below (w : World) (k : Nat) (os : Array Obj) : Below w.heap.size w (Go.Sort.grow (w.drewN k) os) :=
  ⟨rfl, rfl, rfl, by rw [Go.Sort.size_grow]; exact Nat.le_add_right _ _, fun i hi => by
    show (w.heap ++ os)[i]? = _
    rw [Array.getElem?_append_left hi]⟩
def strconv_Itoa.f (a0 : Int) : Option ByteArray := if -9223372036854775808 ≤ a0 ∧ a0 ≤ 9223372036854775807 then some ⟨(Lib.itoa a0).toArray⟩ else none
theorem strconv_Itoa.calls (a0 : Int) (r : ByteArray) (w : World) (hG : GL w) (h : strconv_Itoa.f a0 = some r) :
    Calls Tryd.prog 21 #[.int .i64 a0] w fun e w' => e = .returned (.string r) ∧ Below w.heap.size w w' := by
  unfold strconv_Itoa.f at h
  split at h
  · next hb =>
    obtain rfl := Option.some.inj h
    refine (Tryd.strconv_Itoa a0 hb.1 hb.2 w hG.pow).mono ?_
    rintro e w' ⟨he, k, os, rfl⟩
    exact ⟨he, grow_below w k os⟩
  · cases h
def strconv_Atoi.f (a0 : ByteArray) : Option (Int × Option Int) := if a0.size ≤ 18 then (Lib.atoi a0.data.toList).map fun n => (n, none) else none
def strings_Clone.f (a0 : ByteArray) : Option ByteArray := if a0.size ≤ 281474976710656 then some a0 else none
theorem strings_Clone.calls (a0 : ByteArray) (r : ByteArray) (w : World) (h : strings_Clone.f a0 = some r) :
    Calls Tryd.prog 19 #[.string a0] w fun e w' => e = .returned (.string r) ∧ Below w.heap.size w w' := by
  unfold strings_Clone.f at h
  split at h
  · next hs =>
    obtain rfl := Option.some.inj h
    go_enter Tryd.func19, Tryd.ntmps19
    go_wp2_with (fail)
    refine (Tryd.stringslite_Clone a0 w hs).mono ?_
    rintro e w1 ⟨rfl, hb⟩
    have HB := Lib.hid hb
    clear hb
    go_wp2_with (fail)
    go_ret
    exact ⟨rfl, HB.out⟩
  · cases h
theorem strconv_Atoi.calls (a0 : ByteArray) (r1 : Int) (r2 : Option Int) (w : World) (h : strconv_Atoi.f a0 = some (r1, r2)) :
    Calls Tryd.prog 25 #[.string a0] w fun e w' => e = .returned (.tuple #[.int .i64 r1, .nilIface]) ∧ r2 = none ∧ Below w.heap.size w w' := by
  unfold strconv_Atoi.f at h
  split at h
  · next hs =>
    obtain ⟨n, hn, he⟩ := Option.map_eq_some_iff.1 h
    injection he with h1 h2
    subst h1 h2
    refine (Tryd.strconv_Atoi a0 n hs hn w).mono ?_
    rintro e w' ⟨he, t, rfl⟩
    exact ⟨he, rfl, bytes_below (Below.refl _ w) (Nat.le_refl _) _ _⟩
  · cases h
def ver_only.f (a0 : ByteArray) (a1 : ByteArray) : Option Bool := if a0.size ≤ 1000000 ∧ a1.size ≤ 1000 ∧ a1.data.toList.all (fun b => decide (b.toNat < 128)) = true then some (!(a0.data.toList == []) && a0.data.toList.all (a1.data.toList.contains ·)) else none
theorem dropWhile_nil {p : UInt8 → Bool} : ∀ l : List UInt8, l.dropWhile p = [] ↔ l.all p = true
  | [] => by simp
  | x :: l => by
    rw [List.dropWhile_cons, List.all_cons]
    cases h : p x with
    | true => simp only [if_true, Bool.true_and]; exact dropWhile_nil l
    | false => simp
theorem all_dropWhile {p : UInt8 → Bool} : ∀ l : List UInt8, (l.dropWhile p).all p = l.all p
  | [] => rfl
  | x :: l => by
    rw [List.dropWhile_cons, List.all_cons]
    cases h : p x with
    | true => simp only [if_true, Bool.true_and]; exact all_dropWhile l
    | false => simp only [Bool.false_and]; rw [if_neg (by simp), List.all_cons, h]; rfl
theorem trim_nil (l cs : List UInt8) : (Lib.trimS l cs).isEmpty = l.all (cs.contains ·) := by
  have h : Lib.trimS l cs = [] ↔ l.all (cs.contains ·) = true := by
    unfold Lib.trimS Lib.trimLeftS Lib.trimRightS
    rw [dropWhile_nil, List.all_reverse, all_dropWhile, List.all_reverse]
  cases ha : l.all (cs.contains ·) with
  | true => rw [h.2 ha]; rfl
  | false =>
    cases hb : Lib.trimS l cs with
    | nil => rw [h.1 hb] at ha; cases ha
    | cons => rfl
theorem ver_only.calls (a0 : ByteArray) (a1 : ByteArray) (r : Bool) (w : World) (h : ver_only.f a0 a1 = some r) :
    Calls Tryd.prog 24 #[.string a0, .string a1] w fun e w' => e = .returned (.bool r) ∧ Below w.heap.size w w' := by
  unfold ver_only.f at h
  split at h
  · next hs =>
    obtain rfl := Option.some.inj h
    obtain ⟨hs0, hs1, hs2⟩ := hs
    have hT : Calls Tryd.prog 39 #[.string a0, .string a1] w fun e w' => e = .returned (.string (bs (Lib.trimS a0.data.toList a1.data.toList))) ∧ Below w.heap.size w w' := Any.strings_Trim_laid Tryd.lays160 (by kernel_rfl) a0 a1 w (by omega) (by omega) (ascii_of_all hs2)
    have hN := trim_nil a0.data.toList a1.data.toList
    generalize Lib.trimS a0.data.toList a1.data.toList = t at *
    have hR : (!(a0.data.toList == []) && a0.data.toList.all (a1.data.toList.contains ·)) = (!a0.toList.isEmpty && t.isEmpty) := by
      rw [hN, ← Lib.toList_data]
      cases h : a0.toList <;> simp
    rw [hR]
    clear hR hN
    have HT := Lib.hid hT
    clear hT hs2
    cases h0 : a0.toList.isEmpty with
    | true =>
      rw [Bool.not_true, Bool.false_and]
      go_enter Tryd.func24, Tryd.ntmps24
      go_wp2_with (fail)
      go_ret
      exact ⟨rfl, Below.refl _ _⟩
    | false =>
      rw [Bool.not_false, Bool.true_and]
      have HB := Lib.hid (toList_bs t)
      go_enter Tryd.func24, Tryd.ntmps24
      go_wp2_with (fail)
      refine HT.out.mono ?_
      rintro e w1 ⟨rfl, hb⟩
      have HBL := Lib.hid hb
      clear hb
      go_wp2_with (fail)
      go_ret
      exact ⟨by simp [toList_bs], HBL.out⟩
  · cases h
def ver_Right.f (a0_0 : Int) (a0_1 : Int) (a0_2 : Int) (a0_3 : ByteArray) : Option Bool := if a0_3.size ≤ 1000000 then some (rightV a0_0 a0_1 a0_2 a0_3.data.toList) else none
theorem ver_Right.calls (a0_0 : Int) (a0_1 : Int) (a0_2 : Int) (a0_3 : ByteArray) (r : Bool) (w : World) (hG : GL w) (h : ver_Right.f a0_0 a0_1 a0_2 a0_3 = some r) :
    Calls Tryd.prog 13 #[.agg #[.int .i64 a0_0, .int .i64 a0_1, .int .i64 a0_2, .string a0_3]] w fun e w' => e = .returned (.bool r) ∧ Below w.heap.size w w' := by
  unfold ver_Right.f at h
  split at h
  · next hs =>
    obtain rfl := Option.some.inj h
    exact right_calls w a0_0 a0_1 a0_2 a0_3 hs hG
  · cases h
def ver_ahead.f (a0 : ByteArray) (a1 : ByteArray) : Option Int := if a0.size ≤ 900000 ∧ a1.size ≤ 900000 then some (aheadI a0.data.toList a1.data.toList) else none
theorem ver_ahead.calls (a0 : ByteArray) (a1 : ByteArray) (r : Int) (w : World) (hG : GL w) (h : ver_ahead.f a0 a1 = some r) :
    Calls Tryd.prog 28 #[.string a0, .string a1] w fun e w' => e = .returned (.int .i64 r) ∧ Below w.heap.size w w' := by
  unfold ver_ahead.f at h
  split at h
  · next hs =>
    obtain rfl := Option.some.inj h
    exact ahead_calls w a0 a1 (by omega) (by omega) hG
  · cases h
end Go.Proofs.YtoghoiecnciglaaDoor.Q
