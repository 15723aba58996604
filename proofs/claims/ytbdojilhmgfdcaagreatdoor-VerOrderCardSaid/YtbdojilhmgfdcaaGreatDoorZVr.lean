import Derived.Test.YtbdojilhmgfdcaaGreatDoorZVb
import Derived.Sort.Walk0
import Derived.Test.YtbdojilhmgfdcaaGreatDoorZEv
import Derived.Test.YtbdojilhmgfdcaaGreatDoorZQ5
import Derived.Test.YtbdojilhmgfdcaaGreatDoorZQ12
namespace Go.Proofs.YtbdojilhmgfdcaaGreatDoor.Q
open Go.RowKit Go.Proofs.YtbdojilhmgfdcaaGreatDoorW.PrintWords Go.Proofs.YtbdojilhmgfdcaaGreatDoorW.PrintLast Go.Proofs.YtbdojilhmgfdcaaGreatDoorW.PrintMore
theorem rdigit_f (b : UInt8) : transhumanceref2_digit.f (b.toNat : Int) = some (digitB b) := by
  unfold transhumanceref2_digit.f
  by_cases h : (b.toNat : Int) ≥ 48
  · rw [if_pos h]
    congr 1
    rw [Bool.eq_iff_iff, digit_int, decide_eq_true_eq]
    omega
  · rw [if_neg h]
    congr 1
    cases hd : digitB b with
    | false => rfl
    | true => rw [digit_int] at hd; omega
theorem rdigits_l0 (s : ByteArray) (hs : s.size ≤ 140737488351232) : ∀ (d i : Nat), i + d = s.size → Ev (fun k => transhumanceref2_digits.l0 k s i) ((s.data.toList.drop i).all digitB && !(s.data.toList == []))
  | 0, i, hd => by
    refine Ev.step (fun _ => transhumanceref2_digits.l0.eq_2 ..) (Ev.neg (by omega) (Ev.ret ?_))
    rw [List.drop_eq_nil_of_le (by simp; omega), ← Lib.toList_data]
    cases s.toList <;> rfl
  | d + 1, i, hd => by
    have hi : i < s.size := by omega
    have hw : wrap64 ((i : Int) + 1) = ((i + 1 : Nat) : Int) := wrap_in (by omega) (by omega)
    refine Ev.step (fun _ => transhumanceref2_digits.l0.eq_2 ..) (Ev.pos (by omega) (Ev.pos (by omega) ?_))
    rw [bt_int s i hi, hw, drop_byte s i hi, List.all_cons]
    refine Ev.val (rdigit_f s[i]) ?_
    cases hb : digitB s[i] with
    | false => exact Ev.neg (by simp) (Ev.now _)
    | true =>
      rw [Bool.true_and]
      exact Ev.pos rfl (rdigits_l0 s hs d (i + 1) (by omega))
theorem rdigits_ev2 (s : ByteArray) (hs : s.size ≤ 140737488351232) : Ev (fun k => transhumanceref2_digits.f k s) (allL s.data.toList) := by
  have := rdigits_l0 s hs s.size 0 (by omega)
  rw [List.drop_zero] at this
  exact this
theorem rdigits_calls (s : ByteArray) (hs : s.size ≤ 140737488351232) (w : World) : Calls Tryz.prog 54 #[.string s] w fun e w' => e = .returned (.bool (allL s.data.toList)) ∧ Drawn0 w w' := by
  obtain ⟨K, h⟩ := rdigits_ev2 s hs
  exact transhumanceref2_digits.calls K _ _ w (h K (Nat.le_refl _))
theorem rsign_f (a b : Int) : transhumanceref2_sign.f a b = some (cmpI a b) := by
  unfold transhumanceref2_sign.f cmpI
  split
  · rfl
  · split <;> rfl
set_option maxHeartbeats 1000000 in
theorem order_calls (a b : ByteArray) (w : World) (ha : a.size ≤ 1000000) (hb : b.size ≤ 1000000) :
    Calls Tryz.prog 46 #[.string a, .string b] w fun e w' => e = .returned (.int .i64 (wordsI a.data.toList b.data.toList)) ∧ Drawn0 w w' := by
  have HA := Lib.hid (rdigits_calls a (by omega))
  have HB := Lib.hid (rdigits_calls b (by omega))
  have HS := Lib.hid (fun w => transhumanceref2_sign.calls (a.size : Int) (b.size : Int) _ w (rsign_f _ _))
  have HW := Lib.hid (show wordsI a.data.toList b.data.toList = if allL a.data.toList = true then
    (if allL b.data.toList = true then (if cmpI a.size b.size = 0 then cmpBs a.data.toList b.data.toList else cmpI a.size b.size) else -1) else if allL b.data.toList = true then 1 else cmpBs a.data.toList b.data.toList from rfl)
  have HC := Lib.hid (show cmpBs a.data.toList b.data.toList = if Op.bytesLess a.toList b.toList = true then -1 else if (a.toList == b.toList) = true then 0 else 1 from by unfold cmpBs; rw [Lib.toList_data, Lib.toList_data])
  generalize wordsI a.data.toList b.data.toList = R at *
  generalize cmpBs a.data.toList b.data.toList = C at *
  generalize allL a.data.toList = p at *
  generalize allL b.data.toList = q at *
  have key : (p = q) → (p = true → a.size = b.size) → R = C → Calls Tryz.prog 46 #[.string a, .string b] w fun e w' => e = .returned (.int .i64 R) ∧ Drawn0 w w' := by
    intro hpq hz hR
    have HZ := Lib.hid hR
    clear hR HW HS
    subst hpq
    cases h1 : Op.bytesLess a.toList b.toList with
    | true =>
      have HC2 := Lib.hid (HC.out.trans (if_pos h1))
      clear HC
      cases p with
      | true =>
        have hz2 := hz rfl
        have n1 : (a.size != b.size) = false := by simpa using hz2
        have n2 : ((a.size : Int) != (b.size : Int)) = false := by simp only [bne_eq_false_iff_eq]; omega
        clear hz hz2
        go_enter Tryz.func46, Tryz.ntmps46
        go_wp2_with (fail)
        refine (HA.out _).mono ?_
        rintro e w1 ⟨rfl, n3, rfl⟩
        go_wp2_with (fail)
        refine (HB.out _).mono ?_
        rintro e w1 ⟨rfl, n4, rfl⟩
        go_wp2_with (fail)
        go_ret
        exact ⟨by rw [HZ.out, HC2.out]; rfl, ⟨_, rfl⟩⟩
      | false =>
        clear hz
        go_enter Tryz.func46, Tryz.ntmps46
        go_wp2_with (fail)
        refine (HA.out _).mono ?_
        rintro e w1 ⟨rfl, n3, rfl⟩
        go_wp2_with (fail)
        refine (HB.out _).mono ?_
        rintro e w1 ⟨rfl, n4, rfl⟩
        go_wp2_with (fail)
        go_ret
        exact ⟨by rw [HZ.out, HC2.out]; rfl, ⟨_, rfl⟩⟩
    | false =>
      cases h2 : (a.toList == b.toList) with
      | true =>
        have HC2 := Lib.hid (HC.out.trans ((if_neg (by rw [h1]; simp)).trans (if_pos h2)))
        clear HC
        cases p with
        | true =>
          have hz2 := hz rfl
          have n1 : (a.size != b.size) = false := by simpa using hz2
          have n2 : ((a.size : Int) != (b.size : Int)) = false := by simp only [bne_eq_false_iff_eq]; omega
          clear hz hz2
          go_enter Tryz.func46, Tryz.ntmps46
          go_wp2_with (fail)
          refine (HA.out _).mono ?_
          rintro e w1 ⟨rfl, n3, rfl⟩
          go_wp2_with (fail)
          refine (HB.out _).mono ?_
          rintro e w1 ⟨rfl, n4, rfl⟩
          go_wp2_with (fail)
          go_ret
          exact ⟨by rw [HZ.out, HC2.out]; rfl, ⟨_, rfl⟩⟩
        | false =>
          clear hz
          go_enter Tryz.func46, Tryz.ntmps46
          go_wp2_with (fail)
          refine (HA.out _).mono ?_
          rintro e w1 ⟨rfl, n3, rfl⟩
          go_wp2_with (fail)
          refine (HB.out _).mono ?_
          rintro e w1 ⟨rfl, n4, rfl⟩
          go_wp2_with (fail)
          go_ret
          exact ⟨by rw [HZ.out, HC2.out]; rfl, ⟨_, rfl⟩⟩
      | false =>
        have HC2 := Lib.hid (HC.out.trans ((if_neg (by rw [h1]; simp)).trans (if_neg (by rw [h2]; simp))))
        clear HC
        cases p with
        | true =>
          have hz2 := hz rfl
          have n1 : (a.size != b.size) = false := by simpa using hz2
          have n2 : ((a.size : Int) != (b.size : Int)) = false := by simp only [bne_eq_false_iff_eq]; omega
          clear hz hz2
          go_enter Tryz.func46, Tryz.ntmps46
          go_wp2_with (fail)
          refine (HA.out _).mono ?_
          rintro e w1 ⟨rfl, n3, rfl⟩
          go_wp2_with (fail)
          refine (HB.out _).mono ?_
          rintro e w1 ⟨rfl, n4, rfl⟩
          go_wp2_with (fail)
          go_ret
          exact ⟨by rw [HZ.out, HC2.out]; rfl, ⟨_, rfl⟩⟩
        | false =>
          clear hz
          go_enter Tryz.func46, Tryz.ntmps46
          go_wp2_with (fail)
          refine (HA.out _).mono ?_
          rintro e w1 ⟨rfl, n3, rfl⟩
          go_wp2_with (fail)
          refine (HB.out _).mono ?_
          rintro e w1 ⟨rfl, n4, rfl⟩
          go_wp2_with (fail)
          go_ret
          exact ⟨by rw [HZ.out, HC2.out]; rfl, ⟨_, rfl⟩⟩
  cases p with
  | true =>
    cases q with
    | true =>
      by_cases hz : a.size = b.size
      · refine key rfl (fun _ => hz) ?_
        rw [HW.out, if_pos rfl, if_pos rfl, if_pos (by rw [hz]; unfold cmpI; rw [if_neg (by omega), if_neg (by omega)])]
      · have hc : cmpI a.size b.size ≠ 0 := by unfold cmpI; split; omega; split <;> omega
        have HW2 := Lib.hid (show R = cmpI a.size b.size from by rw [HW.out, if_pos rfl, if_pos rfl, if_neg hc])
        have n1 : (a.size != b.size) = true := by simpa using hz
        have n2 : ((a.size : Int) != (b.size : Int)) = true := by simp only [bne_iff_ne, ne_eq]; omega
        clear key HW HC hz hc
        go_enter Tryz.func46, Tryz.ntmps46
        go_wp2_with (fail)
        refine (HA.out _).mono ?_
        rintro e w1 ⟨rfl, n3, rfl⟩
        go_wp2_with (fail)
        refine (HB.out _).mono ?_
        rintro e w1 ⟨rfl, n4, rfl⟩
        go_wp2_with (fail)
        refine (HS.out _).mono ?_
        rintro e w1 ⟨rfl, n5, rfl⟩
        go_wp2_with (fail)
        go_ret
        exact ⟨by rw [HW2.out]; rfl, ⟨_, rfl⟩⟩
    | false =>
      have HW2 := Lib.hid (show R = -1 from by rw [HW.out, if_pos rfl, if_neg (by simp)])
      clear key HW HC HS
      go_enter Tryz.func46, Tryz.ntmps46
      go_wp2_with (fail)
      refine (HA.out _).mono ?_
      rintro e w1 ⟨rfl, n3, rfl⟩
      go_wp2_with (fail)
      refine (HB.out _).mono ?_
      rintro e w1 ⟨rfl, n4, rfl⟩
      go_wp2_with (fail)
      go_ret
      exact ⟨by rw [HW2.out]; rfl, ⟨_, rfl⟩⟩
  | false =>
    cases q with
    | true =>
      have HW2 := Lib.hid (show R = 1 from by rw [HW.out, if_neg (by simp), if_pos rfl])
      clear key HW HC HS
      go_enter Tryz.func46, Tryz.ntmps46
      go_wp2_with (fail)
      refine (HA.out _).mono ?_
      rintro e w1 ⟨rfl, n3, rfl⟩
      go_wp2_with (fail)
      refine (HB.out _).mono ?_
      rintro e w1 ⟨rfl, n4, rfl⟩
      go_wp2_with (fail)
      go_ret
      exact ⟨by rw [HW2.out]; rfl, ⟨_, rfl⟩⟩
    | false =>
      refine key rfl (fun h => by cases h) ?_
      rw [HW.out, if_neg (by simp), if_neg (by simp)]
def transhumanceref2_order.f (a0 : ByteArray) (a1 : ByteArray) : Option Int := if a0.size ≤ 1000000 ∧ a1.size ≤ 1000000 then some (wordsI a0.data.toList a1.data.toList) else none
theorem transhumanceref2_order.calls (a0 : ByteArray) (a1 : ByteArray) (r : Int) (w : World) (h : transhumanceref2_order.f a0 a1 = some r) :
    Calls Tryz.prog 46 #[.string a0, .string a1] w fun e w' => e = .returned (.int .i64 r) ∧ Drawn0 w w' := by
  unfold transhumanceref2_order.f at h
  split at h
  · next hs =>
    obtain rfl := Option.some.inj h
    exact order_calls a0 a1 w hs.1 hs.2
  · cases h
end Go.Proofs.YtbdojilhmgfdcaaGreatDoor.Q
