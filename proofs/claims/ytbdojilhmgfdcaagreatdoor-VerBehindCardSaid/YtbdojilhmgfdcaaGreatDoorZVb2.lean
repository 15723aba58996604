import Derived.Test.YtbdojilhmgfdcaaGreatDoorZVz
import Derived.Test.YtbdojilhmgfdcaaGreatDoorZQ24
namespace Go.Proofs.YtbdojilhmgfdcaaGreatDoor.Q
open Go.RowKit Go.Proofs.YtbdojilhmgfdcaaGreatDoorW.PrintWords Go.Proofs.YtbdojilhmgfdcaaGreatDoorW.PrintLast Go.Proofs.YtbdojilhmgfdcaaGreatDoorW.PrintMore
theorem dv_take (l : List UInt8) (i : Nat) (hi : i < l.length) : dv (l.take (i + 1)) = 10 * dv (l.take i) + (l[i].toNat - 48) := by
  rw [List.take_succ_eq_append_getElem hi, dv_append]
theorem rbehind_l0 (w : ByteArray) (hz : w.size = 27) (hd : (w.data.toList.take 14).all digitB = true) : ∀ (d i : Nat), i + d = 14 → Ev (fun k => transhumanceref2_Behind.l0 k w (dv (w.data.toList.take i) : Int) i) ((dv (w.data.toList.take 14) : Int), w.extract 15 27, true)
  | 0, i, h => by
    obtain rfl : i = 14 := by omega
    refine Ev.step (fun _ => transhumanceref2_Behind.l0.eq_2 ..) (Ev.neg (by omega) (Ev.pos (by omega) (Ev.ret ?_)))
    rw [hz]
  | d + 1, i, h => by
    have hi : i < w.size := by omega
    have hil : i < w.data.toList.length := by rw [size_list]; omega
    have hw : wrap64 ((i : Int) + 1) = ((i + 1 : Nat) : Int) := wrap_id (by omega) (by omega)
    have hmem : digitB w[i] = true := by
      refine List.all_eq_true.1 hd _ ?_
      have e : w[i] = (w.data.toList.take 14)[i]'(by rw [List.length_take, size_list]; omega) := by
        rw [List.getElem_take]
        rfl
      rw [e]
      exact List.getElem_mem _
    have hb := (digitB_iff w[i]).1 hmem
    have hall : (w.data.toList.take i).all digitB = true := by
      rw [List.all_eq_true]
      intro x hx
      refine List.all_eq_true.1 hd x ?_
      have : w.data.toList.take i = (w.data.toList.take 14).take i := by rw [List.take_take]; congr 1; omega
      rw [this] at hx
      exact List.mem_of_mem_take hx
    have hlt := dv_lt _ hall
    have hlen : (w.data.toList.take i).length = i := by rw [List.length_take, size_list]; omega
    rw [hlen] at hlt
    have hp : 10 ^ i ≤ 10 ^ 13 := Nat.pow_le_pow_right (by decide) (by omega)
    have ih := rbehind_l0 w hz hd d (i + 1) (by omega)
    rw [dv_take _ i hil, show w.data.toList[i] = w[i] from rfl] at ih
    refine Ev.step (fun _ => transhumanceref2_Behind.l0.eq_2 ..) (Ev.pos (by omega) (Ev.pos (by omega) (Ev.pos (by omega) ?_)))
    rw [bt_int w i hi, hw]
    have e : wrap64 (wrap64 (10 * (dv (w.data.toList.take i) : Int)) + (((w[i].toNat : Int) - 48) % 256)) = ((10 * dv (w.data.toList.take i) + (w[i].toNat - 48) : Nat) : Int) := by
      rw [wrap_id (x := 10 * (dv (w.data.toList.take i) : Int)) (by omega) (by omega), wrap_id (by omega) (by omega)]
      omega
    rw [e]
    exact ih
theorem rbehind_ev (a b c : Int) (p : List UInt8) (hp : p.length ≤ 900000) : Ev (fun k => transhumanceref2_Behind.f k a b c (bs p)) (behindOut (behindL p)) := by
  unfold transhumanceref2_Behind.f
  have ws := rwords_ev (bs p) (by rw [size_bs]; omega)
  rw [data_bs] at ws
  refine Ev.bind ws ?_
  have hne := parts_ne 46 p
  have hlen := List.length_pos_iff.2 hne
  have hl2 := parts_len 46 p
  have hw : wrap64 (((((parts 46 p).map bs).length : Nat) : Int) - 1) = (((parts 46 p).length - 1 : Nat) : Int) := by
    rw [List.length_map, wrap_id (by omega) (by omega)]
    omega
  rw [hw]
  have hrd : rdOf ByteArray.empty ((parts 46 p).map bs) (((parts 46 p).length - 1 : Nat) : Int) = bs (lastW p) := by
    rw [rd_words _ _ (by omega)]
    congr 1
    unfold lastW
    rw [List.getLastD_eq_getLast?, List.getLast?_eq_getElem?, List.getElem?_eq_getElem (by omega)]
    rfl
  rw [hrd]
  have hbe : (lastW p).length ≤ 900000 := by
    have : lastW p ∈ parts 46 p := by
      unfold lastW
      rw [List.getLastD_eq_getLast?, List.getLast?_eq_getElem?, List.getElem?_eq_getElem (show (parts 46 p).length - 1 < (parts 46 p).length by omega)]
      exact List.getElem_mem _
    have := parts_each 46 p _ this
    omega
  have hout : behindOut (behindL p) = behindOut (if (lastW p).length = 27 ∧ (lastW p)[14]? = some 45 ∧ ((lastW p).take 14).all digitB = true ∧ ((lastW p).drop 15).all hexL = true then some (dv ((lastW p).take 14), (lastW p).drop 15) else none) := rfl
  rw [hout]
  generalize lastW p = l at *
  have hms : (bs l).size = l.length := size_bs l
  have hdm : (bs l).data.toList = l := data_bs l
  have jt : Ev (fun k => transhumanceref2_Behind.j0 k (bs l) true) (0, (⟨#[]⟩ : ByteArray), false) := Ev.step (fun _ => transhumanceref2_Behind.j0.eq_2 ..) (Ev.pos rfl (Ev.now _))
  refine Ev.pos (by omega) (Ev.pos (by rw [List.length_map]; omega) ?_)
  by_cases h27 : l.length = 27
  · refine Ev.pos (by rw [hms]; omega) (Ev.pos (by rw [hms]; omega) ?_)
    have h14 : 14 < (bs l).size := by omega
    have h14l : 14 < l.length := by omega
    have hbt : bt (bs l) 14 = (l[14].toNat : Int) := by
      have := bt_int (bs l) 14 h14
      rw [show bt (bs l) 14 = bt (bs l) ((14 : Nat) : Int) from rfl, this]
      have e : ∀ k : List UInt8, k = l → ∀ h : 14 < k.length, k[14] = l[14] := by rintro k rfl h; rfl
      have e2 := e _ hdm (by rw [hdm]; exact h14l)
      rw [← e2]
      rfl
    have hx14 : ((bs l).extract 0 14).data.toList = l.take 14 := by rw [ByteArray.data_extract, Array.toList_extract, hdm, List.extract_eq_take_drop]; simp
    have hx15 : ((bs l).extract 15 (bs l).size).data.toList = l.drop 15 := by rw [ByteArray.data_extract, Array.toList_extract, hdm, List.extract_eq_take_drop, List.take_of_length_le (by rw [List.length_drop]; omega)]
    have hne14 : l.take 14 ≠ [] := by intro h; have := congrArg List.length h; rw [List.length_take, List.length_nil] at this; omega
    by_cases h45 : l[14] = 45
    · have hg : l[14]? = some 45 := by rw [List.getElem?_eq_getElem h14l, h45]
      refine Ev.pos (by rw [hbt, h45]; rfl) (Ev.pos (by decide) (Ev.pos (by omega) ?_))
      have hd := rdigits_ev2 ((bs l).extract 0 14) (by rw [ByteArray.size_extract]; omega)
      rw [hx14, allL_ne hne14] at hd
      refine Ev.bind hd ?_
      cases ha : (l.take 14).all digitB with
      | false =>
        rw [if_neg (fun h => by have := h.2.2.1; simp at this)]
        exact Ev.neg (by simp) jt
      | true =>
        have hi := rid_ev ((bs l).extract 15 (bs l).size) (by rw [ByteArray.size_extract]; omega)
        have hsz : ((bs l).extract 15 (bs l).size).size = 12 := by rw [ByteArray.size_extract]; omega
        rw [hx15, hsz] at hi
        refine Ev.pos rfl (Ev.pos (by omega) (Ev.bind hi ?_))
        cases hh : (l.drop 15).all hexL with
        | false =>
          rw [if_neg (fun h => by have := h.2.2.2; simp at this)]
          exact jt
        | true =>
          rw [if_pos ⟨h27, hg, rfl, rfl⟩]
          have e := rbehind_l0 (bs l) (by omega) (by rw [hdm]; exact ha) 14 0 rfl
          rw [hdm] at e
          have e15 : (bs l).extract 15 27 = bs (l.drop 15) := by
            rw [← hx15, bs_data, hms, h27]
          rw [e15] at e
          exact Ev.step (fun _ => transhumanceref2_Behind.j0.eq_2 ..) (Ev.neg (by simp) e)
    · rw [if_neg (fun h => h45 (by have := h.2.1; rw [List.getElem?_eq_getElem h14l] at this; exact Option.some.inj this))]
      exact Ev.neg (by rw [hbt]; intro h; exact h45 (UInt8.toNat_inj.mp (by show l[14].toNat = 45; omega))) jt
  · rw [if_neg (fun h => h27 h.1)]
    exact Ev.neg (by rw [hms]; omega) jt
end Go.Proofs.YtbdojilhmgfdcaaGreatDoor.Q
