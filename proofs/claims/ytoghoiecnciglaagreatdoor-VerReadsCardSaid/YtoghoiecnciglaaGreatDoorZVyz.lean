import Derived.Test.YtoghoiecnciglaaGreatDoorZVn
import Derived.Test.YtoghoiecnciglaaGreatDoorZQ6
import Derived.Test.YtoghoiecnciglaaGreatDoorZVb
import Derived.Sort.Walk0
import Derived.Test.YtoghoiecnciglaaGreatDoorZEv
import Derived.Test.YtoghoiecnciglaaGreatDoorZQ4
namespace Go.Proofs.YtoghoiecnciglaaGreatDoor.Q
open Go.RowKit Go.Proofs.YtoghoiecnciglaaGreatDoorW.PrintWords Go.Proofs.YtoghoiecnciglaaGreatDoorW.PrintLast Go.Proofs.YtoghoiecnciglaaGreatDoorW.PrintMore
theorem rdigit_f (b : UInt8) : transhumanceref2_digit.f (b.toNat : Int) = some (digitB b) := by
  unfold transhumanceref2_digit.f
  by_cases h : (b.toNat : Int) ≥ 48
  · rw [if_pos h]
    congr 1
    rw [Bool.eq_iff_iff, digit_int, decide_eq_true_eq]
    omega
  · rw [if_neg h]
    congr 1
    cases hd : digitB b with
    | false => rfl
    | true => rw [digit_int] at hd; omega
theorem rdigits_l0 (s : ByteArray) (hs : s.size ≤ 140737488351232) : ∀ (d i : Nat), i + d = s.size → Ev (fun k => transhumanceref2_digits.l0 k s i) ((s.data.toList.drop i).all digitB && !(s.data.toList == []))
  | 0, i, hd => by
    refine Ev.step (fun _ => transhumanceref2_digits.l0.eq_2 ..) (Ev.neg (by omega) (Ev.ret ?_))
    rw [List.drop_eq_nil_of_le (by simp; omega), ← Lib.toList_data]
    cases s.toList <;> rfl
  | d + 1, i, hd => by
    have hi : i < s.size := by omega
    have hw : wrap64 ((i : Int) + 1) = ((i + 1 : Nat) : Int) := wrap_in (by omega) (by omega)
    refine Ev.step (fun _ => transhumanceref2_digits.l0.eq_2 ..) (Ev.pos (by omega) (Ev.pos (by omega) ?_))
    rw [bt_int s i hi, hw, drop_byte s i hi, List.all_cons]
    refine Ev.val (rdigit_f s[i]) ?_
    cases hb : digitB s[i] with
    | false => exact Ev.neg (by simp) (Ev.now _)
    | true =>
      rw [Bool.true_and]
      exact Ev.pos rfl (rdigits_l0 s hs d (i + 1) (by omega))
theorem rdigits_ev2 (s : ByteArray) (hs : s.size ≤ 140737488351232) : Ev (fun k => transhumanceref2_digits.f k s) (allL s.data.toList) := by
  have := rdigits_l0 s hs s.size 0 (by omega)
  rw [List.drop_zero] at this
  exact this
theorem drop_seg (s : ByteArray) (a i : Nat) (ha : a ≤ i) (hi : i < s.size) : s.data.toList.drop a = (s.data.toList.drop a).take (i - a) ++ s[i] :: s.data.toList.drop (i + 1) := by
  have h := drop_byte s i hi
  rw [← h]
  have : s.data.toList.drop i = (s.data.toList.drop a).drop (i - a) := by rw [List.drop_drop]; congr 1; omega
  rw [this, List.take_append_drop]
theorem seg_extract (s : ByteArray) (a i : Nat) : s.extract a i = bs ((s.data.toList.drop a).take (i - a)) := by
  apply ext_bs
  rw [data_bs, ByteArray.data_extract, Array.toList_extract, List.extract_eq_take_drop]
theorem seg_succ (s : ByteArray) (a i : Nat) (ha : a ≤ i) (hi : i < s.size) (h : ∀ x ∈ (s.data.toList.drop a).take (i - a), x ≠ 46) (hb : s[i] ≠ 46) : ∀ x ∈ (s.data.toList.drop a).take (i + 1 - a), x ≠ 46 := by
  have e : (s.data.toList.drop a).take (i + 1 - a) = (s.data.toList.drop a).take (i - a) ++ [s[i]] := by
    conv => lhs; rw [drop_seg s a i ha hi]
    have hl : ((s.data.toList.drop a).take (i - a)).length = i - a := by rw [List.length_take, List.length_drop, size_list]; omega
    rw [List.take_append, hl, List.take_of_length_le (by omega), show i + 1 - a - (i - a) = 1 from by omega]
    rfl
  rw [e]
  intro x hx
  rcases List.mem_append.1 hx with hx | hx
  · exact h x hx
  · rw [List.mem_singleton.1 hx]
    exact hb
theorem rwords_l0 (s : ByteArray) (hs : s.size ≤ 1000000) : ∀ (d i a : Nat) (acc : List (List UInt8)), s.size + 1 = i + d → 1 ≤ d → a ≤ i → acc.length ≤ i → (∀ x ∈ (s.data.toList.drop a).take (i - a), x ≠ 46) →
    Ev (fun k => transhumanceref2_words.l0 k s (acc.map bs) (a : Int) (i : Int)) ((acc ++ parts 46 (s.data.toList.drop a)).map bs)
  | 0, i, a, acc, hd, h1, ha, hacc, hseg => by omega
  | d + 1, i, a, acc, hd, h1, ha, hacc, hseg => by
    have hw : wrap64 ((i : Int) + 1) = ((i + 1 : Nat) : Int) := wrap_id (by omega) (by omega)
    have hadd : acc.map bs ++ [s.extract a i] = (acc ++ [(s.data.toList.drop a).take (i - a)]).map bs := by rw [seg_extract s a i]; simp
    refine Ev.step (fun _ => transhumanceref2_words.l0.eq_2 ..) (Ev.pos (by omega) ?_)
    rw [hw]
    by_cases he : i = s.size
    · refine Ev.pos (by omega) (Ev.pos (by omega) (Ev.pos (by omega) (Ev.pos (by rw [List.length_map]; omega) ?_)))
      rw [show ((a : Int)).toNat = a from by omega, show ((i : Int)).toNat = i from by omega, hadd]
      refine Ev.step (fun _ => transhumanceref2_words.l0.eq_2 ..) (Ev.neg (by omega) (Ev.ret ?_))
      have hl : (s.data.toList.drop a).take (i - a) = s.data.toList.drop a := List.take_of_length_le (by rw [List.length_drop, size_list]; omega)
      rw [hl] at hseg ⊢
      rw [parts_free 46 _ hseg]
    · have hi : i < s.size := by omega
      refine Ev.neg (by omega) (Ev.pos (by omega) (Ev.pos (by omega) ?_))
      rw [bt_int s i hi]
      by_cases hb : s[i] = 46
      · refine Ev.pos (by rw [hb]; rfl) (Ev.pos (by omega) (Ev.pos (by omega) (Ev.pos (by rw [List.length_map]; omega) ?_)))
        rw [show ((a : Int)).toNat = a from by omega, show ((i : Int)).toNat = i from by omega, hadd]
        have ih := rwords_l0 s hs d (i + 1) (i + 1) (acc ++ [(s.data.toList.drop a).take (i - a)]) (by omega) (by omega) (by omega) (by simp; omega) (by simp)
        have e := drop_seg s a i ha hi
        rw [hb] at e
        have hp := parts_app 46 _ (s.data.toList.drop (i + 1)) hseg
        rw [← e] at hp
        rw [hp]
        simpa using ih
      · refine Ev.neg (fun h => hb (UInt8.toNat_inj.mp (by show s[i].toNat = 46; omega))) ?_
        exact rwords_l0 s hs d (i + 1) a acc (by omega) (by omega) (by omega) (by omega) (seg_succ s a i ha hi hseg hb)
theorem rwords_ev (s : ByteArray) (hs : s.size ≤ 1000000) : Ev (fun k => transhumanceref2_words.f k s) ((parts 46 s.data.toList).map bs) := by
  have := rwords_l0 s hs (s.size + 1) 0 0 [] (by omega) (by omega) (by omega) (by simp) (by simp)
  rw [List.drop_zero] at this
  exact this
theorem rletter_f (b : UInt8) : transhumanceref2_letter.f (b.toNat : Int) = some (letterB b) := by
  have h : ∀ n : Nat, n < 256 → transhumanceref2_letter.f (n : Int) = some (letterB (UInt8.ofNat n)) := by decide +kernel
  have := h b.toNat b.toNat_lt
  simpa only [UInt8.ofNat_toNat] using this
theorem rword_l0 (s : ByteArray) (hs : s.size ≤ 1000000) : ∀ (d i : Nat), i + d = s.size → Ev (fun k => transhumanceref2_word.l0 k s i) ((s.data.toList.drop i).all fun b => digitB b || letterB b)
  | 0, i, hd => by
    refine Ev.step (fun _ => transhumanceref2_word.l0.eq_2 ..) (Ev.neg (by omega) (Ev.ret ?_))
    rw [List.drop_eq_nil_of_le (by rw [size_list]; omega)]
    rfl
  | d + 1, i, hd => by
    have hi : i < s.size := by omega
    have hw : wrap64 ((i : Int) + 1) = ((i + 1 : Nat) : Int) := wrap_id (by omega) (by omega)
    have ih := rword_l0 s hs d (i + 1) (by omega)
    refine Ev.step (fun _ => transhumanceref2_word.l0.eq_2 ..) (Ev.pos (by omega) (Ev.pos (by omega) ?_))
    rw [bt_int s i hi, hw, drop_byte s i hi, List.all_cons]
    refine Ev.val (rdigit_f s[i]) ?_
    cases hb : digitB s[i] with
    | true =>
      rw [Bool.true_or, Bool.true_and]
      exact Ev.pos rfl ih
    | false =>
      rw [Bool.false_or]
      refine Ev.neg (by simp) (Ev.val (rletter_f s[i]) ?_)
      cases hl : letterB s[i] with
      | true =>
        rw [Bool.true_and]
        exact Ev.pos rfl ih
      | false => exact Ev.neg (by simp) (Ev.now _)
theorem rword_ev (s : ByteArray) (hs : s.size ≤ 1000000) : Ev (fun k => transhumanceref2_word.f k s) (wordL s.data.toList) := by
  have h0 := rword_l0 s hs s.size 0 (by omega)
  rw [List.drop_zero] at h0
  unfold transhumanceref2_word.f
  have j0 : ∀ b : Bool, Ev (fun k => transhumanceref2_word.j0 k s b) (if b = true then false else s.data.toList.all fun b => digitB b || letterB b) := by
    intro b
    cases b with
    | true => exact Ev.step (fun _ => transhumanceref2_word.j0.eq_2 ..) (Ev.pos rfl (Ev.now _))
    | false => exact Ev.step (fun _ => transhumanceref2_word.j0.eq_2 ..) (Ev.neg (by simp) h0)
  unfold wordL
  by_cases he : s.toList = []
  · refine Ev.pos he ?_
    have hn : s.data.toList = [] := by rw [← Lib.toList_data]; exact he
    rw [hn]
    exact j0 true
  · have hn : ¬ s.data.toList = [] := by rw [← Lib.toList_data]; exact he
    have hnb : (s.data.toList == []) = false := by simpa using hn
    refine Ev.neg he (Ev.bind (rdigits_ev2 s (by omega)) ?_)
    rw [hnb]
    cases hd : allL s.data.toList with
    | false =>
      refine Ev.neg (by simp) ?_
      have := j0 false
      simpa using this
    | true =>
      refine Ev.pos rfl ?_
      by_cases h1 : (s.size : Int) > 1
      · refine Ev.pos h1 (Ev.pos (by omega) ?_)
        have hs0 : 0 < s.size := by omega
        have hh : s.data.toList.head? = some s[0] := by
          have := drop_byte s 0 hs0
          rw [List.drop_zero] at this
          rw [this]; rfl
        have hl : decide (1 < s.data.toList.length) = true := decide_eq_true (by rw [size_list]; omega)
        have hb : (bt s 0 == 48) = (s.data.toList.head? == some 48) := by
          rw [show bt s 0 = (s[0].toNat : Int) from bt_int s 0 hs0, hh, Bool.eq_iff_iff]
          simp only [beq_iff_eq, Option.some.injEq]
          constructor
          · intro h; exact UInt8.toNat_inj.mp (by show s[0].toNat = 48; omega)
          · intro h; rw [h]; rfl
        rw [hl]
        have := j0 (bt s 0 == 48)
        rw [hb] at this ⊢
        cases hz : (s.data.toList.head? == some 48) with
        | true => rw [hz] at this; simpa using this
        | false => rw [hz] at this; simpa using this
      · refine Ev.neg h1 ?_
        have hl : decide (1 < s.data.toList.length) = false := decide_eq_false (by rw [size_list]; omega)
        rw [hl]
        have := j0 false
        simpa using this
theorem rright_l0 (ws : List (List UInt8)) (hz : ws.length ≤ 2000000) (hw : ∀ w ∈ ws, w.length ≤ 1000000) : ∀ (d i : Nat), ws.length = i + d → Ev (fun k => transhumanceref2_Right.l0 k (ws.map bs) (i : Int)) ((ws.drop i).all wordL)
  | 0, i, hd => by
    refine Ev.step (fun _ => transhumanceref2_Right.l0.eq_2 ..) (Ev.neg (by rw [List.length_map]; omega) (Ev.ret ?_))
    rw [List.drop_eq_nil_of_le (by omega)]
    rfl
  | d + 1, i, hd => by
    have hi : i < ws.length := by omega
    have hwr : wrap64 ((i : Int) + 1) = ((i + 1 : Nat) : Int) := wrap_id (by omega) (by omega)
    have hr : rdOf ByteArray.empty (ws.map bs) (i : Int) = bs ws[i] := by
      simp [rdOf, List.getD, List.getElem?_eq_getElem hi]
    have ih := rright_l0 ws hz hw d (i + 1) (by omega)
    have hwi := rword_ev (bs ws[i]) (by rw [size_bs]; exact hw _ (List.getElem_mem hi))
    rw [data_bs] at hwi
    refine Ev.step (fun _ => transhumanceref2_Right.l0.eq_2 ..) (Ev.pos (by rw [List.length_map]; omega) (Ev.pos (by omega) ?_))
    rw [hr, hwr, List.drop_eq_getElem_cons hi, List.all_cons]
    refine Ev.bind hwi ?_
    cases hb : wordL ws[i] with
    | true =>
      rw [Bool.true_and]
      exact Ev.pos rfl ih
    | false => exact Ev.neg (by simp) (Ev.now _)
theorem rright_ev (a b c : Int) (p : ByteArray) (hp : p.size ≤ 1000000) : Ev (fun k => transhumanceref2_Right.f k a b c p) (rightV a b c p.data.toList) := by
  have hlen := parts_len 46 p.data.toList
  rw [size_list] at hlen
  have hl := rright_l0 (parts 46 p.data.toList) (by omega) (fun w hw => by have := parts_each 46 p.data.toList w hw; rw [size_list] at this; omega) _ 0 (by rw [Nat.zero_add])
  rw [List.drop_zero] at hl
  have j1 : ∀ x, Ev (fun k => transhumanceref2_Right.j0 k true a b c x) false := fun x => Ev.step (fun _ => transhumanceref2_Right.j0.eq_2 ..) (Ev.pos rfl (Ev.now _))
  have j0 : Ev (fun k => transhumanceref2_Right.j0 k false a b c p) (p.data.toList == [] || preL p.data.toList) := by
    refine Ev.step (fun _ => transhumanceref2_Right.j0.eq_2 ..) (Ev.neg (by simp) ?_)
    by_cases he : p.toList = []
    · have hn : p.data.toList = [] := by rw [← Lib.toList_data]; exact he
      refine Ev.pos he (Ev.ret ?_)
      rw [hn]
      rfl
    · have hn : ¬ p.data.toList = [] := by rw [← Lib.toList_data]; exact he
      have hnb : (p.data.toList == []) = false := by simpa using hn
      rw [hnb, Bool.false_or]
      exact Ev.neg he (Ev.bind (rwords_ev p hp) hl)
  unfold transhumanceref2_Right.f rightV partB
  by_cases ha : a < 0
  · rw [decide_eq_false (show ¬ 0 ≤ a by omega)]
    exact Ev.pos ha (j1 p)
  refine Ev.neg ha ?_
  rw [decide_eq_true (show 0 ≤ a by omega), Bool.true_and]
  by_cases hb : b < 0
  · rw [decide_eq_false (show ¬ 0 ≤ b by omega)]
    simp only [Bool.false_and, Bool.and_false]
    exact Ev.pos hb (j1 p)
  refine Ev.neg hb ?_
  rw [decide_eq_true (show 0 ≤ b by omega), Bool.true_and]
  by_cases hc : c < 0
  · rw [decide_eq_false (show ¬ 0 ≤ c by omega)]
    simp only [Bool.false_and, Bool.and_false]
    exact Ev.pos hc (j1 p)
  refine Ev.neg hc ?_
  rw [decide_eq_true (show 0 ≤ c by omega), Bool.true_and]
  by_cases hm : mx (mx a b) c > 999999
  · have : (decide (a ≤ 999999) && (decide (b ≤ 999999) && (decide (c ≤ 999999) && (decide (p.data.toList.length ≤ 40) && (p.data.toList == [] || preL p.data.toList))))) = false := by
      by_cases h1 : a ≤ 999999
      · by_cases h2 : b ≤ 999999
        · by_cases h3 : c ≤ 999999
          · unfold mx at hm; omega
          · rw [decide_eq_false h3]; simp
        · rw [decide_eq_false h2]; simp
      · rw [decide_eq_false h1]; simp
    rw [this]
    exact Ev.pos hm (j1 p)
  refine Ev.neg hm ?_
  have h1 : a ≤ 999999 := by unfold mx at hm; omega
  have h2 : b ≤ 999999 := by unfold mx at hm; omega
  have h3 : c ≤ 999999 := by unfold mx at hm; omega
  rw [decide_eq_true h1, decide_eq_true h2, decide_eq_true h3, Bool.true_and, Bool.true_and, Bool.true_and, size_list]
  by_cases hl40 : p.size ≤ 40
  · rw [decide_eq_true hl40, Bool.true_and, decide_eq_false (show ¬ (p.size : Int) > 40 by omega)]
    exact j0
  · rw [decide_eq_false hl40, Bool.false_and, decide_eq_true (show (p.size : Int) > 40 by omega)]
    exact j1 p
theorem ev_at {α : Type} {g : Nat → Option α} {r : α} (h : Ev g r) : ∃ k, g k = some r := by
  obtain ⟨K, h⟩ := h
  exact ⟨K, h K (Nat.le_refl _)⟩
theorem rright_calls (a b c : Int) (p : ByteArray) (hp : p.size ≤ 1000000) (w : World) : Calls Tryz.prog 24 #[.agg #[.int .i64 a, .int .i64 b, .int .i64 c, .string p]] w fun e w' => e = .returned (.bool (rightV a b c p.data.toList)) ∧ Below w.heap.size w w' := by
  obtain ⟨k, h⟩ := ev_at (rright_ev a b c p hp)
  exact transhumanceref2_Right.calls k a b c p _ w h
end Go.Proofs.YtoghoiecnciglaaGreatDoor.Q
