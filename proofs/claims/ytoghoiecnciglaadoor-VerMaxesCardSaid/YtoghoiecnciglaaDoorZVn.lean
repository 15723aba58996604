import Derived.Test.YtoghoiecnciglaaDoorZEv
import Derived.Test.YtoghoiecnciglaaDoorZVk
import Derived.Test.YtoghoiecnciglaaDoorZQ5
import Derived.Test.YtoghoiecnciglaaDoorZQ4
import Derived.Test.YtoghoiecnciglaaDoorZQ3
import Derived.Test.YtoghoiecnciglaaDoorZQ2
namespace Go.Proofs.YtoghoiecnciglaaDoor.Q
open Go.RowKit Go.Proofs.YtoghoiecnciglaaDoorW.PrintWords Go.Proofs.YtoghoiecnciglaaDoorW.PrintLast Go.Proofs.YtoghoiecnciglaaDoorW.PrintMore
theorem within_f (a n : Int) (hn : 0 < n) (hn2 : n ≤ 4611686018427387904) : transhumancelaw2_within.f a n = some (win a n) := win_val transhumancelaw2_within.f (fun _ _ => rfl) a n hn hn2
def Made (v : Vr) : Prop := rightV v.a v.b v.c v.p = true
def preWords : List ByteArray := [(⟨#[48]⟩ : ByteArray), (⟨#[49]⟩ : ByteArray), (⟨#[49, 48]⟩ : ByteArray), (⟨#[50]⟩ : ByteArray), (⟨#[97]⟩ : ByteArray), (⟨#[114, 99]⟩ : ByteArray), (⟨#[114, 99, 49]⟩ : ByteArray), (⟨#[65]⟩ : ByteArray), (⟨#[45]⟩ : ByteArray), (⟨#[48, 97]⟩ : ByteArray), (⟨#[97, 108, 112, 104, 97]⟩ : ByteArray), (⟨#[57, 57, 57, 57, 57, 57, 57, 57, 57, 57]⟩ : ByteArray), (⟨#[50, 48, 50, 48, 48, 49, 48, 49, 48, 48, 48, 48, 48, 48, 45, 97, 98, 99, 100, 101, 102, 48, 49, 50, 51, 52, 53]⟩ : ByteArray)]
theorem preWords_ok : ∀ w ∈ preWords, wordL w.data.toList = true ∧ (w.data.toList.all (· != 46)) = true ∧ w.data.toList ≠ [] ∧ w.size ≤ 27 := by decide +kernel
theorem preWord_at (j : Int) (h0 : 0 ≤ j) (h1 : j < 13) : wordL (rdOf ByteArray.empty preWords j).data.toList = true ∧ ((rdOf ByteArray.empty preWords j).data.toList.all (· != 46)) = true ∧ (rdOf ByteArray.empty preWords j).data.toList ≠ [] ∧ (rdOf ByteArray.empty preWords j).size ≤ 27 := by
  have hl : j.toNat < preWords.length := by show j.toNat < 13; omega
  have : rdOf ByteArray.empty preWords j = preWords[j.toNat] := by
    simp [rdOf, List.getD, List.getElem?_eq_getElem hl]
  rw [this]
  exact preWords_ok _ (List.getElem_mem hl)
theorem preL_one {l : List UInt8} (h1 : wordL l = true) (h2 : l.all (· != 46) = true) : preL l = true := by
  unfold preL
  rw [parts_free 46 l (fun x hx => by simpa using List.all_eq_true.1 h2 x hx)]
  simp [h1]
theorem preL_more {s l : List UInt8} (h : preL s = true) (h1 : wordL l = true) (h2 : l.all (· != 46) = true) : preL (s ++ 46 :: l) = true := by
  unfold preL at *
  rw [parts_cat, List.all_append, h, parts_free 46 l (fun x hx => by simpa using List.all_eq_true.1 h2 x hx)]
  simp [h1]
def PreOk (s : ByteArray) (i : Int) : Prop := (i = 0 → s.data.toList = []) ∧ (0 < i → preL s.data.toList = true)
theorem pre_fin {s : ByteArray} {i : Int} (h : PreOk s i) (h0 : 0 ≤ i) : (s.data.toList == [] || preL s.data.toList) = true := by
  by_cases hi : i = 0
  · rw [h.1 hi]; rfl
  · rw [h.2 (by omega)]; simp
theorem size_list (s : ByteArray) : s.data.toList.length = s.size := rfl
theorem right_of {a b c : Int} {p : List UInt8} (ha : 0 ≤ a ∧ a ≤ 999999) (hb : 0 ≤ b ∧ b ≤ 999999) (hc : 0 ≤ c ∧ c ≤ 999999) (hl : p.length ≤ 40) (hp : (p == [] || preL p) = true) : rightV a b c p = true := by
  unfold rightV partB
  rw [decide_eq_true ha.1, decide_eq_true ha.2, decide_eq_true hb.1, decide_eq_true hb.2, decide_eq_true hc.1, decide_eq_true hc.2, decide_eq_true hl, hp]
  rfl
theorem pre_l0 (a b c : Int) : ∀ (d : Nat) (x i : Int) (s : ByteArray), 0 ≤ i → i + d = 4 → 0 ≤ x → x ≤ 1099511627776 → PreOk s i → s.size ≤ 28 * i.toNat →
    ∃ r : ByteArray, Ev (fun k => transhumancelaw2_Make.l0 k preWords x i a b c s) (a, b, c, r) ∧ (r.data.toList == [] || preL r.data.toList) = true ∧ r.size ≤ 40 := by
  intro d
  have hrc : ((⟨#[114, 99, 46, 49]⟩ : ByteArray).data.toList == [] || preL (⟨#[114, 99, 46, 49]⟩ : ByteArray).data.toList) = true := by decide +kernel
  induction d with
  | zero =>
    intro x i s h0 hd hx hx2 hp hz
    have hm := Int.tmod_lt_of_pos x (show (0 : Int) < 4 by omega)
    by_cases hb : (s.size : Int) > 40
    · exact ⟨_, Ev.step (fun _ => transhumancelaw2_Make.l0.eq_2 ..) (Ev.neg (by omega) (Ev.pos hb (Ev.now _))), hrc, by decide⟩
    · exact ⟨_, Ev.step (fun _ => transhumancelaw2_Make.l0.eq_2 ..) (Ev.neg (by omega) (Ev.neg hb (Ev.now _))), pre_fin hp h0, by omega⟩
  | succ d ih =>
    intro x i s h0 hd hx hx2 hp hz
    by_cases hi : i < Int.tmod x 4
    · obtain ⟨y0, y1⟩ := tdiv_bd 4 hx (by omega)
      have hy : wrap64 (Int.tdiv x 4) = Int.tdiv x 4 := wrap_id (by omega) (by omega)
      obtain ⟨m0, m1⟩ := tmod_bd 13 y0 (by omega)
      obtain ⟨v0, v1⟩ := tdiv_bd 13 hx (by omega)
      have hv : wrap64 (Int.tdiv x 13) = Int.tdiv x 13 := wrap_id (by omega) (by omega)
      obtain ⟨wo, wf, wn, wz⟩ := preWord_at _ m0 m1
      have hw : wrap64 (i + 1) = i + 1 := wrap_id (by omega) (by omega)
      have s2 : (⟨#[46]⟩ : ByteArray).size = 1 := rfl
      by_cases h1 : i > 0
      · obtain ⟨r, e1, e2⟩ := ih (Int.tdiv x 13) (i + 1) ((s ++ (⟨#[46]⟩ : ByteArray)) ++ rdOf ByteArray.empty preWords (Int.tmod (Int.tdiv x 4) 13)) (by omega) (by omega) v0 (by omega)
          ⟨fun h => by omega, fun _ => by
            have := preL_more (hp.2 h1) wo wf
            simpa [ByteArray.data_append] using this⟩
          (by simp only [ByteArray.size_append, s2]; omega)
        refine ⟨r, Ev.step (fun _ => transhumancelaw2_Make.l0.eq_2 ..) (Ev.pos hi (Ev.pos h1 ?_)), e2⟩
        rw [hy, hv, hw]
        exact Ev.pos (by omega) (Ev.pos m0 (Ev.pos (by show _ < ((13 : Nat) : Int); omega) (Ev.pos (by simp only [ByteArray.size_append, s2]; omega) e1)))
      · obtain ⟨r, e1, e2⟩ := ih (Int.tdiv x 13) (i + 1) (s ++ rdOf ByteArray.empty preWords (Int.tmod (Int.tdiv x 4) 13)) (by omega) (by omega) v0 (by omega)
          ⟨fun h => by omega, fun _ => by
            have h2 := hp.1 (by omega)
            have : (s ++ rdOf ByteArray.empty preWords (Int.tmod (Int.tdiv x 4) 13)).data.toList = (rdOf ByteArray.empty preWords (Int.tmod (Int.tdiv x 4) 13)).data.toList := by rw [ByteArray.data_append, Array.toList_append, h2, List.nil_append]
            rw [this]
            exact preL_one wo wf⟩
          (by simp only [ByteArray.size_append]; omega)
        refine ⟨r, Ev.step (fun _ => transhumancelaw2_Make.l0.eq_2 ..) (Ev.pos hi (Ev.neg h1 ?_)), e2⟩
        rw [hy, hv, hw]
        exact Ev.pos m0 (Ev.pos (by show _ < ((13 : Nat) : Int); omega) (Ev.pos (by omega) e1))
    · by_cases hb : (s.size : Int) > 40
      · exact ⟨_, Ev.step (fun _ => transhumancelaw2_Make.l0.eq_2 ..) (Ev.neg hi (Ev.pos hb (Ev.now _))), hrc, by decide⟩
      · exact ⟨_, Ev.step (fun _ => transhumancelaw2_Make.l0.eq_2 ..) (Ev.neg hi (Ev.neg hb (Ev.now _))), pre_fin hp h0, by omega⟩
theorem pre_j0 (m a b c : Int) : ∃ r : ByteArray, Ev (fun k => transhumancelaw2_Make.j0 k m a b c ⟨#[]⟩) (a, b, c, r) ∧ (r.data.toList == [] || preL r.data.toList) = true ∧ r.size ≤ 40 := by
  obtain ⟨t0, t1⟩ := win_bd m 1099511627776 (by omega)
  obtain ⟨r, e1, e2⟩ := pre_l0 a b c 4 (win m 1099511627776) 0 ⟨#[]⟩ (by omega) (by omega) t0 (by omega) ⟨fun _ => rfl, fun h => by omega⟩ (by decide)
  exact ⟨r, Ev.step (fun _ => transhumancelaw2_Make.j0.eq_2 ..) (Ev.val (within_f m 1099511627776 (by omega) (by omega)) e1), e2⟩
def outV (v : Vr) : Int × Int × Int × ByteArray := (v.a, v.b, v.c, bs v.p)
theorem make_ev (n m : Int) : ∃ v : Vr, Ev (fun k => transhumancelaw2_Make.f k n m) (outV v) ∧ Made v := by
  obtain ⟨t0, t1⟩ := win_bd n 1099511627776 (by omega)
  have ht := within_f n 1099511627776 (by omega) (by omega)
  generalize win n 1099511627776 = t at *
  obtain ⟨a0, a1⟩ := tmod_bd 3 t0 (by omega)
  obtain ⟨d30, d31⟩ := tdiv_bd 3 t0 (by omega)
  obtain ⟨d40, d41⟩ := tdiv_bd 12 t0 (by omega)
  obtain ⟨d60, d61⟩ := tdiv_bd 432 t0 (by omega)
  obtain ⟨d50, d51⟩ := tdiv_bd 48 t0 (by omega)
  have w3 : wrap64 (Int.tdiv t 3) = Int.tdiv t 3 := wrap_id (by omega) (by omega)
  have w4 : wrap64 (Int.tdiv t 12) = Int.tdiv t 12 := wrap_id (by omega) (by omega)
  have w5 : wrap64 (Int.tdiv t 48) = Int.tdiv t 48 := wrap_id (by omega) (by omega)
  have w6 : wrap64 (Int.tdiv t 432) = Int.tdiv t 432 := wrap_id (by omega) (by omega)
  obtain ⟨b0, b1⟩ := tmod_bd 4 d30 (by omega)
  obtain ⟨c0, c1⟩ := tmod_bd 4 d40 (by omega)
  obtain ⟨e0, e1⟩ := tmod_bd 2 d60 (by omega)
  have w7 : wrap64 (999999 - Int.tmod (Int.tdiv t 432) 2) = 999999 - Int.tmod (Int.tdiv t 432) 2 := wrap_id (by omega) (by omega)
  have fin : ∀ (a b c : Int) (r : ByteArray), (0 ≤ a ∧ a ≤ 999999) → (0 ≤ b ∧ b ≤ 999999) → (0 ≤ c ∧ c ≤ 999999) → ((r.data.toList == [] || preL r.data.toList) = true ∧ r.size ≤ 40) → Ev (fun k => transhumancelaw2_Make.f k n m) (a, b, c, r) → ∃ v : Vr, Ev (fun k => transhumancelaw2_Make.f k n m) (outV v) ∧ Made v := by
    intro a b c r ha hb hc hr he
    refine ⟨⟨a, b, c, r.data.toList⟩, ?_, right_of ha hb hc (by rw [size_list]; exact hr.2) hr.1⟩
    unfold outV
    simp only [bs_data]
    exact he
  by_cases h0 : Int.tmod (Int.tdiv t 48) 9 = 0
  · obtain ⟨r, g1, g2⟩ := pre_j0 m (999999 - Int.tmod (Int.tdiv t 432) 2) (Int.tmod (Int.tdiv t 3) 4) (Int.tmod (Int.tdiv t 12) 4)
    refine fin (999999 - Int.tmod (Int.tdiv t 432) 2) (Int.tmod (Int.tdiv t 3) 4) (Int.tmod (Int.tdiv t 12) 4) r ⟨by omega, by omega⟩ ⟨by omega, by omega⟩ ⟨by omega, by omega⟩ g2 ?_
    unfold transhumancelaw2_Make.f
    rw [ht]
    simp only [Option.bind_some, w3, w4, w5, w6, w7]
    exact Ev.pos h0 g1
  by_cases h1 : Int.tmod (Int.tdiv t 48) 9 = 1
  · obtain ⟨r, g1, g2⟩ := pre_j0 m (Int.tmod t 3) (999999 - Int.tmod (Int.tdiv t 432) 2) (Int.tmod (Int.tdiv t 12) 4)
    refine fin (Int.tmod t 3) (999999 - Int.tmod (Int.tdiv t 432) 2) (Int.tmod (Int.tdiv t 12) 4) r ⟨by omega, by omega⟩ ⟨by omega, by omega⟩ ⟨by omega, by omega⟩ g2 ?_
    unfold transhumancelaw2_Make.f
    rw [ht]
    simp only [Option.bind_some, w3, w4, w5, w6, w7]
    exact Ev.neg h0 (Ev.pos h1 g1)
  by_cases h2 : Int.tmod (Int.tdiv t 48) 9 = 2
  · obtain ⟨r, g1, g2⟩ := pre_j0 m (Int.tmod t 3) (Int.tmod (Int.tdiv t 3) 4) (999999 - Int.tmod (Int.tdiv t 432) 2)
    refine fin (Int.tmod t 3) (Int.tmod (Int.tdiv t 3) 4) (999999 - Int.tmod (Int.tdiv t 432) 2) r ⟨by omega, by omega⟩ ⟨by omega, by omega⟩ ⟨by omega, by omega⟩ g2 ?_
    unfold transhumancelaw2_Make.f
    rw [ht]
    simp only [Option.bind_some, w3, w4, w5, w6, w7]
    exact Ev.neg h0 (Ev.neg h1 (Ev.pos h2 g1))
  · obtain ⟨r, g1, g2⟩ := pre_j0 m (Int.tmod t 3) (Int.tmod (Int.tdiv t 3) 4) (Int.tmod (Int.tdiv t 12) 4)
    refine fin (Int.tmod t 3) (Int.tmod (Int.tdiv t 3) 4) (Int.tmod (Int.tdiv t 12) 4) r ⟨by omega, by omega⟩ ⟨by omega, by omega⟩ ⟨by omega, by omega⟩ g2 ?_
    unfold transhumancelaw2_Make.f
    rw [ht]
    simp only [Option.bind_some, w3, w4, w5, w6, w7]
    exact Ev.neg h0 (Ev.neg h1 (Ev.neg h2 g1))
theorem Made.len {v : Vr} (h : Made v) : v.p.length ≤ 40 := (right_parts h).2.2.2.1
theorem Made.bd {v : Vr} (h : Made v) : (0 ≤ v.a ∧ v.a ≤ 999999) ∧ (0 ≤ v.b ∧ v.b ≤ 999999) ∧ (0 ≤ v.c ∧ v.c ≤ 999999) := by
  have := right_parts h
  exact ⟨this.1, this.2.1, this.2.2.1⟩
end Go.Proofs.YtoghoiecnciglaaDoor.Q
