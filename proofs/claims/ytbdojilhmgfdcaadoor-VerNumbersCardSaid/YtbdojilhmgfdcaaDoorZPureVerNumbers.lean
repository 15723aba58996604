/- VerNumbers answers true for every input: plain part. -/
import Derived.Test.YtbdojilhmgfdcaaDoorZVn
import Derived.Test.YtbdojilhmgfdcaaDoorZQ10
namespace Go.Proofs.YtbdojilhmgfdcaaDoor.Pure
open Go.RowKit Go.Proofs.YtbdojilhmgfdcaaDoor.Q Go.Proofs.YtbdojilhmgfdcaaDoorW.PrintWords Go.Proofs.YtbdojilhmgfdcaaDoorW.PrintLast
theorem ldigits_ev (n : Int) (h0 : 0 ≤ n) (h1 : n ≤ 1000000000000000) : Ev (fun k => transhumancelaw2_digits.f k n) (bs (Lib.decDigits n.toNat)) :=
  digits_gen transhumancelaw2_digits.f (fun _ _ => transhumancelaw2_digits.f.eq_2 ..) 16 n h0 (by omega) (by omega) (by omega)
theorem numbers_cmp (x y : Nat) : cmpV ⟨0, 0, 0, Lib.decDigits x⟩ ⟨0, 0, 0, Lib.decDigits y⟩ = cmpI x y := by
  obtain ⟨c1, d1, _⟩ := canon_dec x
  obtain ⟨c2, d2, _⟩ := canon_dec y
  have f1 := dec_free x 46 rfl
  have f2 := dec_free y 46 rfl
  rw [cmpV_p, ahead_ne _ _ c1.2.1 c2.2.1, parts_free 46 _ f1, parts_free 46 _ f2, rowsI, words_num c1 c2, d1, d2]
  split
  · next h => rw [h]; rfl
  · rfl
def zeros : ByteArray := (⟨#[48, 48, 48, 48, 48, 48, 48, 48, 48, 48, 48, 48, 48, 48, 48]⟩ : ByteArray)
def oneZ (j : Nat) : List UInt8 := 49 :: (zeros.extract 0 j).data.toList
theorem oneZ_ok : ∀ j : Fin 15, rightV 0 0 0 (oneZ j.val) = true ∧ (oneZ j.val).length ≤ 20 ∧ (decide (cmpV ⟨0, 0, 0, oneZ j.val⟩ ⟨0, 0, 0, [57]⟩ > 0) == decide ((j.val : Int) > 0)) = true := by decide +kernel
theorem VerNumbers : transhumancelaw2_VerNumbers.Pure := by
  intro a0 a1 a2 _ _ _
  apply Ev.rounds
  unfold transhumancelaw2_VerNumbers.f
  obtain ⟨x0, x1⟩ := win_bd a0 1099511627776 (by omega)
  obtain ⟨y0, y1⟩ := win_bd a1 1099511627776 (by omega)
  have wx := within_f a0 1099511627776 (by omega) (by omega)
  have wy := within_f a1 1099511627776 (by omega) (by omega)
  have wz := within_f a2 15 (by omega) (by omega)
  obtain ⟨j, hj⟩ := win_fin a2 15 (by decide)
  have hj' : win a2 15 = (j.val : Int) := hj
  rw [hj'] at wz
  generalize win a0 1099511627776 = x at *
  generalize win a1 1099511627776 = y at *
  have hjl := j.isLt
  obtain ⟨o1, o2, o3⟩ := oneZ_ok j
  have r9 : rightV 0 0 0 [57] = true := by decide +kernel
  have e1 : (⟨#[49]⟩ : ByteArray) ++ zeros.extract 0 ((j.val : Int)).toNat = bs (oneZ j.val) := by
    apply ext_bs
    rw [data_bs, ByteArray.data_append, Array.toList_append]
    rfl
  have t1 := rtext_gen 0 0 0 (oneZ j.val) (by omega) (by omega) (by omega) (by omega)
  have t2 := rtext_gen 0 0 0 [57] (by omega) (by omega) (by omega) (by decide)
  have p1 := vparse_f (textV ⟨0, 0, 0, oneZ j.val⟩) (by have := text_len ⟨0, 0, 0, oneZ j.val⟩ o1; omega)
  have p2 := vparse_f (textV ⟨0, 0, 0, [57]⟩) (by have := text_len ⟨0, 0, 0, [57]⟩ r9; omega)
  rw [parse_right (v := ⟨0, 0, 0, oneZ j.val⟩) o1] at p1
  rw [parse_right (v := ⟨0, 0, 0, [57]⟩) r9] at p2
  have lx : (Lib.decDigits x.toNat).length ≤ 20 := len_dec 20 (by omega) (by decide)
  have ly : (Lib.decDigits y.toNat).length ≤ 20 := len_dec 20 (by omega) (by decide)
  have hc := cmp_ev ⟨0, 0, 0, Lib.decDigits x.toNat⟩ ⟨0, 0, 0, Lib.decDigits y.toNat⟩ (by simp only; omega) (by simp only; omega)
  rw [numbers_cmp] at hc
  have hc2 := cmp_ev ⟨0, 0, 0, oneZ j.val⟩ ⟨0, 0, 0, [57]⟩ (by simp only; omega) (by decide)
  have hx : ((x.toNat : Nat) : Int) = x := by omega
  have hy : ((y.toNat : Nat) : Int) = y := by omega
  refine Ev.val known_true (Ev.pos rfl (Ev.val wx (Ev.val wy (Ev.val wz ?_))))
  refine Ev.pos (by omega) (Ev.pos (by omega) (Ev.pos ?_ ?_))
  · have : (zeros.extract 0 ((j.val : Int)).toNat).size ≤ 15 := by
      rw [ByteArray.size_extract]
      have : zeros.size = 15 := rfl
      omega
    have h := this
    unfold zeros at h
    omega
  have t1' : Ev (fun k => transhumanceref2_Text.f k 0 0 0 ((⟨#[49]⟩ : ByteArray) ++ ((⟨#[48, 48, 48, 48, 48, 48, 48, 48, 48, 48, 48, 48, 48, 48, 48]⟩ : ByteArray).extract 0 ((j.val : Int)).toNat))) (bs (textV ⟨0, 0, 0, oneZ j.val⟩)) := by
    rw [show (⟨#[48, 48, 48, 48, 48, 48, 48, 48, 48, 48, 48, 48, 48, 48, 48]⟩ : ByteArray) = zeros from rfl, e1]
    exact t1
  refine Ev.bind t1' (Ev.bind t2 (Ev.val p1 (Ev.val p2 (Ev.bind (ldigits_ev x x0 (by omega)) (Ev.bind (ldigits_ev y y0 (by omega)) (Ev.bind hc ?_))))))
  have e3 : (decide (cmpI ((x.toNat : Nat) : Int) ((y.toNat : Nat) : Int) < 0) == decide (x < y)) = true ∧ ((cmpI ((x.toNat : Nat) : Int) ((y.toNat : Nat) : Int) == 0) == (x == y)) = true := by
    rw [hx, hy]
    rcases Int.lt_trichotomy x y with h | h | h
    · rw [cmpI_lt h, decide_eq_true h]
      have : (x == y) = false := by simp only [beq_eq_false_iff_ne, ne_eq]; omega
      rw [this]
      exact ⟨rfl, rfl⟩
    · subst h
      rw [cmpI_eq0, show decide (x < x) = false from decide_eq_false (by omega)]
      have : (x == x) = true := by simp
      rw [this]
      exact ⟨rfl, rfl⟩
    · rw [cmpI_gt h, show decide (x < y) = false from decide_eq_false (by omega)]
      have : (x == y) = false := by simp only [beq_eq_false_iff_ne, ne_eq]; omega
      rw [this]
      exact ⟨rfl, rfl⟩
  refine Ev.pos e3.1 (Ev.pos e3.2 (Ev.pos rfl (Ev.pos rfl (Ev.bind hc2 (Ev.val wz (Ev.ret ?_))))))
  rw [o3]
end Go.Proofs.YtbdojilhmgfdcaaDoor.Pure
