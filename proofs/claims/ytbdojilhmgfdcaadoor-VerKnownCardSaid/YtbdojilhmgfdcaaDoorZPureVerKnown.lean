/- VerKnown answers true for every input: plain part. -/
import Derived.Test.YtbdojilhmgfdcaaDoorZVn
import Derived.Test.YtbdojilhmgfdcaaDoorZQ9
namespace Go.Proofs.YtbdojilhmgfdcaaDoor.Pure
open Go.RowKit Go.Proofs.YtbdojilhmgfdcaaDoor.Q Go.Proofs.YtbdojilhmgfdcaaDoorW.PrintWords Go.Proofs.YtbdojilhmgfdcaaDoorW.PrintLast
def rising : List ByteArray := [(⟨#[118, 48, 46, 48, 46, 48, 45, 48]⟩ : ByteArray), (⟨#[118, 48, 46, 48, 46, 48]⟩ : ByteArray), (⟨#[118, 49, 46, 48, 46, 48, 45, 48]⟩ : ByteArray), (⟨#[118, 49, 46, 48, 46, 48, 45, 49]⟩ : ByteArray), (⟨#[118, 49, 46, 48, 46, 48, 45, 50]⟩ : ByteArray), (⟨#[118, 49, 46, 48, 46, 48, 45, 49, 48]⟩ : ByteArray), (⟨#[118, 49, 46, 48, 46, 48, 45, 45]⟩ : ByteArray), (⟨#[118, 49, 46, 48, 46, 48, 45, 65]⟩ : ByteArray), (⟨#[118, 49, 46, 48, 46, 48, 45, 97]⟩ : ByteArray), (⟨#[118, 49, 46, 48, 46, 48, 45, 97, 46, 48]⟩ : ByteArray), (⟨#[118, 49, 46, 48, 46, 48, 45, 97, 46, 49]⟩ : ByteArray), (⟨#[118, 49, 46, 48, 46, 48, 45, 97, 46, 97]⟩ : ByteArray), (⟨#[118, 49, 46, 48, 46, 48, 45, 97, 46, 98, 46, 99]⟩ : ByteArray), (⟨#[118, 49, 46, 48, 46, 48, 45, 97, 48]⟩ : ByteArray), (⟨#[118, 49, 46, 48, 46, 48, 45, 114, 99]⟩ : ByteArray), (⟨#[118, 49, 46, 48, 46, 48, 45, 114, 99, 46, 49]⟩ : ByteArray), (⟨#[118, 49, 46, 48, 46, 48, 45, 114, 99, 46, 49, 46, 49]⟩ : ByteArray), (⟨#[118, 49, 46, 48, 46, 48, 45, 114, 99, 49]⟩ : ByteArray), (⟨#[118, 49, 46, 48, 46, 48]⟩ : ByteArray), (⟨#[118, 49, 46, 48, 46, 49, 45, 48]⟩ : ByteArray), (⟨#[118, 49, 46, 48, 46, 49]⟩ : ByteArray), (⟨#[118, 49, 46, 49, 46, 48]⟩ : ByteArray), (⟨#[118, 49, 46, 50, 46, 48]⟩ : ByteArray), (⟨#[118, 49, 46, 49, 48, 46, 48]⟩ : ByteArray), (⟨#[118, 50, 46, 48, 46, 48, 45, 97]⟩ : ByteArray), (⟨#[118, 50, 46, 48, 46, 48]⟩ : ByteArray), (⟨#[118, 49, 48, 46, 48, 46, 48]⟩ : ByteArray), (⟨#[118, 57, 57, 57, 57, 57, 57, 46, 48, 46, 48]⟩ : ByteArray)]
def risingV (i : Nat) : Vr := (parseV (rdOf ByteArray.empty rising (i : Int)).data.toList).getD zeroVr
theorem rising_some : ∀ i : Fin 28, (parseV (rdOf ByteArray.empty rising (i.val : Int)).data.toList).isSome = true ∧ (rdOf ByteArray.empty rising (i.val : Int)).data.toList.length ≤ 20 ∧ (risingV i.val).p.length ≤ 20 := by decide +kernel
theorem rising_cmp : ∀ i j : Fin 28, (decide (cmpV (risingV i.val) (risingV j.val) < 0) == decide (i.val < j.val)) = true ∧ ((cmpV (risingV i.val) (risingV j.val) == 0) == (i.val == j.val)) = true := by decide +kernel
theorem rising_parse (i : Fin 28) : ver_Parse.f (rdOf ByteArray.empty rising (i.val : Int)) = some ((risingV i.val).a, (risingV i.val).b, (risingV i.val).c, bs (risingV i.val).p, true) := by
  obtain ⟨h1, h2, _⟩ := rising_some i
  have := vparse_f (rdOf ByteArray.empty rising (i.val : Int)).data.toList (by omega)
  rw [bs_data] at this
  rw [this]
  unfold risingV
  cases h : parseV (rdOf ByteArray.empty rising (i.val : Int)).data.toList with
  | none => rw [h] at h1; cases h1
  | some v => rfl
theorem VerKnown : transhumancelaw2_VerKnown.Pure := by
  intro a0 a1 _ _
  apply Ev.rounds
  unfold transhumancelaw2_VerKnown.f
  obtain ⟨i, hi⟩ := win_fin a0 28 (by decide)
  obtain ⟨j, hj⟩ := win_fin a1 28 (by decide)
  have wi : transhumancelaw2_within.f a0 ((rising.length : Nat) : Int) = some (i.val : Int) := by
    rw [show ((rising.length : Nat) : Int) = 28 from rfl, within_f a0 28 (by decide) (by decide)]
    exact congrArg some hi
  have wj : transhumancelaw2_within.f a1 ((rising.length : Nat) : Int) = some (j.val : Int) := by
    rw [show ((rising.length : Nat) : Int) = 28 from rfl, within_f a1 28 (by decide) (by decide)]
    exact congrArg some hj
  have hil := i.isLt
  have hjl := j.isLt
  have lr : ((rising.length : Nat) : Int) = 28 := rfl
  obtain ⟨c1, c2⟩ := rising_cmp i j
  refine Ev.val known_true (Ev.pos rfl (Ev.val (a := rising) rfl (Ev.val wi (Ev.val wj ?_))))
  refine Ev.pos (by omega) (Ev.pos (by omega) (Ev.val (rising_parse i) (Ev.pos (by omega) (Ev.pos (by omega) (Ev.val (rising_parse j) ?_)))))
  refine Ev.bind (cmp_ev (risingV i.val) (risingV j.val) (by have := (rising_some i).2.2; omega) (by have := (rising_some j).2.2; omega)) ?_
  have e1 : decide ((i.val : Int) < (j.val : Int)) = decide (i.val < j.val) := by
    rw [decide_eq_decide]
    omega
  have e2 : ((i.val : Int) == (j.val : Int)) = (i.val == j.val) := by
    rw [Bool.eq_iff_iff]
    simp only [beq_iff_eq]
    omega
  refine Ev.pos rfl (Ev.pos rfl (Ev.pos (by rw [e1]; exact c1) (Ev.ret ?_)))
  rw [e2, c2]
end Go.Proofs.YtbdojilhmgfdcaaDoor.Pure
