/- VerLonger answers true for every input: plain part. -/
import Derived.Test.YtbdojilhmgfdcaaGreatDoorZVy
import Derived.Test.YtbdojilhmgfdcaaGreatDoorZQ26
namespace Go.Proofs.YtbdojilhmgfdcaaGreatDoor.Pure
open Go.RowKit Go.Proofs.YtbdojilhmgfdcaaGreatDoor.Q Go.Proofs.YtbdojilhmgfdcaaGreatDoorW.PrintWords Go.Proofs.YtbdojilhmgfdcaaGreatDoorW.PrintLast
def wordsA : List ByteArray := [(⟨#[48]⟩ : ByteArray), (⟨#[122, 122]⟩ : ByteArray), (⟨#[114, 99, 46, 49]⟩ : ByteArray)]
def wordsB : List ByteArray := [(⟨#[48]⟩ : ByteArray), (⟨#[97]⟩ : ByteArray), (⟨#[45]⟩ : ByteArray)]
theorem wordsA_ok : ∀ i : Fin 3, (rdOf ByteArray.empty wordsA (i.val : Int)).data.toList ≠ [] ∧ (rdOf ByteArray.empty wordsA (i.val : Int)).size ≤ 4 := by decide
theorem wordsB_ok : ∀ i : Fin 3, (rdOf ByteArray.empty wordsB (i.val : Int)).size ≤ 4 := by decide
theorem VerLonger : transhumancelaw2_VerLonger.Pure := by
  intro a0 a1 a2
  intros
  apply Ev.rounds
  unfold transhumancelaw2_VerLonger.f
  obtain ⟨v, e, h⟩ := make_ev a0 a1
  obtain ⟨i, hi⟩ := win_fin a2 3 (by decide)
  have wi : transhumancelaw2_within.f a2 3 = some (i.val : Int) := by rw [within_f a2 3 (by omega) (by omega)]; exact congrArg some hi
  have hil := i.isLt
  have hl := h.len
  refine Ev.val known_true (Ev.pos rfl (Ev.bind e ?_))
  by_cases hp : v.p = []
  · refine Ev.pos (by rw [show (outV v).2.2.2 = bs v.p from rfl, toList_bs]; exact hp) (Ev.val (a := wordsA) rfl (Ev.val wi (Ev.pos (by omega) (Ev.pos (by show _ < ((3 : Nat) : Int); omega) ?_))))
    obtain ⟨n1, n2⟩ := wordsA_ok i
    have hc := cmp_ev v ⟨v.a, v.b, v.c, (rdOf ByteArray.empty wordsA (i.val : Int)).data.toList⟩ (by omega) (by simp only [size_list]; omega)
    rw [show cmpV v ⟨v.a, v.b, v.c, (rdOf ByteArray.empty wordsA (i.val : Int)).data.toList⟩ = 1 from by
      have := cmpV_p v.a v.b v.c v.p (rdOf ByteArray.empty wordsA (i.val : Int)).data.toList
      rw [hp, nil_ahead _ n1] at this
      rw [← this, ← hp]] at hc
    simp only [bs_data] at hc
    exact Ev.bind hc (Ev.ret rfl)
  · refine Ev.neg (by rw [show (outV v).2.2.2 = bs v.p from rfl, toList_bs]; exact hp) (Ev.pos (by rw [show (outV v).2.2.2 = bs v.p from rfl, size_bs]; omega) (Ev.val (a := wordsB) rfl (Ev.val wi (Ev.pos (by omega) (Ev.pos (by show _ < ((3 : Nat) : Int); omega) ?_)))))
    have n2 := wordsB_ok i
    have s1 : (⟨#[46]⟩ : ByteArray).size = 1 := rfl
    refine Ev.pos (by rw [ByteArray.size_append, s1, show (outV v).2.2.2 = bs v.p from rfl, size_bs]; omega) ?_
    have ep : ((outV v).2.2.2 ++ (⟨#[46]⟩ : ByteArray)) ++ rdOf ByteArray.empty wordsB (i.val : Int) = bs (v.p ++ 46 :: (rdOf ByteArray.empty wordsB (i.val : Int)).data.toList) := by
      apply ext_bs
      simp [outV, bs, ByteArray.data_append]
    show Ev (fun n => (transhumanceref2_Right.f n (outV v).1 (outV v).2.1 (outV v).2.2.1 (((outV v).2.2.2 ++ (⟨#[46]⟩ : ByteArray)) ++ rdOf ByteArray.empty wordsB (i.val : Int))).bind fun t => if t = true then ((ver_Cmp.f n (outV v).1 (outV v).2.1 (outV v).2.2.1 (outV v).2.2.2 (outV v).1 (outV v).2.1 (outV v).2.2.1 (((outV v).2.2.2 ++ (⟨#[46]⟩ : ByteArray)) ++ rdOf ByteArray.empty wordsB (i.val : Int))).bind fun t356 => (if t356 < 0 then ((ver_Cmp.f n (outV v).1 (outV v).2.1 (outV v).2.2.1 (((outV v).2.2.2 ++ (⟨#[46]⟩ : ByteArray)) ++ rdOf ByteArray.empty wordsB (i.val : Int)) (outV v).1 (outV v).2.1 (outV v).2.2.1 (⟨#[]⟩ : ByteArray)).bind fun t357 => (some (decide (t357 < 0)))) else (some false))) else (some true)) true
    rw [ep]
    have hlen : (v.p ++ 46 :: (rdOf ByteArray.empty wordsB (i.val : Int)).data.toList).length ≤ 100 := by simp only [List.length_append, List.length_cons, size_list]; omega
    have hr := rright_ev v.a v.b v.c (bs (v.p ++ 46 :: (rdOf ByteArray.empty wordsB (i.val : Int)).data.toList)) (by rw [size_bs]; omega)
    generalize (rdOf ByteArray.empty wordsB (i.val : Int)).data.toList = q at *
    refine Ev.bind hr ?_
    cases hb : rightV v.a v.b v.c (bs (v.p ++ 46 :: q)).data.toList with
    | false => exact Ev.neg (by simp) (Ev.now _)
    | true =>
      have c1 := cmp_ev v ⟨v.a, v.b, v.c, v.p ++ 46 :: q⟩ (by omega) (by simp only; omega)
      have k1 : cmpV v ⟨v.a, v.b, v.c, v.p ++ 46 :: q⟩ = -1 := by
        have h1 := cmpV_p v.a v.b v.c v.p (v.p ++ 46 :: q)
        have h2 := way_ahead.anti (v.p ++ 46 :: q) v.p
        rw [ahead_longer v.p q hp] at h2
        rw [h2] at h1
        exact h1
      rw [k1] at c1
      have c2 := cmp_ev ⟨v.a, v.b, v.c, v.p ++ 46 :: q⟩ ⟨v.a, v.b, v.c, []⟩ (by simp only; omega) (by simp)
      rw [cmpV_p, ahead_nil _ (by simp)] at c2
      exact Ev.pos rfl (Ev.bind c1 (Ev.pos (by decide) (Ev.bind c2 (Ev.ret rfl))))
end Go.Proofs.YtbdojilhmgfdcaaGreatDoor.Pure
