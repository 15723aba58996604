/- DentBad answers true for every input: plain part, over what the program's dent.Locks computes. -/
import Derived.Test.YtghencpiejbecaaGreatDoorZDk
import Derived.Test.YtghencpiejbecaaGreatDoorZDPw
import Derived.Test.YtghencpiejbecaaGreatDoorZQ15
set_option linter.unusedVariables false
set_option linter.unusedSimpArgs false
namespace Go.Proofs.YtghencpiejbecaaGreatDoor.Pure
open Go.RowKit Go.Proofs.YtghencpiejbecaaGreatDoor.Q Go.Proofs.YtghencpiejbecaaGreatDoorW.PrintWords Go.Proofs.YtghencpiejbecaaGreatDoorW.PrintLast
def frontB : ByteArray := ⟨#[35, 32, 115, 111, 10, 108, 111, 99, 107, 115, 58, 10, 120, 10]⟩
def endB : ByteArray := ⟨#[35, 32, 101, 110, 100]⟩
theorem laid_data (T : ByteArray) (k : Nat) (b : UInt8) : ((T.extract 0 k ++ bs [b]) ++ T.extract k T.size).data.toList = T.data.toList.take k ++ b :: T.data.toList.drop k := by
  rw [ByteArray.data_append, ByteArray.data_append, ByteArray.data_extract, ByteArray.data_extract, show (bs [b]).data = #[b] from rfl]
  simp [List.extract_eq_take_drop]
  rw [List.take_of_length_le (by rw [List.length_drop, Q.data_length]; omega)]
theorem all_take {l : List UInt8} (h : l.all plainB = true) (k : Nat) : (l.take k).all plainB = true :=
  List.all_eq_true.2 fun x hx => List.all_eq_true.1 h x (List.mem_of_mem_take hx)
theorem bad_main (l0 l1 : List Int) (a2 : Int) (b : UInt8) (hb : plainB b = false) : Ev (fun k => transhumancelaw7_DentBad.j0 k l0 l1 a2 (b.toNat : Int) false) true := by
  obtain ⟨r, r1, r2, r3⟩ := locks_make l0 l1 5 (by omega)
  obtain ⟨t, t1, t2, t3⟩ := w7_ev r (by omega) r2.tame
  have e14 : frontB.size = 14 := rfl
  have e5 : endB.size = 5 := rfl
  have hT : ((frontB ++ t) ++ endB).size = 19 + t.size := by simp only [ByteArray.size_append, e14, e5]; omega
  have hTp : Plainy ((frontB ++ t) ++ endB) := ((plain_lit (l := [35, 32, 115, 111, 10, 108, 111, 99, 107, 115, 58, 10, 120, 10]) rfl).append t2).append (plain_lit (l := [35, 32, 101, 110, 100]) rfl)
  have hw : wrap64 ((((frontB ++ t) ++ endB).size : Int) + 1) = ((19 + t.size + 1 : Nat) : Int) := by rw [hT, wrap_id (by omega) (by omega)]; rfl
  obtain ⟨j, hj⟩ := win_fin a2 (19 + t.size + 1) (by omega)
  have hin : transhumancelaw7_within.f a2 (wrap64 ((((frontB ++ t) ++ endB).size : Int) + 1)) = some (j.val : Int) := by
    rw [hw, within_f a2 _ (by omega) (by omega), hj]
  have hjl := j.isLt
  refine Ev.step (fun _ => transhumancelaw7_DentBad.j0.eq_2 ..) (Ev.neg (by simp) (Ev.bind r1 (Ev.bind t1 (Ev.pos ?_ (Ev.pos ?_ (Ev.val hin (Ev.pos (by omega) (Ev.pos ?_ (Ev.val (a := [(b.toNat : Int)]) rfl ?_)))))))))
  · omega
  · show (frontB ++ t).size + 5 ≤ _
    simp only [ByteArray.size_append, e14]; omega
  · show (j.val : Int) ≤ (((frontB ++ t) ++ endB).size : Int)
    omega
  · have hs1 : strOfNums [(b.toNat : Int)] = bs [b] := strOf_list [b]
    rw [hs1, Int.toNat_natCast]
    show Ev (fun k => if (((frontB ++ t) ++ endB).extract 0 j.val).size + (bs [b]).size ≤ 9223372036854775807 then (if (((((frontB ++ t) ++ endB)).extract 0 j.val) ++ bs [b]).size + (((frontB ++ t) ++ endB).extract j.val ((frontB ++ t) ++ endB).size).size ≤ 9223372036854775807 then ((dent_Locks.f (((((frontB ++ t) ++ endB)).extract 0 j.val ++ bs [b]) ++ ((frontB ++ t) ++ endB).extract j.val ((frontB ++ t) ++ endB).size)).bind fun bt217 => (if bt217.2.2.2 = 1 then ((transhumanceref1_Place.f k (((((frontB ++ t) ++ endB)).extract 0 j.val ++ bs [b]) ++ ((frontB ++ t) ++ endB).extract j.val ((frontB ++ t) ++ endB).size) (j.val : Int)).bind fun bt224 => (if (bt217.2.1 == bt224.1 && (bt217.2.2.1 == bt224.2)) = true then (some ((bt217.1.length : Int) == 0)) else (some false))) else (some false))) else none) else none) true
    generalize (frontB ++ t) ++ endB = T at *
    have hd := laid_data T j.val b
    have hbz : (bs [b]).size = 1 := by rw [size_bs]; rfl
    have hUz : ((T.extract 0 j.val ++ bs [b]) ++ T.extract j.val T.size).size = T.size + 1 := by
      simp only [ByteArray.size_append, ByteArray.size_extract, hbz]; omega
    have hlen : (T.data.toList.take j.val).length = j.val := by rw [List.length_take, Q.data_length]; omega
    refine Ev.pos ?_ (Ev.pos ?_ ?_)
    · simp only [ByteArray.size_extract, hbz]; omega
    · simp only [ByteArray.size_append, ByteArray.size_extract, hbz]; omega
    · generalize (T.extract 0 j.val ++ bs [b]) ++ T.extract j.val T.size = U at *
      have hl := locks_badbyte (T.data.toList.take j.val) (T.data.toList.drop j.val) b (all_take hTp _) hb (by rw [← hd, Q.data_length]; omega)
      rw [← hd, hlen] at hl
      have hline : dent_Locks.line U = place (U.data.toList.take j.val) := by
        unfold dent_Locks.line
        rw [hl]
        rfl
      have hf : dent_Locks.f U = some ([], ((place (U.data.toList.take j.val)).1 : Int), ((place (U.data.toList.take j.val)).2 : Int), 1) := by
        unfold dent_Locks.f
        rw [if_pos (by omega), hline, hl]
        rfl
      refine Ev.val hf (Ev.pos rfl (Ev.bind (place_ev U (by omega) j.val (by omega)) (Ev.pos (by simp) (Ev.now _))))
theorem DentBad : transhumancelaw7_DentBad.Pure := by
  intro l0 l1 a2 a3 _ _ _ _ _ _ _ w3
  apply Ev.rounds
  unfold transhumancelaw7_DentBad.f
  refine Ev.val known_true (Ev.pos rfl ?_)
  have jt : Ev (fun k => transhumancelaw7_DentBad.j0 k l0 l1 a2 a3 true) true := Ev.step (fun _ => transhumancelaw7_DentBad.j0.eq_2 ..) (Ev.pos rfl (Ev.now _))
  have hrange : 0 ≤ a3 ∧ a3 < 256 := by
    have := w3
    simp [Lit.wf] at this
    have e1 : IntKind.u8.min = 0 := rfl
    have e2 : IntKind.u8.max = 255 := rfl
    omega
  have main : ¬ a3 = 9 → ¬ a3 = 10 → ¬ (32 ≤ a3 ∧ a3 ≤ 126) → Ev (fun k => transhumancelaw7_DentBad.j0 k l0 l1 a2 a3 false) true := by
    intro h9 h10 h32
    obtain ⟨b, rfl⟩ : ∃ b : UInt8, a3 = (b.toNat : Int) := ⟨UInt8.ofNat a3.toNat, by rw [UInt8.toNat_ofNat']; omega⟩
    refine bad_main l0 l1 a2 b ?_
    rw [← plain_int]
    unfold plainI
    rw [show (((b.toNat : Int)) == 9) = false from by simpa using h9, show (((b.toNat : Int)) == 10) = false from by simpa using h10]
    by_cases h : 32 ≤ (b.toNat : Int)
    · rw [decide_eq_true h, decide_eq_false (fun h2 => h32 ⟨h, h2⟩)]; rfl
    · rw [decide_eq_false h]; rfl
  by_cases c1 : (l1.length : Int) > 60
  · exact Ev.pos c1 jt
  by_cases c2 : a3 = 9
  · exact Ev.neg c1 (Ev.pos c2 jt)
  by_cases c3 : a3 = 10
  · exact Ev.neg c1 (Ev.neg c2 (Ev.pos c3 jt))
  by_cases c4 : a3 ≥ 32
  · refine Ev.neg c1 (Ev.neg c2 (Ev.neg c3 (Ev.pos c4 ?_)))
    by_cases c5 : a3 ≤ 126
    · rw [decide_eq_true c5]; exact jt
    · rw [decide_eq_false c5]; exact main c2 c3 (by omega)
  · exact Ev.neg c1 (Ev.neg c2 (Ev.neg c3 (Ev.neg c4 (main c2 c3 (by omega)))))
end Go.Proofs.YtghencpiejbecaaGreatDoor.Pure
