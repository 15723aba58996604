import Derived.Test.YtjdjljgbfpkbdaaGreatDoorZDPyg
import Derived.Test.YtjdjljgbfpkbdaaGreatDoorZDWr
set_option linter.unusedVariables false
set_option linter.unusedSimpArgs false
namespace Go.Proofs.YtjdjljgbfpkbdaaGreatDoor.Q
open Go.RowKit Go.Proofs.YtjdjljgbfpkbdaaGreatDoorW.PrintWords Go.Proofs.YtjdjljgbfpkbdaaGreatDoorW.PrintLast Go.Proofs.YtjdjljgbfpkbdaaGreatDoorW.PrintMore
theorem flat_append (a b : List ByteArray) : flat (a ++ b) = flat a ++ flat b := by simp [flat]
theorem wval_data (v : ByteArray) : (wvalB v).data.toList = wq v.data.toList := by
  unfold wvalB wq
  split <;> simp
theorem piece_line (m : Bool) (k : Nat) (v : ByteArray) : flat (pieceB m (nm k) v) = lineOf m k (wq v.data.toList) ++ [10] := by
  have hv := wval_data v
  unfold flat pieceB lineOf
  simp only [List.map_cons, List.map_nil, List.flatten_cons, List.flatten_nil, hv]
  cases m <;> simp [mk]
theorem out_lines (x : Lk) : ∀ (d t : Nat) (m : Bool), t + d = 5 → flat (outB m ((wfs x).drop t)) = (linesOf m (fldsFrom wq x 0 t d)).flatten
  | 0, t, m, ht => by
    obtain rfl : t = 5 := by omega
    cases m <;> rfl
  | d + 1, t, m, ht => by
    have h5 : t < 5 := by omega
    have e5 : (t + 0) % 5 = t := by omega
    have hf : fldsFrom wq x 0 t (d + 1) = fldAt wq x 0 t ++ fldsFrom wq x 0 (t + 1) d := rfl
    have hd : (wfs x).drop t = (nm t, x.get t) :: (wfs x).drop (t + 1) := by
      rcases t with _ | _ | _ | _ | _ | t
      all_goals first | rfl | omega
    rw [hf, hd]
    unfold outB fldAt
    rw [e5]
    cases he : (x.get t).toList.isEmpty with
    | true =>
      rw [if_pos rfl, if_pos (by rw [← Lib.toList_data]; exact List.isEmpty_iff.1 he), List.nil_append]
      exact out_lines x d (t + 1) m (by omega)
    | false =>
      rw [if_neg (by simp), if_neg (by
        rw [← Lib.toList_data]
        intro h
        rw [h] at he
        cases he), List.singleton_append, linesOf_cons, List.flatten_cons, flat_append, piece_line, out_lines x d (t + 1) false (by omega)]
theorem writeB_text : ∀ (l : List Lk) (i : Nat), flat (writeB l) = (blocksText (blksFrom wq (fun _ => 0) i l)).flatten
  | [], i => rfl
  | x :: l, i => by
    have ih := writeB_text l (i + 1)
    have h1 := out_lines x 5 0 true (by omega)
    rw [List.drop_zero] at h1
    have e : writeB (x :: l) = outB true (wfs x) ++ writeB l := by simp [writeB]
    rw [e, flat_append, h1, ih]
    simp only [blksFrom, blocksText, List.flatMap_cons, List.flatten_append]
    rfl
theorem writeD_text {l : List Lk} (h : l ≠ []) : writeD l = wtext l := by
  unfold writeD wtext
  rw [if_neg h]
  unfold blocksDoc wblks
  have e : flat (locksB :: writeB l) = locksB.data.toList ++ flat (writeB l) := by simp [flat]
  rw [e, writeB_text l 0]
  rfl
end Go.Proofs.YtjdjljgbfpkbdaaGreatDoor.Q
