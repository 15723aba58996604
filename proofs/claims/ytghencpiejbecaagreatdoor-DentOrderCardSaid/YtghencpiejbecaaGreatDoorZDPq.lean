import Derived.Test.YtghencpiejbecaaGreatDoorZDPo
import Derived.Test.YtghencpiejbecaaGreatDoorZQ11
set_option linter.unusedVariables false
set_option linter.unusedSimpArgs false
namespace Go.Proofs.YtghencpiejbecaaGreatDoor.Q
open Go.RowKit Go.Proofs.YtghencpiejbecaaGreatDoorW.PrintWords Go.Proofs.YtghencpiejbecaaGreatDoorW.PrintLast Go.Proofs.YtghencpiejbecaaGreatDoorW.PrintMore
theorem rows_l0 (l : List Lk) (hl : l.length ≤ 1000) : ∀ (d i : Nat), i + d = l.length → Ev (fun k => transhumanceref5_Rows.l0 k (outs l) (outs l) i) true
  | 0, i, hd => Ev.step (fun _ => transhumanceref5_Rows.l0.eq_2 ..) (Ev.neg (by simp only [outs, List.length_map]; omega) (Ev.now _))
  | d + 1, i, hd => by
    have hw : wrap64 ((i : Int) + 1) = ((i + 1 : Nat) : Int) := wrap_id (by omega) (by omega)
    have hl2 : (outs l).length = l.length := by simp [outs]
    refine Ev.step (fun _ => transhumanceref5_Rows.l0.eq_2 ..) (Ev.pos (by omega) (Ev.pos (by omega) (Ev.pos (by omega) (Ev.neg ?_ ?_))))
    · simp
    · rw [hw]
      exact rows_l0 l hl d (i + 1) (by omega)
theorem rows_ev (l : List Lk) (hl : l.length ≤ 1000) : Ev (fun k => transhumanceref5_Rows.f k (outs l) (outs l)) true :=
  Ev.pos rfl (rows_l0 l hl l.length 0 (by omega))
theorem dent_read {T : ByteArray} {l : List Lk} (h : locksD T.data.toList = (l, 0, 0)) (hz : T.size ≤ 140737488351232) : dent_Locks.f T = some (outs l, 0, 0, 0) := by
  unfold dent_Locks.f
  rw [if_pos hz, h]
  unfold dent_Locks.line
  rw [h]
  rfl
theorem dent_some (T : ByteArray) (hz : T.size ≤ 140737488351232) : ∃ r, dent_Locks.f T = some r := ⟨_, if_pos hz⟩
theorem nm_at (k : Nat) : rdOf ByteArray.empty names (k : Int) = nm k := by
  simp [rdOf, nm]
def linesOf : Bool → List Fl → List (List UInt8)
  | true, fs => blockLines fs
  | false, fs => nextLines fs
theorem linesOf_cons (m : Bool) (f : Fl) (fs : List Fl) : linesOf m (f :: fs) = (lineOf m f.k f.w ++ [10]) :: linesOf false fs := by
  cases m <;> rfl
def markB (m : Bool) : ByteArray := if m then (⟨#[45, 32]⟩ : ByteArray) else (⟨#[32, 32]⟩ : ByteArray)
theorem line_text (m : Bool) (k : Nat) (acc w : ByteArray) : (((((acc ++ markB m) ++ rdOf ByteArray.empty names (k : Int)) ++ (⟨#[58, 32]⟩ : ByteArray)) ++ w) ++ (⟨#[10]⟩ : ByteArray)) = acc ++ bs (lineOf m k w.data.toList ++ [10]) := by
  rw [nm_at]
  apply ext_bs
  cases m <;> simp [ByteArray.data_append, lineOf, markB, data_bs]
theorem mark_size (m : Bool) : (markB m).size = 2 := by cases m <;> rfl
theorem line_len (m : Bool) (k : Nat) (hk : k < 5) (w : List UInt8) : (lineOf m k w ++ [10]).length ≤ w.length + 13 := by
  have h := (names_sz k hk).1
  rw [nm_at] at h
  have h2 := data_length (nm k)
  unfold lineOf
  simp only [List.length_append, List.length_cons, List.length_nil]
  cases m <;> simp <;> omega
end Go.Proofs.YtghencpiejbecaaGreatDoor.Q
