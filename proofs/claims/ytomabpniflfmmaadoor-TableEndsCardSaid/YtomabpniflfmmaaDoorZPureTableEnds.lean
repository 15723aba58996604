/- TableEnds answers true for every input: plain part, over what the program's table.Locks and table.Write compute. -/
import Derived.Test.YtomabpniflfmmaaDoorZPk
import Derived.Test.YtomabpniflfmmaaDoorZPng
import Derived.Test.YtomabpniflfmmaaDoorZQ17
namespace Go.Proofs.YtomabpniflfmmaaDoor.Pure
open Go.RowKit Go.Proofs.YtomabpniflfmmaaDoor.Q Go.Proofs.YtomabpniflfmmaaDoorW.PrintWords Go.Proofs.YtomabpniflfmmaaDoorW.PrintLast
theorem ends_all : ∀ z : Fin 9, (locksR ((⟨#[35, 32, 97, 10, 9, 32, 10, 35]⟩ : ByteArray).extract 0 z.val)).1.isEmpty = true ∧ (locksR ((⟨#[35, 32, 97, 10, 9, 32, 10, 35]⟩ : ByteArray).extract 0 z.val)).2 = (0, 0) := by decide +kernel
theorem ends_texts (z : Fin 9) : locksR ((⟨#[35, 32, 97, 10, 9, 32, 10, 35]⟩ : ByteArray).extract 0 z.val) = ([], 0, 0) := by
  obtain ⟨h1, h2⟩ := ends_all z
  exact Prod.ext (List.isEmpty_iff.1 h1) h2
theorem its_last (l : List It) (h : l ≠ []) : ∃ m i, l = m ++ [i] := by
  rcases List.eq_nil_or_concat l with rfl | ⟨m, i, rfl⟩
  · exact absurd rfl h
  · exact ⟨m, i, by rw [List.concat_eq_append]⟩
theorem rows_pair (r : List Lk) (hl : r.length ≤ 1000) : Ev (fun k => transhumanceref5_Rows.f k (r.map Lk.out) (outs r)) true := rows_ev r hl
theorem TableEnds : transhumancelaw6_TableEnds.Pure := by
  intro l0 l1 a2
  intros
  apply Ev.rounds
  unfold transhumancelaw6_TableEnds.f
  refine Ev.val known_true (Ev.pos rfl ?_)
  by_cases hl : (l1.length : Int) > 60
  · exact Ev.pos hl (Ev.now _)
  refine Ev.neg hl ?_
  obtain ⟨r, r1, r2, r3⟩ := locks_make l0 l1 8 (by omega)
  have hsm := r2.small (by omega)
  have hln := write_len r hsm.lk
  refine Ev.bind r1 (Ev.bind (write_ev r hsm) ?_)
  by_cases hz : ((bs (writeText r)).size : Int) = 0
  · exact Ev.pos hz (Ev.step (fun _ => transhumancelaw6_TableEnds.j0.eq_2 ..) (Ev.pos rfl (Ev.now _)))
  refine Ev.neg hz ?_
  by_cases hg : ((bs (writeText r)).size : Int) > 7000
  · rw [decide_eq_true hg]
    exact Ev.step (fun _ => transhumancelaw6_TableEnds.j0.eq_2 ..) (Ev.pos rfl (Ev.now _))
  rw [decide_eq_false hg]
  rw [size_bs] at hz hg
  have hm : (r.map plainBlock).map (·.x) = r := by
    rw [List.map_map]
    exact (List.map_congr_left fun x _ => rfl).trans (List.map_id r)
  have hblk : ∀ b ∈ r.map plainBlock, b.ok := by
    intro b hb
    obtain ⟨x, _, rfl⟩ := List.mem_map.1 hb
    exact plain_ok x
  obtain ⟨k1, k2⟩ := blocks_run (r.map plainBlock) [] [] hblk (by rw [hm]; exact r2.ok (by omega))
  rw [hm] at k2
  rw [List.nil_append] at k2
  have hend : endedE r = 0 := ended_ok (r2.ok (by omega))
  have ht := write_items r
  generalize hits : (r.map plainBlock).flatMap Block.its = its at *
  have hne : its ≠ [] := by
    rintro rfl
    rw [ht] at hz
    exact hz rfl
  obtain ⟨m, i, rfl⟩ := its_last its hne
  have htx : writeText r = (itsText m ++ i.text) ++ [10] := by rw [ht, itsText_append]; simp [itsText]
  have hi1 : i.text ≠ [] := by
    intro e
    have hmem : i ∈ (r.map plainBlock).flatMap Block.its := by rw [hits]; simp
    obtain ⟨b, hb, hib⟩ := List.mem_flatMap.1 hmem
    obtain ⟨x, _, rfl⟩ := List.mem_map.1 hb
    rcases List.mem_cons.1 hib with rfl | hf
    · exact absurd e (by show plainHead.text ≠ []; decide)
    · obtain ⟨k, _, rfl⟩ := List.mem_map.1 hf
      simp [It.text, plainField] at e
  have hcut : (bs (writeText r)).extract 0 ((writeText r).length - 1) = bs (itsText m ++ i.text) := by
    rw [extract_bs, htx, List.drop_zero, List.length_append (bs := [10]), List.length_singleton, Nat.add_sub_cancel, List.take_left]
  have hfirst : locksR (bs (itsText m ++ i.text)) = (r, 0, 0) := by
    have := items_locks_end m i k1 (by have := congrArg List.length htx; simp only [List.length_append, List.length_cons, List.length_nil] at this ⊢; omega) hi1 (by rw [show itsNext (m ++ [i]) kn0 = itsNext (m ++ [i]) ⟨[], []⟩ from rfl, k2]; exact hend)
    rw [show itsNext (m ++ [i]) kn0 = itsNext (m ++ [i]) ⟨[], []⟩ from rfl, k2] at this
    exact this
  have hnote : (⟨0, 0, [], [], [], [], [], [35]⟩ : It).ok (itsNext (m ++ [i]) ⟨[], []⟩) := ⟨rfl, rfl, rfl, rfl, .inr ⟨[], rfl, rfl⟩, fun h => by simp at h, fun h => by simp at h⟩
  have hok2 : itsOk ((m ++ [i]) ++ [(⟨0, 0, [], [], [], [], [], [35]⟩ : It)]) kn0 := itsOk_append k1 ⟨hnote, trivial⟩
  have hnx2 : (itsNext ((m ++ [i]) ++ [(⟨0, 0, [], [], [], [], [], [35]⟩ : It)]) kn0).l = r := by
    rw [itsNext_append]
    exact k2
  have hsecond : locksR (bs (writeText r ++ [35])) = (r, 0, 0) := by
    have := items_locks_end (m ++ [i]) (⟨0, 0, [], [], [], [], [], [35]⟩ : It) hok2 (by rw [← ht]; show (writeText r ++ [35]).length ≤ 8000; simp only [List.length_append, List.length_cons, List.length_nil]; omega) (by decide) (by rw [hnx2]; exact hend)
    rw [hnx2, ← ht] at this
    exact this
  obtain ⟨z, hz9⟩ := win_fin a2 9 (by decide)
  have hz' : win a2 9 = (z.val : Int) := hz9
  have hzl := z.isLt
  have hw : wrap64 (((bs (writeText r)).size : Int) - 1) = ((((writeText r).length - 1) : Nat) : Int) := by
    rw [size_bs, wrap_id (by omega) (by omega)]
    omega
  refine Ev.step (fun _ => transhumancelaw6_TableEnds.j0.eq_2 ..) (Ev.neg (by simp) ?_)
  rw [hw, Int.toNat_natCast, hcut]
  have happ : bs (writeText r) ++ (⟨#[35]⟩ : ByteArray) = bs (writeText r ++ [35]) := bs_append _ [35]
  refine Ev.pos (by omega) (Ev.pos (by rw [size_bs]; omega) (Ev.val (locks_f_ok ?_ hfirst) (Ev.pos (by rw [size_bs]; omega) ?_)))
  · rw [size_bs]
    have := congrArg List.length htx
    simp only [List.length_append, List.length_cons, List.length_nil] at this ⊢
    omega
  rw [happ]
  refine Ev.val (locks_f_ok ?_ hsecond) (Ev.val ((within_f a2 9 (by decide) (by decide)).trans (congrArg some hz')) (Ev.pos (by omega) (Ev.pos (by omega) ?_)))
  · rw [size_bs]
    simp only [List.length_append, List.length_cons, List.length_nil]
    omega
  rw [Int.toNat_natCast]
  have hzs : ((⟨#[35, 32, 97, 10, 9, 32, 10, 35]⟩ : ByteArray).extract 0 z.val).size ≤ 140737488351232 := by
    have : (⟨#[35, 32, 97, 10, 9, 32, 10, 35]⟩ : ByteArray).size = 8 := rfl
    rw [ByteArray.size_extract]
    omega
  exact Ev.val (locks_f_ok hzs (ends_texts z)) (Ev.pos rfl (Ev.bind (rows_pair r (by omega)) (Ev.pos rfl (Ev.pos rfl (Ev.bind (rows_pair r (by omega)) (Ev.pos rfl (Ev.pos rfl (Ev.now _))))))))
end Go.Proofs.YtomabpniflfmmaaDoor.Pure
