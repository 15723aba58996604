import Derived.Test.YtghencpiejbecaaGreatDoorZDs
import Derived.Test.YtghencpiejbecaaGreatDoorZEnv
import Derived.Test.YtghencpiejbecaaGreatDoorZShelf
set_option linter.unusedVariables false
set_option linter.unusedSimpArgs false
namespace Go.Proofs.YtghencpiejbecaaGreatDoor.Q
open Go.RowKit Go.Proofs.YtghencpiejbecaaGreatDoorW.PrintWords
def Rd (w : World) (p : Nat) (wh e : Int) (lv hv : Value) : Prop := Blk w p 63 #[.int .i64 wh, .int .i64 e, lv, hv]
section
variable (w : World)
set_option maxHeartbeats 400000 in
theorem wrong_set (p : Nat) (wh : Int) (lv hv : Value) (h : Rd w p wh 0 lv hv) (a x : Int) :
    Calls Tryz.prog 29 #[.pointer (some ⟨p, 0, none⟩), .int .i64 a, .int .i64 x] w fun e w' => e = .returned (.tuple #[]) ∧ Rd w' p a x lv hv ∧ Fr (· = p) w w' := by
  have h0 := h.cell 0
  have h1 := h.cell 1
  have f0 := h.unfrozen 0
  have f1 := h.unfrozen 1
  have H := Lib.hid h
  clear h
  go_enter Tryz.func29, Tryz.ntmps29
  go_wp2
  go_end0
  exact ⟨rfl, (H.out.put 0 _).put 1 _, ((Fr.refl (· = p) w).put (.inl rfl) _).put (.inl rfl) _⟩
set_option maxHeartbeats 400000 in
theorem wrong_keep (p : Nat) (wh e : Int) (lv hv : Value) (h : Rd w p wh e lv hv) (he : e ≠ 0) (a x : Int) :
    Calls Tryz.prog 29 #[.pointer (some ⟨p, 0, none⟩), .int .i64 a, .int .i64 x] w fun e w' => e = .returned (.tuple #[]) ∧ w = w' := by
  have h1 := h.cell 1
  have hb : (e == 0) = false := by simpa using he
  clear h he
  go_enter Tryz.func29, Tryz.ntmps29
  go_wp2
  go_end0
  exact ⟨rfl, rfl⟩
theorem wrong_any (p : Nat) (wh e : Int) (lv hv : Value) (h : Rd w p wh e lv hv) (a x : Int) :
    Calls Tryz.prog 29 #[.pointer (some ⟨p, 0, none⟩), .int .i64 a, .int .i64 x] w fun e' w' => e' = .returned (.tuple #[]) ∧ Rd w' p (if e = 0 then a else wh) (if e = 0 then x else e) lv hv ∧ Fr (· = p) w w' := by
  by_cases he : e = 0
  · subst he
    exact wrong_set w p wh lv hv h a x
  · refine (wrong_keep w p wh e lv hv h he a x).mono ?_
    rintro e' w' ⟨rfl, rfl⟩
    exact ⟨rfl, by rw [if_neg he, if_neg he]; exact h, Fr.refl _ _⟩
def EndPost (w : World) (p : Nat) (lv hv : Value) (wh : Int) (a : Int) (x : Int) (e : Ending) (w' : World) : Prop :=
  e = .returned (.tuple #[]) ∧ Rd w' p (if x = 0 then wh else a) x lv hv ∧ Fr (· = p) w w'
theorem EndPost.bad {w w' : World} {p : Nat} {lv hv : Value} {wh a x k : Int} (hx : x = k) (hk : k ≠ 0) (h : Rd w' p a k lv hv) (hf : Fr (· = p) w w') : EndPost w p lv hv wh a x (.returned (.tuple #[])) w' := by
  subst hx
  exact ⟨rfl, by rw [if_neg hk]; exact h, hf⟩
theorem EndPost.good {w w' : World} {p : Nat} {lv hv : Value} {wh a x : Int} (hx : x = 0) (h : Rd w' p wh 0 lv hv) (hf : Fr (· = p) w w') : EndPost w p lv hv wh a x (.returned (.tuple #[])) w' := by
  subst hx
  exact ⟨rfl, h, hf⟩
variable (p : Nat) (lv hv : Value) (wh : Int)
set_option maxHeartbeats 1000000 in
set_option maxRecDepth 100000 in
theorem ended_calls (a : Int) (base : Nat) (l : List Lk) (h : Rd w p wh 0 lv hv) (hl : Ls w base lv l) (hn : l.length ≤ 40) :
    Calls Tryz.prog 34 #[.pointer (some ⟨p, 0, none⟩), .int .i64 a] w (EndPost w p lv hv wh a (endedE l)) := by
  rcases List.eq_nil_or_concat l with rfl | ⟨init, x, rfl⟩
  · obtain ⟨A, cc, rfl⟩ := own_slice hl
    have h2 := h.cell 2
    have H := Lib.hid h
    clear h hl
    go_enter Tryz.func34, Tryz.ntmps34
    go_wp2_with (fail)
    refine bodyPost_ret (results_none rfl _ _ _) rfl ?_
    exact ⟨rfl, H.out, Fr.refl _ _⟩
  · rw [List.concat_eq_append] at *
    obtain ⟨q, cap, rfl, at_⟩ := hl.at_ (by simp)
    have hlt : init.length < (init ++ [x]).length := by simp
    have hx : (init ++ [x])[init.length] = x := by simp
    have c0 : w.cell? ⟨q, init.length * 5, none⟩ = some (.string x.root) := by have := at_.cell init.length 0 hlt (by omega); rw [hx] at this; exact this
    have c1 : w.cell? ⟨q, init.length * 5 + 1, none⟩ = some (.string x.version) := by have := at_.cell init.length 1 hlt (by omega); rw [hx] at this; exact this
    have c2 : w.cell? ⟨q, init.length * 5 + 2, none⟩ = some (.string x.rev) := by have := at_.cell init.length 2 hlt (by omega); rw [hx] at this; exact this
    have c3 : w.cell? ⟨q, init.length * 5 + 3, none⟩ = some (.string x.within) := by have := at_.cell init.length 3 hlt (by omega); rw [hx] at this; exact this
    have c4 : w.cell? ⟨q, init.length * 5 + 4, none⟩ = some (.string x.source) := by have := at_.cell init.length 4 hlt (by omega); rw [hx] at this; exact this
    have HI : ∀ j k, (h : j < init.length) → k < 5 → w.cell? ⟨q, j * 5 + k, none⟩ = (init[j].cells)[k]? := fun j k hj hk => by
      have := at_.cell j k (by simp; omega) hk
      rwa [List.getElem_append_left hj] at this
    have HI := Lib.hid HI
    have HA := Lib.hid at_
    have HE := Lib.hid (endedE_snoc init x)
    have hlen : (init ++ [x]).length = init.length + 1 := by simp
    rw [hlen] at h ⊢
    have h2 := h.cell 2
    have hpl : p < w.heap.size := Blk.lt h
    have hql : q < w.heap.size := at_.lt
    have hcap : init.length + 1 ≤ cap := by have := at_.le; simp at this; omega
    have H := Lib.hid h
    clear h hl at_ hlt hx hlen
    generalize endedE (init ++ [x]) = E at *
    go_enter Tryz.func34, Tryz.ntmps34
    have hb : init.length ≤ 39 := by simp at hn; omega
    clear hn
    cases hr : x.root.toList.isEmpty with
    | true =>
      rw [hr, Bool.true_or, if_pos rfl] at HE
      go_wp2_with (fail)
      refine (wrong_set _ p wh _ hv (H.out.alloc _) _ _).mono ?_
      rintro e w1 ⟨rfl, hr1, hf1⟩
      have HR1 := Lib.hid hr1
      have HF1 := Lib.hid hf1
      clear hr1 hf1
      go_wp2_with (fail)
      refine bodyPost_ret (results_none rfl _ _ _) rfl ?_
      exact EndPost.bad HE.out (by simp) HR1.out (((Fr.refl (· = p) w).alloc _).same HF1.out)
    | false =>
      rw [hr, Bool.false_or] at HE
      have tail : (x.rev.toList.isEmpty && x.version.toList.isEmpty) = false → True := fun _ => trivial
      clear tail
      have HB0 := Lib.hid (contains_calls (w.alloc (.cells x.arr 43)) w.heap.size q cap x init (Blk.new w _ _) (fun j k hj hk => by
        have h1 := HI.out j k hj hk
        have h2 : (init[j].cells)[k]? ≠ none := by
          have : k < (init[j].cells).length := hk
          simp [this]
        rw [← h1]
        exact World.cell?_alloc_past _ _ _ hql) (by omega))
      cases hw : x.rev.toList.isEmpty with
      | true =>
        cases hy : x.version.toList.isEmpty with
        | true =>
          rw [hw, hy, Bool.true_and, if_pos rfl] at HE
          go_wp2_with (fail)
          refine (wrong_set _ p wh _ hv (H.out.alloc _) _ _).mono ?_
          rintro e w1 ⟨rfl, hr1, hf1⟩
          have HR1 := Lib.hid hr1
          have HF1 := Lib.hid hf1
          clear hr1 hf1
          go_wp2_with (fail)
          refine bodyPost_ret (results_none rfl _ _ _) rfl ?_
          exact EndPost.bad HE.out (by simp) HR1.out (((Fr.refl (· = p) w).alloc _).same HF1.out)
        | false =>
          rw [hw, hy, Bool.true_and, if_neg (by simp)] at HE
          go_wp2_with (fail)
          refine HB0.out.mono ?_
          rintro e w1 ⟨rfl, hb1⟩
          have hr1 := (H.out.alloc (.cells x.arr 43)).below hb1
          have HF1 := Lib.hid (((Fr.refl (· = p) w).alloc (.cells x.arr 43)).same (Fr.of_below hb1))
          have HR1 := Lib.hid hr1
          clear hb1 hr1
          cases ha : init.any (fun z => z.root.toList == x.root.toList) with
          | true =>
            rw [ha, if_pos rfl] at HE
            go_wp2_with (fail)
            refine (wrong_set _ p wh _ hv HR1.out _ _).mono ?_
            rintro e w2 ⟨rfl, hr2, hf2⟩
            have HR2 := Lib.hid hr2
            have HF2 := Lib.hid hf2
            clear hr2 hf2
            go_wp2_with (fail)
            refine bodyPost_ret (results_none rfl _ _ _) rfl ?_
            exact EndPost.bad HE.out (by simp) HR2.out (HF1.out.same HF2.out)
          | false =>
            rw [ha, if_neg (by simp)] at HE
            go_wp2_with (fail)
            refine bodyPost_ret (results_none rfl _ _ _) rfl ?_
            exact EndPost.good HE.out HR1.out HF1.out
      | false =>
        rw [hw, Bool.false_and, if_neg (by simp)] at HE
        go_wp2_with (fail)
        refine HB0.out.mono ?_
        rintro e w1 ⟨rfl, hb1⟩
        have hr1 := (H.out.alloc (.cells x.arr 43)).below hb1
        have HF1 := Lib.hid (((Fr.refl (· = p) w).alloc (.cells x.arr 43)).same (Fr.of_below hb1))
        have HR1 := Lib.hid hr1
        clear hb1 hr1
        cases ha : init.any (fun z => z.root.toList == x.root.toList) with
        | true =>
          rw [ha, if_pos rfl] at HE
          go_wp2_with (fail)
          refine (wrong_set _ p wh _ hv HR1.out _ _).mono ?_
          rintro e w2 ⟨rfl, hr2, hf2⟩
          have HR2 := Lib.hid hr2
          have HF2 := Lib.hid hf2
          clear hr2 hf2
          go_wp2_with (fail)
          refine bodyPost_ret (results_none rfl _ _ _) rfl ?_
          exact EndPost.bad HE.out (by simp) HR2.out (HF1.out.same HF2.out)
        | false =>
          rw [ha, if_neg (by simp)] at HE
          go_wp2_with (fail)
          refine bodyPost_ret (results_none rfl _ _ _) rfl ?_
          exact EndPost.good HE.out HR1.out HF1.out
end
end Go.Proofs.YtghencpiejbecaaGreatDoor.Q
