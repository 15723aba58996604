import Derived.Test.YtljfcdfdedkajaaDoorZTsg
import Derived.Test.YtljfcdfdedkajaaDoorZTLocksg
import Derived.Test.YtljfcdfdedkajaaDoorZPcg
set_option linter.unusedVariables false
set_option linter.unusedSimpArgs false
namespace Go.Proofs.YtljfcdfdedkajaaDoor.Q
open Go.RowKit Go.Proofs.YtljfcdfdedkajaaDoorW.PrintWords
theorem common_pre : ∀ l m : List UInt8, common l m = l.length → l.isPrefixOf m = true
 | [], m, _ => by simp
 | x :: l, [], h => by simp [common] at h
 | x :: l, y :: m, h => by
  unfold common at h
  split at h
  ·rename_i e
   subst e
   simp only [List.length_cons, Nat.add_right_cancel_iff] at h
   simp [List.isPrefixOf, common_pre l m h]
  ·simp at h
theorem pre_common : ∀ l m : List UInt8, l.isPrefixOf m = true → common l m = l.length
 | [], m, _ => by cases m <;> rfl
 | x :: l, [], h => by simp at h
 | x :: l, y :: m, h => by
  simp only [List.isPrefixOf, Bool.and_eq_true, beq_iff_eq] at h
  unfold common
  rw [if_pos h.1, pre_common l m h.2]
  rfl
theorem spanEnd_mid (p : UInt8 → Bool) (s : ByteArray) : ∀ (d i j : Nat), j = i + d → (h : j < s.size) → j < spanEnd p s i → p (s[j]'h) = true := by
 intro d
 induction d with
 | zero =>
  intro i j hj h hlt
  obtain rfl : j = i := by omega
  cases hp : p s[j] with
  | true => rfl
  | false =>
   rw [spanEnd_no p s j h hp] at hlt
   omega
 | succ d ih =>
  intro i j hj h hlt
  have hi : i < s.size := by omega
  cases hp : p s[i] with
  | true => exact ih (i + 1) j (by omega) h (by rw [← spanEnd_yes p s i hi hp]; exact hlt)
  | false =>
   rw [spanEnd_no p s i hi hp] at hlt
   omega
theorem note_not10 (b : UInt8) (h : noteB b = true) : not10 b = true := by
 simp only [noteB, Bool.and_eq_true] at h
 exact h.2
theorem rest_both (s : ByteArray) (P : Nat) (hP : P ≤ s.size) :
  (∃ q a', rest6 s P = (none, q) ∧ restR s P = (true, a') ∧ (q = a' ∨ (s.size ≤ q ∧ q ≤ s.size + 1 ∧ s.size = a'))) ∨ (∃ k q, rest6 s P = (some k, q) ∧ q ≤ s.size + 1 ∧ restR s P = (false, k)) := by
 have hA := spanEnd_le blank s P hP
 unfold rest6 restR
 generalize spanEnd blank s P = A at *
 simp only
 by_cases h35 : byteAt s A = 35
 ·simp only [if_pos h35]
  have hAs : A < s.size := by
   rcases Nat.lt_or_ge A s.size with h | h
   ·exact h
   ·rw [byteAt_ge s h] at h35
    cases h35
  have hK := spanEnd_le noteB s A hA
  have hQ := spanEnd_le not10 s A hA
  have hKA := spanEnd_ge noteB s A
  have hQA := spanEnd_ge not10 s A
  have hKs := spanEnd_stop noteB s A hA
  have hQs := spanEnd_stop not10 s A hA
  have hKm := fun j (h1 : A ≤ j) h => spanEnd_mid noteB s (j - A) A j (by omega) h
  have hQm := fun j (h1 : A ≤ j) h => spanEnd_mid not10 s (j - A) A j (by omega) h
  generalize spanEnd noteB s A = K at *
  generalize spanEnd not10 s A = Q at *
  have hKQ : K ≤ Q := by
   rcases Nat.lt_or_ge Q K with h | h
   ·have h1 := hKm Q hQA (by omega) h
    have h2 := hQs (by omega)
    rw [note_not10 _ h1] at h2
    cases h2
   ·exact h
  by_cases hlt : K < Q
  ·refine .inr ⟨K, Q + 1, by rw [if_pos hlt], by omega, ?_⟩
   have h1 := hQm K hKA (by omega) hlt
   have h2 : byteAt s K ≠ 10 := by
    rw [byteAt_lt s (by omega)]
    have := not10_bool _ h1
    simpa only [bne_iff_ne, ne_eq] using this
   rw [if_neg h2, if_pos (by omega)]
  ·obtain rfl : K = Q := by omega
   refine .inl ?_
   rw [if_neg hlt]
   by_cases hs : K < s.size
   ·have h2 : byteAt s K = 10 := by
     rw [byteAt_lt s hs]
     have := not10_bool' _ (hQs hs)
     simpa only [bne_eq_false_iff_eq] using this
    exact ⟨K + 1, K + 1, rfl, by rw [if_pos h2], .inl rfl⟩
   ·refine ⟨K + 1, K, rfl, ?_, .inr ⟨by omega, by omega, by omega⟩⟩
    rw [byteAt_ge s (by omega), if_neg (by decide), if_neg hs]
 ·simp only [if_neg h35]
  by_cases h10 : byteAt s A = 10
  ·refine .inl ⟨A + 1, A + 1, ?_, by rw [if_pos h10], .inl rfl⟩
   rw [if_neg (fun h => h.2 h10)]
  ·by_cases hs : A < s.size
   ·refine .inr ⟨A, A + 1, by rw [if_pos ⟨hs, h10⟩], by omega, ?_⟩
    rw [if_neg h10, if_pos hs]
   ·refine .inl ⟨A + 1, A, by rw [if_neg (fun h => hs h.1)], ?_, .inr ⟨by omega, by omega, by omega⟩⟩
    rw [if_neg h10, if_neg hs]
def HasRel (has : Nat → Bool) (hv : ByteArray) : Prop := ∃ ks : List Nat, ks.Nodup ∧ (∀ k ∈ ks, k < 5) ∧ hv = hvOf ks ∧ ∀ k, k < 5 → has k = ks.contains k
theorem HasRel.at_ {has : Nat → Bool} {hv : ByteArray} (h : HasRel has hv) (k : Nat) (hk : k < 5) : has k = Lib.contains hv.data.toList (nm k ++ spc).data.toList := by
 obtain ⟨ks, h1, h2, rfl, h4⟩ := h
 rw [hv_has ks k h1 h2 hk, h4 k hk]
theorem HasRel.none : HasRel (fun _ => false) ⟨#[]⟩ := ⟨[], List.nodup_nil, by simp, rfl, by simp⟩
theorem HasRel.add {has : Nat → Bool} {hv : ByteArray} (h : HasRel has hv) (k : Nat) (hk : k < 5) (hn : has k = false) : HasRel (fun j => if j = k then true else has j) (hv ++ (nm k ++ spc)) := by
 obtain ⟨ks, h1, h2, rfl, h4⟩ := h
 have hnk : k ∉ ks := by
  rw [h4 k hk] at hn
  simpa using hn
 refine ⟨ks ++ [k], ?_, ?_, hv_snoc ks k, ?_⟩
 ·rw [List.nodup_append]
  refine ⟨h1, by simp, ?_⟩
  intro a ha b hb
  rw [List.mem_singleton.1 hb]
  rintro rfl
  exact hnk ha
 ·intro j hj
  rcases List.mem_append.1 hj with hj | hj
  ·exact h2 j hj
  ·rw [List.mem_singleton.1 hj]
   exact hk
 ·intro j hj
  show (if j = k then true else has j) = _
  rw [h4 j hj]
  by_cases e : j = k
  ·subst e
   simp
  ·simp [e]
def Good6 (w : World) (base p : Nat) (s : ByteArray) (st : PSt) : Prop :=
 ∃ (P : Nat) (a : Int) (lv : Value) (has : Nat → Bool), F6 w p s P 0 a lv has ∧ Ls w base lv st.l ∧ (P = st.a ∨ (s.size ≤ P ∧ P ≤ s.size + 1 ∧ s.size = st.a)) ∧ HasRel has st.hv
def Bad6 (w : World) (base p : Nat) (s : ByteArray) (wh : Nat) (e : Int) : Prop :=
 e ≠ 0 ∧ ∃ (P : Nat) (lv : Value) (has : Nat → Bool) (l : List Lk), F6 w p s P e wh lv has ∧ P ≤ s.size + 1 ∧ Ls w base lv l ∧ l.length ≤ 41
def Holds6 (w : World) (base p : Nat) (s : ByteArray) : Res → Prop
 | .bad wh e => Bad6 w base p s wh e
 | .ok st => Good6 w base p s st
def thenRest (s : ByteArray) : Res → Res
 | .bad wh e => .bad wh e
 | .ok st => if (restR s st.a).1 = true then .ok ⟨(restR s st.a).2, st.l, st.hv⟩ else .bad (restR s st.a).2 1
def Step6 (w : World) (base p : Nat) (s : ByteArray) (r : Res) (e : Ending) (w' : World) : Prop :=
 e = .returned (.tuple #[]) ∧ Holds6 w' base p s r ∧ Below base w w'
theorem rest_holds {w : World} {base p : Nat} {s : ByteArray} {A : Nat} {l : List Lk} {hv : ByteArray} {R : Res} {e a : Int} {lv : Value} {has : Nat → Bool} (hA : A ≤ s.size)
  (hF : F6 w p s (rest6 s A).2 (eAfter e (rest6 s A).1) (aAfter e a (rest6 s A).1) lv has) (hL : Ls w base lv l) (hl : l.length ≤ 41) (hh : HasRel has hv)
  (hR : (e = 0 ∧ R = thenRest s (.ok ⟨A, l, hv⟩)) ∨ (e ≠ 0 ∧ ∃ wh : Nat, a = wh ∧ R = .bad wh e)) : Holds6 w base p s R := by
 rcases rest_both s A hA with ⟨q, a', h1, h2, h3⟩ | ⟨k, q, h1, h2, h3⟩
 ·rw [h1] at hF
  rcases hR with ⟨rfl, rfl⟩ | ⟨he, wh, rfl, rfl⟩
  ·simp only [thenRest, h2, if_true]
   exact ⟨q, a, lv, has, hF, hL, h3, hh⟩
  ·refine ⟨he, q, lv, has, l, hF, ?_, hL, hl⟩
   have : a' ≤ s.size + 1 := by
    have := congrArg Prod.snd h2
    have h4 := spanEnd_le blank s A hA
    unfold restR at this
    simp only at this
    split at this
    all_goals (try split at this)
    all_goals (try split at this)
    all_goals (simp only at this; try have h5 := spanEnd_le noteB s _ h4; omega)
   omega
 ·rw [h1] at hF
  rcases hR with ⟨rfl, rfl⟩ | ⟨he, wh, rfl, rfl⟩
  ·simp only [thenRest, h3]
   exact ⟨by decide, q, lv, has, l, hF, h2, hL, hl⟩
  ·refine ⟨he, q, lv, has, l, ?_, h2, hL, hl⟩
   have e1 : fE e 1 = e := by unfold fE; rw [if_neg he]
   have e2 : fA e wh k = wh := by unfold fA; rw [if_neg he]
   simp only [eAfter, aAfter, e1, e2] at hF
   exact hF
end Go.Proofs.YtljfcdfdedkajaaDoor.Q
