import Derived.Test.YtghencpiejbecaaGreatDoorZDPl
import Derived.Test.YtghencpiejbecaaGreatDoorZQ13
set_option linter.unusedVariables false
set_option linter.unusedSimpArgs false
namespace Go.Proofs.YtghencpiejbecaaGreatDoor.Q
open Go.RowKit Go.Proofs.YtghencpiejbecaaGreatDoorW.PrintWords Go.Proofs.YtghencpiejbecaaGreatDoorW.PrintLast Go.Proofs.YtghencpiejbecaaGreatDoorW.PrintMore
theorem bad_f (b : UInt8) : transhumanceref1_bad.f (b.toNat : Int) = some (!plainB b) := by
  have all : ∀ n : Nat, n < 256 → transhumanceref1_bad.f (n : Int) = some (!plainB (UInt8.ofNat n)) := by decide +kernel
  have := all b.toNat b.toNat_lt
  simpa only [UInt8.ofNat_toNat] using this
theorem rplain_l0 (s : ByteArray) (hs : s.size ≤ 1000000) : ∀ (d i : Nat), i + d = s.size → Ev (fun k => transhumanceref1_Plain.l0 k s i) ((s.data.toList.drop i).all plainB)
  | 0, i, hi => by
    refine Ev.step (fun _ => transhumanceref1_Plain.l0.eq_2 ..) (Ev.neg (by omega) ?_)
    rw [List.drop_of_length_le (by rw [data_length]; omega)]
    exact Ev.now _
  | d + 1, i, hi => by
    have hlt : i < s.size := by omega
    refine Ev.step (fun _ => transhumanceref1_Plain.l0.eq_2 ..) (Ev.pos (by omega) (Ev.pos (by omega) ?_))
    rw [bt_get s i hlt, bad_f, drop_at s i hlt, List.all_cons]
    cases hp : plainB s[i] with
    | true =>
      rw [wrap_id (by omega) (by omega)]
      exact Ev.val rfl (Ev.neg (by simp) (by rw [Bool.true_and]; exact rplain_l0 s hs d (i + 1) (by omega)))
    | false => exact Ev.val rfl (Ev.pos rfl (Ev.now _))
theorem rplain_ev (s : ByteArray) (hs : s.size ≤ 1000000) : Ev (fun k => transhumanceref1_Plain.f k s) (s.data.toList.all plainB) := rplain_l0 s hs s.size 0 (by omega)
theorem rplain_one (s : ByteArray) (i : Nat) (h : i < s.size) : Ev (fun k => transhumanceref1_Plain.f k (s.extract i (i + 1))) (plainB s[i]) := by
  rw [extract_one s i h]
  have := rplain_ev (bs [s[i]]) (by rw [size_bs]; simp)
  rw [data_bs] at this
  simpa using this
theorem p7_l0 (s : ByteArray) (hs : s.size ≤ 1000) (h35 : ∀ h : 0 < s.size, s[0] ≠ 35) : ∀ (d i : Nat), i + d = s.size → ∃ b, Ev (fun k => transhumanceref7_plain.l0 k s i) b
  | 0, i, hi => ⟨true, Ev.step (fun _ => transhumanceref7_plain.l0.eq_2 ..) (Ev.neg (by omega) (Ev.now _))⟩
  | d + 1, i, hi => by
    have hlt : i < s.size := by omega
    have hw : wrap64 ((i : Int) + 1) = ((i + 1 : Nat) : Int) := wrap_id (by omega) (by omega)
    obtain ⟨b, hb⟩ := p7_l0 s hs h35 d (i + 1) (by omega)
    by_cases h10 : s[i] = 10
    · exact ⟨false, Ev.step (fun _ => transhumanceref7_plain.l0.eq_2 ..) (Ev.pos (by omega) (Ev.pos (by omega) (Ev.pos (by rw [bt_get s i hlt, h10]; rfl) (Ev.now _))))⟩
    have h10' : ¬ bt s (i : Int) = 10 := by rw [bt_get s i hlt]; exact fun h => h10 ((byte_int (n := 10) (by decide)).1 h)
    have head : ∀ r, Ev (fun k => (transhumanceref1_Plain.f k (s.extract i (i + 1))).bind fun t192 => (if t192 = true then (if (bt s (i : Int)) = 35 then (if 0 ≤ (wrap64 ((i : Int) - 1)) then (if (wrap64 ((i : Int) - 1)) < (s.size : Int) then (if (bt s (wrap64 ((i : Int) - 1))) = 32 then (some false) else (transhumanceref7_plain.l0 k s ((i + 1 : Nat) : Int))) else (none)) else (none)) else (transhumanceref7_plain.l0 k s ((i + 1 : Nat) : Int))) else (some false))) r →
        Ev (fun k => transhumanceref7_plain.l0 k s i) r := by
      intro r hr
      refine Ev.step (fun _ => transhumanceref7_plain.l0.eq_2 ..) (Ev.pos (by omega) (Ev.pos (by omega) (Ev.neg h10' ?_)))
      rw [hw]
      refine Ev.pos (by omega) (Ev.pos (by omega) ?_)
      rw [Int.toNat_natCast, Int.toNat_natCast]
      exact hr
    cases hp : plainB s[i] with
    | false => exact ⟨false, head _ (Ev.bind (by have := rplain_one s i hlt; rw [hp] at this; exact this) (Ev.neg (by simp) (Ev.now _)))⟩
    | true =>
      have h1 : Ev (fun k => transhumanceref1_Plain.f k (s.extract i (i + 1))) true := by have := rplain_one s i hlt; rw [hp] at this; exact this
      by_cases hh : bt s (i : Int) = 35
      · have hi0 : 0 < i := by
          rcases Nat.eq_zero_or_pos i with h | h
          · subst h
            exact absurd ((byte_int (n := 35) (by decide)).1 (by rw [← bt_get s 0 hlt]; exact hh)) (h35 hlt)
          · exact h
        have hw2 : wrap64 ((i : Int) - 1) = ((i - 1 : Nat) : Int) := by rw [wrap_id (by omega) (by omega)]; omega
        by_cases h32 : bt s (wrap64 ((i : Int) - 1)) = 32
        · exact ⟨false, head _ (Ev.bind h1 (Ev.pos rfl (Ev.pos hh (Ev.pos (by omega) (Ev.pos (by omega) (Ev.pos h32 (Ev.now _)))))))⟩
        · exact ⟨b, head _ (Ev.bind h1 (Ev.pos rfl (Ev.pos hh (Ev.pos (by omega) (Ev.pos (by omega) (Ev.neg h32 hb))))))⟩
      · exact ⟨b, head _ (Ev.bind h1 (Ev.pos rfl (Ev.neg hh hb)))⟩
theorem p7_ev (s : ByteArray) (hs : s.size ≤ 1000) : ∃ b, Ev (fun k => transhumanceref7_plain.f k s) b := by
  have jt : Ev (fun k => transhumanceref7_plain.j0 k s true) false := Ev.step (fun _ => transhumanceref7_plain.j0.eq_2 ..) (Ev.pos rfl (Ev.now _))
  unfold transhumanceref7_plain.f
  by_cases h0 : s.toList = []
  · exact ⟨false, Ev.pos h0 jt⟩
  have hz : 0 < s.size := by
    rcases Nat.eq_zero_or_pos s.size with h | h
    · exfalso
      apply h0
      rw [Lib.toList_data]
      exact List.eq_nil_of_length_eq_zero (by rw [data_length]; exact h)
    · exact h
  by_cases h1 : bt s 0 = 34
  · exact ⟨false, Ev.neg h0 (Ev.pos (by omega) (Ev.pos h1 jt))⟩
  by_cases h2 : bt s 0 = 32
  · exact ⟨false, Ev.neg h0 (Ev.pos (by omega) (Ev.neg h1 (Ev.pos h2 jt)))⟩
  by_cases h3 : bt s 0 = 35
  · exact ⟨false, Ev.neg h0 (Ev.pos (by omega) (Ev.neg h1 (Ev.neg h2 (Ev.pos h3 jt))))⟩
  have hw : wrap64 ((s.size : Int) - 1) = ((s.size - 1 : Nat) : Int) := by rw [wrap_id (by omega) (by omega)]; omega
  have h35 : ∀ h : 0 < s.size, s[0] ≠ 35 := fun h e => h3 (by
    have := bt_get s 0 h
    rw [e] at this
    exact this)
  obtain ⟨b, hb⟩ := p7_l0 s hs h35 s.size 0 (by omega)
  cases hl : (bt s (wrap64 ((s.size : Int) - 1)) == 32) with
  | true => exact ⟨false, Ev.neg h0 (Ev.pos (by omega) (Ev.neg h1 (Ev.neg h2 (Ev.neg h3 (Ev.pos (by omega) (Ev.pos (by omega) jt))))))⟩
  | false => exact ⟨b, Ev.neg h0 (Ev.pos (by omega) (Ev.neg h1 (Ev.neg h2 (Ev.neg h3 (Ev.pos (by omega) (Ev.pos (by omega) (Ev.step (fun _ => transhumanceref7_plain.j0.eq_2 ..) (Ev.neg (by simp) hb))))))))⟩
theorem quote_plain {l : List UInt8} (h : l.all plainB = true) : (R.quoteL l).all plainB = true := by
  have one : ∀ b : UInt8, plainB b = true → (R.quoteB b).all plainB = true := by
    intro b hb
    have : ∀ n : Nat, n < 256 → plainB (UInt8.ofNat n) = true → (R.quoteB (UInt8.ofNat n)).all plainB = true := by decide +kernel
    have h2 := this b.toNat b.toNat_lt
    simp only [UInt8.ofNat_toNat] at h2
    exact h2 hb
  unfold R.quoteL
  rw [List.all_cons, List.all_append]
  have : (l.flatMap R.quoteB).all plainB = true := by
    rw [List.all_flatMap]
    exact List.all_eq_true.2 fun b hb => one b (List.all_eq_true.1 h b hb)
  rw [this]
  rfl
def Tame (x : Lk) : Prop := ∀ k, k < 5 → Plainy (x.get k) ∧ (x.get k).size ≤ 100
theorem Fines.tame {l : List Lk} (h : Fines l) : ∀ x ∈ l, Tame x := fun x hx k hk => ⟨(h.each x hx).1.plain k hk, (h.each x hx).2 k hk⟩
theorem w7_l1 (l : List Lk) (x : Lk) (hx : Tame x) (i : Int) (P : ByteArray → Prop) : ∀ (d t : Nat) (acc mark : ByteArray), t + d = 5 → Plainy acc → acc.size + d * 220 ≤ 100000 → Plainy mark → mark.size = 2 →
    (∀ acc', Plainy acc' → acc'.size ≤ acc.size + d * 220 → ∃ r, Ev (fun k => transhumanceref7_Write.l0 k (outs l) acc' (wrap64 (i + 1))) r ∧ P r) →
    ∃ r, Ev (fun k => transhumanceref7_Write.l1 k (outs l) acc i (vals x) names mark t) r ∧ P r
  | 0, t, acc, mark, ht, ha, hz, hm, hmz, hk => by
    obtain ⟨r, h1, h2⟩ := hk acc ha (by omega)
    exact ⟨r, Ev.step (fun _ => transhumanceref7_Write.l1.eq_2 ..) (Ev.neg (by omega) h1), h2⟩
  | d + 1, t, acc, mark, ht, ha, hz, hm, hmz, hk => by
    have ht5 : t < 5 := by omega
    have hw : wrap64 ((t : Int) + 1) = ((t + 1 : Nat) : Int) := wrap_id (by omega) (by omega)
    obtain ⟨hp, hzt⟩ := hx t ht5
    obtain ⟨hn1, hn2⟩ := names_sz t ht5
    by_cases he : (x.get t).toList = []
    · obtain ⟨r, h1, h2⟩ := w7_l1 l x hx i P d (t + 1) acc mark (by omega) ha (by omega) hm hmz (fun acc' h1 h2 => hk acc' h1 (by omega))
      refine ⟨r, Ev.step (fun _ => transhumanceref7_Write.l1.eq_2 ..) (Ev.pos (by omega) (Ev.pos (by omega) (Ev.pos (by show (t : Int) < ((5 : Nat) : Int); omega) ?_))), h2⟩
      rw [vals_at x t ht5, hw]
      exact Ev.pos he h1
    · have fin : ∀ v : ByteArray, Plainy v → v.size ≤ 202 → ∃ r, Ev (fun k => transhumanceref7_Write.l1 k (outs l) (((((acc ++ mark) ++ rdOf ByteArray.empty names (t : Int)) ++ (⟨#[58, 32]⟩ : ByteArray)) ++ v) ++ (⟨#[10]⟩ : ByteArray)) i (vals x) names (⟨#[32, 32]⟩ : ByteArray) ((t + 1 : Nat) : Int)) r ∧ P r := by
        intro v hv hvz
        have hz2 : (((((acc ++ mark) ++ rdOf ByteArray.empty names (t : Int)) ++ (⟨#[58, 32]⟩ : ByteArray)) ++ v) ++ (⟨#[10]⟩ : ByteArray)).size ≤ acc.size + 220 := by
          simp only [ByteArray.size_append, hmz, show (⟨#[58, 32]⟩ : ByteArray).size = 2 from rfl, show (⟨#[10]⟩ : ByteArray).size = 1 from rfl]
          omega
        exact w7_l1 l x hx i P d (t + 1) _ _ (by omega) (((((ha.append hm).append hn2).append (plain_lit (l := [58, 32]) rfl)).append hv).append (plain_lit (l := [10]) rfl)) (by omega) (plain_lit (l := [32, 32]) rfl) rfl (fun acc' h1 h2 => hk acc' h1 (by omega))
      have e2 : (⟨#[58, 32]⟩ : ByteArray).size = 2 := rfl
      obtain ⟨b, hb⟩ := p7_ev (x.get t) (by omega)
      have go : ∀ (v r : ByteArray), v.size ≤ 1000 → True := fun _ _ _ => trivial
      cases b with
      | true =>
        obtain ⟨r, h1, h2⟩ := fin (x.get t) hp (by omega)
        refine ⟨r, Ev.step (fun _ => transhumanceref7_Write.l1.eq_2 ..) (Ev.pos (by omega) (Ev.pos (by omega) (Ev.pos (by show (t : Int) < ((5 : Nat) : Int); omega) ?_))), h2⟩
        rw [vals_at x t ht5, hw]
        refine Ev.neg he (Ev.bind hb (Ev.pos rfl (Ev.pos ?_ (Ev.pos (by show (t : Int) < ((5 : Nat) : Int); omega) (Ev.pos ?_ (Ev.pos ?_ (Ev.pos ?_ (Ev.pos ?_ h1))))))))
        all_goals ((try simp only [ByteArray.size_append, e2]); omega)
      | false =>
        have hq := R.quoteL_length (x.get t).data.toList
        rw [data_length] at hq
        have hqz : (bs (R.quoteL (x.get t).data.toList)).size ≤ 202 := by rw [size_bs]; omega
        obtain ⟨r, h1, h2⟩ := fin (bs (R.quoteL (x.get t).data.toList)) (by unfold Plainy; rw [data_bs]; exact quote_plain hp) hqz
        refine ⟨r, Ev.step (fun _ => transhumanceref7_Write.l1.eq_2 ..) (Ev.pos (by omega) (Ev.pos (by omega) (Ev.pos (by show (t : Int) < ((5 : Nat) : Int); omega) ?_))), h2⟩
        rw [vals_at x t ht5, hw]
        refine Ev.neg he (Ev.bind hb (Ev.neg (by simp) (Ev.bind (quote_ev (x.get t) (by omega)) (Ev.pos ?_ (Ev.pos (by show (t : Int) < ((5 : Nat) : Int); omega) (Ev.pos ?_ (Ev.pos ?_ (Ev.pos ?_ (Ev.pos ?_ h1)))))))))
        all_goals ((try simp only [ByteArray.size_append, e2]); omega)
theorem w7_l0 (l : List Lk) (hl : l.length ≤ 50) (hx : ∀ x ∈ l, Tame x) : ∀ (d i : Nat) (acc : ByteArray), i + d = l.length → Plainy acc → acc.size ≤ 7 + i * 1100 →
    ∃ r, Ev (fun k => transhumanceref7_Write.l0 k (outs l) acc i) r ∧ Plainy r ∧ r.size ≤ 7 + l.length * 1100
  | 0, i, acc, hd, ha, hz => by
    obtain rfl : i = l.length := by omega
    exact ⟨acc, Ev.step (fun _ => transhumanceref7_Write.l0.eq_2 ..) (Ev.neg (by simp only [outs, List.length_map]; omega) (Ev.now _)), ha, hz⟩
  | d + 1, i, acc, hd, ha, hz => by
    have hi : i < l.length := by omega
    have hwi : wrap64 ((i : Int) + 1) = ((i + 1 : Nat) : Int) := wrap_id (by omega) (by omega)
    obtain ⟨r, h1, h2⟩ := w7_l1 l l[i] (hx _ (List.getElem_mem hi)) i (fun r => Plainy r ∧ r.size ≤ 7 + l.length * 1100) 5 0 acc (⟨#[45, 32]⟩ : ByteArray) (by omega) ha (by omega) (plain_lit (l := [45, 32]) rfl) rfl (fun acc' g1 g2 => by
      rw [hwi]
      exact w7_l0 l hl hx d (i + 1) acc' (by omega) g1 (by omega))
    refine ⟨r, Ev.step (fun _ => transhumanceref7_Write.l0.eq_2 ..) (Ev.pos (by simp only [outs, List.length_map]; omega) (Ev.pos (by omega) ?_)), h2⟩
    rw [rd_out l i hi]
    exact Ev.val (a := (vals l[i], names)) rfl h1
theorem w7_ev (l : List Lk) (hl : l.length ≤ 50) (hx : ∀ x ∈ l, Tame x) : ∃ r, Ev (fun k => transhumanceref7_Write.f k (outs l)) r ∧ Plainy r ∧ r.size ≤ 7 + l.length * 1100 := by
  unfold transhumanceref7_Write.f
  by_cases h0 : ((outs l).length : Int) = 0
  · exact ⟨⟨#[]⟩, Ev.pos h0 (Ev.now _), rfl, by show 0 ≤ _; omega⟩
  · obtain ⟨r, h1, h2⟩ := w7_l0 l hl hx l.length 0 (⟨#[108, 111, 99, 107, 115, 58, 10]⟩ : ByteArray) (by omega) (plain_lit (l := [108, 111, 99, 107, 115, 58, 10]) rfl) (by decide)
    exact ⟨r, Ev.neg h0 h1, h2⟩
theorem badAt_bad (p q : List UInt8) (b : UInt8) (hp : p.all plainB = true) (hb : plainB b = false) : badAt (p ++ b :: q) = some p.length := by
  induction p with
  | nil =>
    show badAt (b :: q) = _
    unfold badAt
    rw [if_neg (by rw [hb]; simp)]
    rfl
  | cons a p ih =>
    simp only [List.all_cons, Bool.and_eq_true] at hp
    show badAt (a :: (p ++ b :: q)) = _
    unfold badAt
    rw [if_pos hp.1, ih hp.2]
    rfl
theorem fold_bad (wh : Nat) (e : Int) : ∀ (ps : List (List UInt8)) (st : DSt), st.r = .bad wh e → (ps.foldl stepD st).r = .bad wh e
  | [], st, h => h
  | x :: ps, st, h => by
    refine fold_bad wh e ps (stepD st x) ?_
    unfold stepD
    rw [h]
theorem locks_badbyte (p q : List UInt8) (b : UInt8) (hp : p.all plainB = true) (hb : plainB b = false) (hz : (p ++ b :: q).length ≤ 8000) : locksD (p ++ b :: q) = ([], p.length, 1) := by
  have hs : (start (p ++ b :: q)).r = .bad p.length 1 := by
    unfold start
    rw [badAt_bad p q b hp hb]
  rw [locksD_eq _ hz]
  have := fold_bad p.length 1 (pieces (p ++ b :: q)) _ hs
  unfold linesD
  rw [this]
end Go.Proofs.YtghencpiejbecaaGreatDoor.Q
