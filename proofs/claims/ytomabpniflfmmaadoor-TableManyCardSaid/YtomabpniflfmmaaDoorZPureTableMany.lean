/- TableMany answers true for every input: plain part, over what the program's table.Locks computes. -/
import Derived.Test.YtomabpniflfmmaaDoorZPk
import Derived.Test.YtomabpniflfmmaaDoorZPng
import Derived.Test.YtomabpniflfmmaaDoorZQ14
namespace Go.Proofs.YtomabpniflfmmaaDoor.Pure
open Go.RowKit Go.Proofs.YtomabpniflfmmaaDoor.Q Go.Proofs.YtomabpniflfmmaaDoorW.PrintWords Go.Proofs.YtomabpniflfmmaaDoorW.PrintLast
def dg (i : Nat) : List UInt8 := if i < 10 then [UInt8.ofNat (48 + i)] else [UInt8.ofNat (48 + i / 10), UInt8.ofNat (48 + i % 10)]
theorem dg_all : ∀ i : Fin 45, transhumanceref1_Digits.f 5 (i.val : Int) = some (bs (dg i.val)) := by decide +kernel
theorem dg_ev (i : Nat) (h : i < 45) : Ev (fun k => transhumanceref1_Digits.f k (i : Int)) (bs (dg i)) := Ev.of (transhumanceref1_Digits.mono (i : Int)) (dg_all ⟨i, h⟩)
theorem dg_len (i : Nat) : (dg i).length ≤ 2 := by
  unfold dg
  split <;> simp
def lockN (i : Nat) : Lk := ⟨bs (109 :: dg i), ⟨#[]⟩, ⟨#[49]⟩, ⟨#[]⟩, ⟨#[]⟩⟩
def lockNs (n : Nat) : List Lk := (List.range n).map lockN
def front : List UInt8 := [91, 91, 108, 111, 99, 107, 93, 93, 10, 114, 111, 111, 116, 32, 61, 32, 34, 109]
def back : List UInt8 := [34, 10, 114, 101, 118, 105, 115, 105, 111, 110, 32, 61, 32, 34, 49, 34, 10]
theorem text_all : ∀ i : Fin 45, lockText (lockN i.val) = front ++ (dg i.val ++ back) := by decide +kernel
theorem text_next (i : Nat) (h : i < 45) : writeText (lockNs (i + 1)) = writeText (lockNs i) ++ (front ++ (dg i ++ back)) := by
  have e : lockNs (i + 1) = lockNs i ++ [lockN i] := by simp [lockNs, List.range_succ]
  rw [e, ← text_all ⟨i, h⟩]
  simp [writeText]
theorem text_len : ∀ i : Nat, i ≤ 45 → (writeText (lockNs i)).length ≤ 37 * i
  | 0, _ => by simp [writeText, lockNs]
  | i + 1, h => by
    have := text_len i (by omega)
    have h2 := dg_len i
    rw [text_next i (by omega)]
    simp only [List.length_append]
    have e1 : front.length = 18 := rfl
    have e2 : back.length = 17 := rfl
    omega
theorem lockN_all : ∀ i : Fin 45, rightL (109 :: dg i.val) = true ∧ (dg i.val).all plainB = true := by decide +kernel
theorem roots_apart : ((List.range 40).map fun i => 109 :: dg i).Nodup := by decide +kernel
theorem ok40 : OkLks (lockNs 40) := by
  refine ⟨?_, ?_, by decide⟩
  · intro x hx
    obtain ⟨i, hi, rfl⟩ := List.mem_map.1 hx
    have hi' := List.mem_range.1 hi
    obtain ⟨h1, h2⟩ := lockN_all ⟨i, by omega⟩
    refine ⟨h1, .inl (by simp [lockN]), fun h => absurd rfl h, ?_⟩
    intro k hk
    rcases k with _ | _ | _ | _ | _ | k
    · show (109 :: dg i).all plainB = true
      rw [List.all_cons, h2]
      rfl
    · rfl
    · rfl
    · rfl
    · rfl
    · omega
  · have : ((lockNs 40).map fun x => x.root.data.toList) = (List.range 40).map fun i => 109 :: dg i := by
      simp only [lockNs, List.map_map]
      exact List.map_congr_left fun i _ => rfl
    rw [this]
    exact roots_apart
theorem ok_few (n : Nat) (h : n ≤ 40) : OkLks (lockNs n) := by
  have e : lockNs 40 = lockNs n ++ (List.range' n (40 - n)).map lockN := by
    unfold lockNs
    rw [← List.map_append]
    congr 1
    rw [List.range_eq_range', List.range_eq_range']
    have h1 := List.range'_append_1 (s := 0) (m := n) (n := 40 - n)
    rw [Nat.zero_add, show n + (40 - n) = 40 from by omega] at h1
    exact h1.symm
  have := ok40
  rw [e] at this
  exact this.prefix
theorem lines_bad {s : ByteArray} {wh : Nat} {e : Int} : ∀ (n m : Nat) (st st' : PSt), runs s n st st' → st'.a < s.size → lineR s st' = .bad wh e → n + 1 ≤ m → linesR s m st = .bad wh e
  | 0, m, st, st', h, ha, hb, hm => by
    obtain ⟨m, rfl⟩ : ∃ q, m = q + 1 := ⟨m - 1, by omega⟩
    obtain rfl : st = st' := h
    unfold linesR
    simp only [hb]
  | n + 1, m, st, st', h, ha, hb, hm => by
    obtain ⟨m, rfl⟩ : ∃ q, m = q + 1 := ⟨m - 1, by omega⟩
    obtain ⟨st1, h1, h2, h3⟩ := h
    have := runs_le h3
    unfold linesR
    simp only [h1]
    rw [if_pos (by omega)]
    exact lines_bad n m st1 st' h3 ha hb (by omega)
theorem locks_more (n : Nat) (h1 : 40 < n) (h2 : n ≤ 45) : locksR (bs (writeText (lockNs n))) = ([], (writeText (lockNs 40)).length, 2) := by
  have e : ∃ post, writeText (lockNs n) = writeText (lockNs 40) ++ (lockWord.data.toList ++ post) := by
    have : ∀ d, 41 + d ≤ 45 → ∃ post, writeText (lockNs (41 + d)) = writeText (lockNs 40) ++ (lockWord.data.toList ++ post) := by
      intro d
      induction d with
      | zero =>
        intro _
        exact ⟨_, text_next 40 (by omega)⟩
      | succ d ih =>
        intro hd
        obtain ⟨post, hp⟩ := ih (by omega)
        refine ⟨post ++ (front ++ (dg (41 + d) ++ back)), ?_⟩
        rw [← Nat.add_assoc, text_next (41 + d) (by omega), hp]
        simp
    obtain ⟨post, hp⟩ := this (n - 41) (by omega)
    rw [show 41 + (n - 41) = n from by omega] at hp
    exact ⟨post, hp⟩
  obtain ⟨post, hp⟩ := e
  have hz := text_len n h2
  have hsz : (bs (writeText (lockNs n))).size ≤ 8000 := by rw [size_bs]; omega
  have hm : ((lockNs 40).map plainBlock).map (·.x) = lockNs 40 := by
    rw [List.map_map]
    exact (List.map_congr_left fun x _ => rfl).trans (List.map_id _)
  have hblk : ∀ b ∈ (lockNs 40).map plainBlock, b.ok := by
    intro b hb
    obtain ⟨x, _, rfl⟩ := List.mem_map.1 hb
    exact plain_ok x
  obtain ⟨k1, k2⟩ := blocks_run ((lockNs 40).map plainBlock) [] [] hblk (by rw [hm]; exact ok40)
  rw [hm, List.nil_append] at k2
  have hat : At (bs (writeText (lockNs n))) 0 (itsText (((lockNs 40).map plainBlock).flatMap Block.its) ++ (lockWord.data.toList ++ post)) := by
    have := At.zero (bs (writeText (lockNs n)))
    rw [data_bs, hp, write_items (lockNs 40)] at this
    rw [hp, write_items (lockNs 40)]
    exact this
  obtain ⟨m, j, r1, r2, _⟩ := items_run _ 0 kn0 hat k1 kn0_good
  rw [show (itsNext (((lockNs 40).map plainBlock).flatMap Block.its) kn0).l = lockNs 40 from k2] at r1
  have hj : j = (writeText (lockNs 40)).length := by
    have e1 := hat.size
    have e2 := r2.size
    rw [List.length_append, ← write_items] at e1
    omega
  generalize hvOf (itsNext (((lockNs 40).map plainBlock).flatMap Block.its) kn0).ks = hv at *
  have hline : lineR (bs (writeText (lockNs n))) ⟨j, lockNs 40, hv⟩ = .bad j 2 := by
    have s1 : spanEnd Q.blank (bs (writeText (lockNs n))) j = j := r2.span0 (stops_cons Q.blank91)
    have b1 : byteAt (bs (writeText (lockNs n))) j = 91 := At.is (b := 91) (n := 91) r2 rfl
    unfold lineR
    simp only [s1, b1]
    rw [if_pos trivial, beginR_eq, if_pos r2.pre, if_pos (ended_ok ok40), if_pos (by decide)]
  have hjs : j < (bs (writeText (lockNs n))).size := by
    have := r2.size
    simp only [List.length_append] at this
    have h8 : lockWord.data.toList.length = 8 := rfl
    omega
  have hle := runs_le r1
  simp only at hle
  have hall := lines_bad m ((bs (writeText (lockNs n))).size + 1) st0 _ r1 hjs hline (by omega)
  unfold locksR
  rw [if_neg (by omega)]
  show (match linesR (bs (writeText (lockNs n))) ((bs (writeText (lockNs n))).size + 1) st0 with | .bad wh e => ([], wh, e) | .ok st => if endedE st.l = 0 then (st.l, 0, 0) else ([], (bs (writeText (lockNs n))).size, endedE st.l)) = _
  rw [hall, hj]
def at40 (i : Nat) : Nat := if 40 < i then (writeText (lockNs 40)).length else 0
theorem many_l0 (n : Nat) (hn : n ≤ 44) : ∀ (d i : Nat), i + d = n → Ev (fun k => transhumancelaw6_TableMany.l0 k n (bs (writeText (lockNs i))) (at40 i) i) true
  | 0, i, hd => by
    obtain rfl : i = n := by omega
    have hz := text_len i (by omega)
    have hsz : (bs (writeText (lockNs i))).size ≤ 140737488351232 := by rw [size_bs]; omega
    refine Ev.step (fun _ => transhumancelaw6_TableMany.l0.eq_2 ..) (Ev.neg (by omega) ?_)
    by_cases h : 40 < i
    · have hl := locks_more i h (by omega)
      have e40 : at40 i = (writeText (lockNs 40)).length := if_pos h
      have hle : (writeText (lockNs 40)).length ≤ (bs (writeText (lockNs i))).size := by
        have h8 : ∀ d, 40 + d ≤ 45 → (writeText (lockNs 40)).length ≤ (writeText (lockNs (40 + d))).length := by
          intro d
          induction d with
          | zero => intro _; exact Nat.le_refl _
          | succ d ih =>
            intro hd2
            rw [← Nat.add_assoc, text_next (40 + d) (by omega), List.length_append]
            have := ih (by omega)
            omega
        have := h8 (i - 40) (by omega)
        rw [show 40 + (i - 40) = i from by omega] at this
        rw [size_bs]
        exact this
      refine Ev.val (locks_f_bad hsz (by decide) hl) (Ev.pos (by omega) (Ev.pos rfl ?_))
      rw [e40]
      exact Ev.bind (place_ev _ hsz _ hle) (Ev.pos (by simp) (Ev.now _))
    · refine Ev.val (locks_f_ok hsz (write_locks _ (ok_few i (by omega)) (by omega))) (Ev.neg (by omega) (Ev.pos rfl (Ev.ret ?_)))
      simp [lockNs]
  | d + 1, i, hd => by
    have hw : wrap64 ((i : Int) + 1) = ((i + 1 : Nat) : Int) := wrap_id (by omega) (by omega)
    have hz := text_len i (by omega)
    have h2 := dg_len i
    have e18 : (⟨#[91, 91, 108, 111, 99, 107, 93, 93, 10, 114, 111, 111, 116, 32, 61, 32, 34, 109]⟩ : ByteArray).size = 18 := rfl
    have heq : ((bs (writeText (lockNs i)) ++ (⟨#[91, 91, 108, 111, 99, 107, 93, 93, 10, 114, 111, 111, 116, 32, 61, 32, 34, 109]⟩ : ByteArray)) ++ bs (dg i)) ++ (⟨#[34, 10, 114, 101, 118, 105, 115, 105, 111, 110, 32, 61, 32, 34, 49, 34, 10]⟩ : ByteArray) = bs (writeText (lockNs (i + 1))) := by
      rw [text_next i (by omega)]
      apply ext_bs
      simp [ByteArray.data_append, bs, front, back]
    have hrec := many_l0 n hn d (i + 1) (by omega)
    refine Ev.step (fun _ => transhumancelaw6_TableMany.l0.eq_2 ..) (Ev.pos (by omega) ?_)
    by_cases h40 : (i : Int) = 40
    · obtain rfl : i = 40 := by omega
      have e40 : at40 (40 + 1) = (writeText (lockNs 40)).length := if_pos (by omega)
      refine Ev.pos h40 (Ev.pos ?_ (Ev.bind (dg_ev 40 (by omega)) (Ev.pos ?_ (Ev.pos ?_ ?_))))
      · rw [size_bs]; omega
      · simp only [ByteArray.size_append, size_bs, e18]; omega
      · simp only [ByteArray.size_append, size_bs, e18]; omega
      · rw [heq, hw, size_bs]
        rw [e40] at hrec
        exact hrec
    · have e40 : at40 (i + 1) = at40 i := by
        unfold at40
        by_cases h : 40 < i
        · rw [if_pos h, if_pos (by omega)]
        · rw [if_neg h, if_neg (by omega)]
      refine Ev.neg h40 (Ev.pos ?_ (Ev.bind (dg_ev i (by omega)) (Ev.pos ?_ (Ev.pos ?_ ?_))))
      · rw [size_bs]; omega
      · simp only [ByteArray.size_append, size_bs, e18]; omega
      · simp only [ByteArray.size_append, size_bs, e18]; omega
      · rw [heq, hw]
        rw [e40] at hrec
        exact hrec
theorem TableMany : transhumancelaw6_TableMany.Pure := by
  intro a0 _
  apply Ev.rounds
  unfold transhumancelaw6_TableMany.f
  obtain ⟨j, hj⟩ := win_fin a0 10 (by decide)
  have hj' : win a0 10 = (j.val : Int) := hj
  have hjl := j.isLt
  refine Ev.val known_true (Ev.pos rfl (Ev.val (within_f a0 10 (by decide) (by decide)) ?_))
  rw [hj', show wrap64 (35 + (j.val : Int)) = ((35 + j.val : Nat) : Int) from wrap_id (by omega) (by omega)]
  exact many_l0 (35 + j.val) (by omega) (35 + j.val) 0 (by omega)
end Go.Proofs.YtomabpniflfmmaaDoor.Pure
