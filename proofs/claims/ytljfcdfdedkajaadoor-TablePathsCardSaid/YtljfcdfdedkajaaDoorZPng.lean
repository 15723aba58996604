import Derived.Test.YtljfcdfdedkajaaDoorZPcg
import Derived.Test.YtljfcdfdedkajaaDoorZTWriteg
import Derived.Test.YtljfcdfdedkajaaDoorZQ17
import Derived.Test.YtljfcdfdedkajaaDoorZTLocksg
import Derived.Test.YtljfcdfdedkajaaDoorZQ18
import Derived.Test.YtljfcdfdedkajaaDoorZQ9
import Derived.Test.YtljfcdfdedkajaaDoorZQ5
import Derived.Test.YtljfcdfdedkajaaDoorZQ11
section
namespace Go.Proofs.YtljfcdfdedkajaaDoor.Q
open Go.RowKit Go.Proofs.YtljfcdfdedkajaaDoorW.PrintWords Go.Proofs.YtljfcdfdedkajaaDoorW.PrintLast Go.Proofs.YtljfcdfdedkajaaDoorW.PrintMore
theorem Ev.pos {α : Type} {c : Prop} [Decidable c] {a b : Nat → Option α} {r : α} (h : c) (k : Ev a r) : Ev (fun n => if c then a n else b n) r := by
  simpa only [if_pos h] using k
theorem Ev.neg {α : Type} {c : Prop} [Decidable c] {a b : Nat → Option α} {r : α} (h : ¬ c) (k : Ev b r) : Ev (fun n => if c then a n else b n) r := by
  simpa only [if_neg h] using k
theorem Ev.val {α β : Type} {o : Option α} {f : Nat → α → Option β} {a : α} {r : β} (h : o = some a) (k : Ev (fun n => f n a) r) : Ev (fun n => o.bind (f n)) r := by
  subst h
  exact k
theorem Ev.ret {α : Type} {o : Option α} {r : α} (h : o = some r) : Ev (fun _ => o) r := ⟨0, fun _ _ => h⟩
theorem wrap_id {x : Int} (h1 : -9223372036854775808 ≤ x) (h2 : x ≤ 9223372036854775807) : wrap64 x = x := by unfold wrap64; omega
theorem bt_get (s : ByteArray) (i : Nat) (h : i < s.size) : bt s (i : Int) = (s[i].toNat : Int) := by
  simp [bt, h]
theorem parts_plain {c : UInt8} : ∀ {m : List UInt8}, (∀ x ∈ m, x ≠ c) → parts c m = [m]
  | [], _ => rfl
  | x :: m, h => by
    rw [parts_cons, if_neg (h x List.mem_cons_self), parts_plain (fun y hy => h y (List.mem_cons_of_mem _ hy))]
def Pathy (s : ByteArray) : Prop := (parts 47 s.data.toList).all okWord = true ∧ 1 ≤ s.size
theorem okWord_47 {w : List UInt8} (h : okWord w = true) : ∀ x ∈ w, x ≠ 47 := by
  intro x hx e
  subst e
  simp only [okWord, Bool.and_eq_true, List.all_eq_true] at h
  have := h.2 47 hx
  revert this
  decide
theorem okWord_ne {w : List UInt8} (h : okWord w = true) : w ≠ [] := by
  rintro rfl
  simp [okWord] at h
theorem Pathy.one {w : ByteArray} (hw : okWord w.data.toList = true) : Pathy w := by
  refine ⟨?_, ?_⟩
  · rw [parts_plain (okWord_47 hw)]
    simp [hw]
  · have := okWord_ne hw
    have h2 := List.length_pos_iff.2 this
    rw [data_length] at h2
    omega
def Plainy (s : ByteArray) : Prop := s.data.toList.all plainB = true
theorem Plainy.append {s t : ByteArray} (h : Plainy s) (k : Plainy t) : Plainy (s ++ t) := by
  unfold Plainy at *
  rw [ByteArray.data_append, Array.toList_append, List.all_append, h, k]
  rfl
end Go.Proofs.YtljfcdfdedkajaaDoor.Q
end
section
namespace Go.Proofs.YtljfcdfdedkajaaDoor.Q
open Go.RowKit Go.Proofs.YtljfcdfdedkajaaDoorW.PrintWords Go.Proofs.YtljfcdfdedkajaaDoorW.PrintLast Go.Proofs.YtljfcdfdedkajaaDoorW.PrintMore
theorem byte_int {b : UInt8} {n : Nat} (hn : n < 256) : ((b.toNat : Int) = n) ↔ b = UInt8.ofNat n := by
  constructor
  · intro h
    have : b.toNat = n := by omega
    rw [← UInt8.toNat_inj]
    simp
    omega
  · rintro rfl
    simp
    omega
theorem extract_one (s : ByteArray) (i : Nat) (h : i < s.size) : s.extract i (i + 1) = bs [s[i]] := by
  apply ext_bs
  rw [data_bs, ByteArray.data_extract]
  simp only [Array.toList_extract, List.extract_eq_take_drop]
  rw [drop_at s i h]
  simp
theorem bs_append (l m : List UInt8) : bs l ++ bs m = bs (l ++ m) := ext_bs (by rw [ByteArray.data_append]; simp [bs])
theorem quote_l0 (s : ByteArray) (hs : s.size ≤ 1000000) : ∀ (d i : Nat) (acc : List UInt8), i + d = s.size → acc.length ≤ 2 * i + 1 →
    Ev (fun k => transhumanceref1_Quote.l0 k s (bs acc) i) (bs (acc ++ ((s.data.toList.drop i).flatMap R.quoteB ++ [34])))
  | 0, i, acc, hd, ha => by
    refine Ev.step (fun _ => transhumanceref1_Quote.l0.eq_2 ..) (Ev.neg (by omega) (Ev.pos (by rw [size_bs]; omega) (Ev.ret ?_)))
    rw [List.drop_eq_nil_of_le (by rw [data_length]; omega)]
    exact congrArg some (bs_append acc [34])
  | d + 1, i, acc, hd, ha => by
    have hi : i < s.size := by omega
    have hw : wrap64 ((i : Int) + 1) = ((i + 1 : Nat) : Int) := wrap_id (by omega) (by omega)
    rw [drop_at s i hi, List.flatMap_cons]
    refine Ev.step (fun _ => transhumanceref1_Quote.l0.eq_2 ..) (Ev.pos (by omega) (Ev.pos (by omega) ?_))
    rw [hw, bt_get s i hi]
    have step : ∀ q : List UInt8, R.quoteB s[i] = q → q.length ≤ 2 → Ev (fun k => transhumanceref1_Quote.l0 k s (bs acc ++ bs q) ((i + 1 : Nat) : Int)) (bs (acc ++ (R.quoteB s[i] ++ (s.data.toList.drop (i + 1)).flatMap R.quoteB ++ [34]))) := by
      intro q hq hl
      have := quote_l0 s hs d (i + 1) (acc ++ q) (by omega) (by rw [List.length_append]; omega)
      rw [bs_append, hq]
      simpa [List.append_assoc] using this
    by_cases h0 : s[i] = 34
    · exact Ev.pos ((byte_int (by decide)).2 h0) (Ev.pos (by rw [size_bs]; omega) (step [92, 34] (by rw [h0]; rfl) (by decide)))
    refine Ev.neg (fun h => h0 ((byte_int (n := 34) (by decide)).1 h)) ?_
    by_cases h1 : s[i] = 92
    · exact Ev.pos ((byte_int (by decide)).2 h1) (Ev.pos (by rw [size_bs]; omega) (step [92, 92] (by rw [h1]; rfl) (by decide)))
    refine Ev.neg (fun h => h1 ((byte_int (n := 92) (by decide)).1 h)) ?_
    by_cases h2 : s[i] = 10
    · exact Ev.pos ((byte_int (by decide)).2 h2) (Ev.pos (by rw [size_bs]; omega) (step [92, 110] (by rw [h2]; rfl) (by decide)))
    refine Ev.neg (fun h => h2 ((byte_int (n := 10) (by decide)).1 h)) ?_
    by_cases h3 : s[i] = 9
    · exact Ev.pos ((byte_int (by decide)).2 h3) (Ev.pos (by rw [size_bs]; omega) (step [92, 116] (by rw [h3]; rfl) (by decide)))
    refine Ev.neg (fun h => h3 ((byte_int (n := 9) (by decide)).1 h)) ?_
    refine Ev.pos (by omega) (Ev.pos (by omega) ?_)
    rw [show (i : Int).toNat = i from by omega, show (((i + 1 : Nat) : Int)).toNat = i + 1 from by omega, extract_one s i hi]
    refine Ev.pos (by rw [size_bs, size_bs]; simp only [List.length_cons, List.length_nil]; omega) (step [s[i]] ?_ (by simp))
    unfold R.quoteB
    rw [if_neg h0, if_neg h1, if_neg h2, if_neg h3]
theorem quote_ev (s : ByteArray) (hs : s.size ≤ 1000000) : Ev (fun k => transhumanceref1_Quote.f k s) (bs (R.quoteL s.data.toList)) := by
  have := quote_l0 s hs s.size 0 [34] (by omega) (by simp)
  rw [List.drop_zero] at this
  exact this
def outs (l : List Lk) : List S31 := l.map Lk.out
theorem rd_out (l : List Lk) (j : Nat) (h : j < l.length) : rd_T31 (outs l) (j : Int) = (l[j]).out := by
  simp [rd_T31, outs, List.getD, List.getElem?_eq_getElem h]
theorem rows_l0 (l : List Lk) (hl : l.length ≤ 1000) : ∀ (d i : Nat), i + d = l.length → Ev (fun k => transhumanceref5_Rows.l0 k (outs l) (outs l) i) true
  | 0, i, hd => Ev.step (fun _ => transhumanceref5_Rows.l0.eq_2 ..) (Ev.neg (by simp only [outs, List.length_map]; omega) (Ev.now _))
  | d + 1, i, hd => by
    have hw : wrap64 ((i : Int) + 1) = ((i + 1 : Nat) : Int) := wrap_id (by omega) (by omega)
    have hl2 : (outs l).length = l.length := by simp [outs]
    refine Ev.step (fun _ => transhumanceref5_Rows.l0.eq_2 ..) (Ev.pos (by omega) (Ev.pos (by omega) (Ev.pos (by omega) (Ev.neg ?_ ?_))))
    · simp
    · rw [hw]
      exact rows_l0 l hl d (i + 1) (by omega)
theorem rows_ev (l : List Lk) (hl : l.length ≤ 1000) : Ev (fun k => transhumanceref5_Rows.f k (outs l) (outs l)) true :=
  Ev.pos rfl (rows_l0 l hl l.length 0 (by omega))
theorem place_fold (l : List UInt8) : ∀ p : Nat × Nat, 1 ≤ p.2 → (l.foldl (fun p c => if c = 10 then (p.1 + 1, 1) else (p.1, p.2 + 1)) p).1 ≤ p.1 + l.length ∧ (l.foldl (fun p c => if c = 10 then (p.1 + 1, 1) else (p.1, p.2 + 1)) p).2 ≤ p.2 + l.length := by
  induction l with
  | nil => intro p _; simp
  | cons c l ih =>
    intro p hp
    rw [List.foldl_cons, List.length_cons]
    by_cases hc : c = 10
    · rw [if_pos hc]
      have := ih (p.1 + 1, 1) (by simp)
      simp only at this
      omega
    · rw [if_neg hc]
      have := ih (p.1, p.2 + 1) (by simp)
      simp only at this
      omega
theorem place_bd (l : List UInt8) : (place l).1 ≤ l.length + 1 ∧ (place l).2 ≤ l.length + 1 := by
  have := place_fold l (1, 1) (Nat.le_refl _)
  unfold place
  simp only at this
  omega
theorem place_l0 (s : ByteArray) (hs : s.size ≤ 140737488351232) (at_ : Nat) (ha : at_ ≤ s.size) : ∀ (d i : Nat), i + d = at_ →
    Ev (fun k => transhumanceref1_Place.l0 k s at_ i ((place (s.data.toList.take i)).1 : Int) ((place (s.data.toList.take i)).2 : Int)) (((place (s.data.toList.take at_)).1 : Int), ((place (s.data.toList.take at_)).2 : Int))
  | 0, i, hd => by
    obtain rfl : i = at_ := by omega
    by_cases h : i < s.size
    · refine Ev.step (fun _ => transhumanceref1_Place.l0.eq_2 ..) (Ev.pos (by omega) (Ev.step (fun _ => transhumanceref1_Place.j1.eq_2 ..) (Ev.neg ?_ (Ev.now _))))
      simp
    · exact Ev.step (fun _ => transhumanceref1_Place.l0.eq_2 ..) (Ev.neg (by omega) (Ev.step (fun _ => transhumanceref1_Place.j1.eq_2 ..) (Ev.neg (by simp) (Ev.now _))))
  | d + 1, i, hd => by
    have hi : i < s.size := by omega
    have hw : wrap64 ((i : Int) + 1) = ((i + 1 : Nat) : Int) := wrap_id (by omega) (by omega)
    have ht : s.data.toList.take (i + 1) = s.data.toList.take i ++ [s[i]] := by
      rw [List.take_succ_eq_append_getElem (by rw [data_length]; exact hi)]
      rfl
    have hb := place_bd (s.data.toList.take i)
    have hlen : (s.data.toList.take i).length ≤ i := List.length_take_le _ _
    have hr := place_l0 s hs at_ ha d (i + 1) (by omega)
    rw [ht, place_snoc] at hr
    refine Ev.step (fun _ => transhumanceref1_Place.l0.eq_2 ..) (Ev.pos (by omega) (Ev.step (fun _ => transhumanceref1_Place.j1.eq_2 ..) (Ev.pos (decide_eq_true (by omega)) (Ev.pos (by omega) (Ev.pos (by omega) ?_)))))
    rw [bt_get s i hi, hw]
    by_cases h : s[i] = 10
    · rw [if_pos h] at hr
      refine Ev.pos ((byte_int (by decide)).2 h) ?_
      rw [wrap_id (by omega) (by omega)]
      exact hr
    · rw [if_neg h] at hr
      refine Ev.neg (fun h' => h ((byte_int (n := 10) (by decide)).1 h')) ?_
      rw [wrap_id (x := ((place (s.data.toList.take i)).2 : Int) + 1) (by omega) (by omega)]
      exact hr
theorem place_ev (s : ByteArray) (hs : s.size ≤ 140737488351232) (at_ : Nat) (ha : at_ ≤ s.size) :
    Ev (fun k => transhumanceref1_Place.f k s at_) (((place (s.data.toList.take at_)).1 : Int), ((place (s.data.toList.take at_)).2 : Int)) := by
  have := place_l0 s hs at_ ha at_ 0 (by omega)
  exact this
end Go.Proofs.YtljfcdfdedkajaaDoor.Q
end
