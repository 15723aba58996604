import Derived.Test.YtljfcdfdedkajaaDoorZPng
import Derived.Test.YtljfcdfdedkajaaDoorZPath
import Derived.Test.YtljfcdfdedkajaaDoorZTe
import Derived.Test.YtljfcdfdedkajaaDoorZQ8
import Derived.Test.YtljfcdfdedkajaaDoorZQ4
import Derived.Test.YtljfcdfdedkajaaDoorZQ6
import Derived.Test.YtljfcdfdedkajaaDoorZTsg
set_option linter.unusedVariables false
set_option linter.unusedSimpArgs false
section
namespace Go.Proofs.YtljfcdfdedkajaaDoor.Q
open Go.RowKit Go.Proofs.YtljfcdfdedkajaaDoorW.PrintWords Go.Proofs.YtljfcdfdedkajaaDoorW.PrintLast Go.Proofs.YtljfcdfdedkajaaDoorW.PrintMore
theorem parts_seg {c : UInt8} : ∀ {m : List UInt8}, (∀ x ∈ m, x ≠ c) → ∀ r : List UInt8, parts c (m ++ c :: r) = m :: parts c r
 | [], _, r => by rw [List.nil_append, parts_cons, if_pos rfl]
 | x :: m, h, r => by
  rw [List.cons_append, parts_cons, if_neg (h x List.mem_cons_self), parts_seg (fun y hy => h y (List.mem_cons_of_mem _ hy)) r]
theorem drop_seg (s : ByteArray) (a i : Nat) (ha : a ≤ i) (hi : i < s.size) : s.data.toList.drop a = (s.data.toList.drop a).take (i - a) ++ s[i] :: s.data.toList.drop (i + 1) := by
 have h := drop_at s i hi
 rw [← h]
 have : s.data.toList.drop i = (s.data.toList.drop a).drop (i - a) := by rw [List.drop_drop]; congr 1; omega
 rw [this, List.take_append_drop]
theorem seg_extract (s : ByteArray) (a i : Nat) (ha : a ≤ i) : s.extract a i = bs ((s.data.toList.drop a).take (i - a)) := by
 apply ext_bs
 rw [data_bs, ByteArray.data_extract, Array.toList_extract, List.extract_eq_take_drop]
theorem seg_succ (s : ByteArray) (a i : Nat) (ha : a ≤ i) (hi : i < s.size) (h : ∀ x ∈ (s.data.toList.drop a).take (i - a), x ≠ 47) (hb : s[i] ≠ 47) : ∀ x ∈ (s.data.toList.drop a).take (i + 1 - a), x ≠ 47 := by
 have e : (s.data.toList.drop a).take (i + 1 - a) = (s.data.toList.drop a).take (i - a) ++ [s[i]] := by
  conv => lhs; rw [drop_seg s a i ha hi]
  have hl : ((s.data.toList.drop a).take (i - a)).length = i - a := by rw [List.length_take, List.length_drop, data_length]; omega
  rw [List.take_append, hl, List.take_of_length_le (by omega), show i + 1 - a - (i - a) = 1 from by omega]
  rfl
 rw [e]
 intro x hx
 rcases List.mem_append.1 hx with hx | hx
 ·exact h x hx
 ·rw [List.mem_singleton.1 hx]
  exact hb
theorem words_l0 (s : ByteArray) (hs : s.size ≤ 1000000) : ∀ (d k i a : Nat) (acc : List (List UInt8)), s.size + 1 = i + d → d < k → 1 ≤ d → a ≤ i → acc.length ≤ i → (∀ x ∈ (s.data.toList.drop a).take (i - a), x ≠ 47) →
  transhumanceref4_words.l0 k s (acc.map bs) (a : Int) (i : Int) = some ((acc ++ parts 47 (s.data.toList.drop a)).map bs)
 | 0, k, i, a, acc, hd, hk, h1, ha, hacc, hseg => by omega
 | d + 1, k, i, a, acc, hd, hk, h1, ha, hacc, hseg => by
  obtain ⟨k, rfl⟩ : ∃ m, k = m + 1 := ⟨k - 1, by omega⟩
  have hw : wrap64 ((i : Int) + 1) = ((i + 1 : Nat) : Int) := wrap_id (by omega) (by omega)
  have hadd : acc.map bs ++ [s.extract a i] = (acc ++ [(s.data.toList.drop a).take (i - a)]).map bs := by rw [seg_extract s a i ha]; simp
  rw [transhumanceref4_words.l0.eq_2, if_pos (by omega), hw]
  by_cases he : i = s.size
  ·rw [if_pos (by omega), if_pos (by omega), if_pos (by omega), if_pos (by rw [List.length_map]; omega)]
   rw [show ((a : Int)).toNat = a from by omega, show ((i : Int)).toNat = i from by omega, hadd]
   obtain ⟨k, rfl⟩ : ∃ m, k = m + 1 := ⟨k - 1, by omega⟩
   rw [transhumanceref4_words.l0.eq_2, if_neg (by omega)]
   have hl : (s.data.toList.drop a).take (i - a) = s.data.toList.drop a := List.take_of_length_le (by rw [List.length_drop, data_length]; omega)
   rw [hl] at hseg ⊢
   rw [parts_plain hseg]
  ·have hi : i < s.size := by omega
   rw [if_neg (by omega), if_pos (by omega), if_pos (by omega), bt_get s i hi]
   by_cases hb : s[i] = 47
   ·rw [if_pos (by rw [hb]; rfl), if_pos (by omega), if_pos (by omega), if_pos (by rw [List.length_map]; omega)]
    rw [show ((a : Int)).toNat = a from by omega, show ((i : Int)).toNat = i from by omega, hadd]
    rw [words_l0 s hs d k (i + 1) (i + 1) _ (by omega) (by omega) (by omega) (by omega) (by simp; omega) (by simp)]
    have e := drop_seg s a i ha hi
    rw [hb] at e
    have hp := parts_seg hseg (s.data.toList.drop (i + 1))
    rw [← e] at hp
    rw [hp]
    simp
   ·rw [if_neg (fun h => hb (UInt8.toNat_inj.mp (by show s[i].toNat = 47; omega)))]
    exact words_l0 s hs d k (i + 1) a acc (by omega) (by omega) (by omega) (by omega) (by omega) (seg_succ s a i ha hi hseg hb)
theorem words4_f (s : ByteArray) (hs : s.size ≤ 1000000) (k : Nat) (hk : s.size + 1 < k) : transhumanceref4_words.f k s = some ((parts 47 s.data.toList).map bs) := by
 have := words_l0 s hs (s.size + 1) k 0 0 [] (by omega) hk (by omega) (by omega) (by simp) (by simp)
 rw [List.drop_zero] at this
 exact this
def ok47 (c : UInt8) : Bool := okSign c || c == 47
def okW (w : List UInt8) : Bool := !(w == []) && !(w == [46]) && !(w == [46, 46])
theorem parts_all (p : UInt8 → Bool) : ∀ l : List UInt8, (parts 47 l).all (fun w => w.all p) = l.all (fun c => p c || c == 47)
 | [] => rfl
 | x :: l => by
  rw [parts_cons, List.all_cons, ← parts_all p l]
  by_cases h : x = 47
  ·rw [if_pos h, h]
   simp
  ·rw [if_neg h]
   have hx : (x == 47) = false := by simpa using h
   rw [hx, Bool.or_false]
   cases hp : parts 47 l with
   | nil => exact absurd hp (parts_ne 47 l)
   | cons w ws => simp [Bool.and_assoc]
theorem all_both {α : Type} (p q : α → Bool) : ∀ l : List α, l.all (fun x => p x && q x) = (l.all p && l.all q)
 | [] => rfl
 | x :: l => by
  simp only [List.all_cons]
  rw [all_both p q l]
  cases p x <;> cases q x <;> cases l.all p <;> rfl
theorem rightL_eq (l : List UInt8) : rightL l = (l.all ok47 && (parts 47 l).all okW && decide (l.length ≤ 40)) := by
 have h1 : (parts 47 l).all okWord = ((parts 47 l).all okW && l.all ok47) := by
  have := parts_all okSign l
  unfold ok47
  rw [← this, ← all_both]
  rfl
 unfold rightL
 rw [h1]
 cases l with
 | nil => rfl
 | cons x l =>
  have : decide (1 ≤ (x :: l).length) = true := decide_eq_true (by simp)
  rw [this, Bool.true_and]
  cases (x :: l).all ok47 <;> cases (parts 47 (x :: l)).all okW <;> cases decide ((x :: l).length ≤ 40) <;> rfl
theorem right_l1 (s : ByteArray) (ws : List (List UInt8)) (hz : ws.length ≤ 2000000) : ∀ (d k i : Nat), ws.length = i + d → d < k → transhumanceref4_Right.l1 k s (ws.map bs) (i : Int) = some ((ws.drop i).all okW && decide (s.size ≤ 40))
 | 0, k, i, hd, hk => by
  obtain ⟨k, rfl⟩ : ∃ m, k = m + 1 := ⟨k - 1, by omega⟩
  rw [transhumanceref4_Right.l1.eq_2, if_neg (by rw [List.length_map]; omega), List.drop_of_length_le (by omega)]
  rw [show decide ((s.size : Int) ≤ 40) = decide (s.size ≤ 40) from by rw [decide_eq_decide]; omega]
  rfl
 | d + 1, k, i, hd, hk => by
  obtain ⟨k, rfl⟩ : ∃ m, k = m + 1 := ⟨k - 1, by omega⟩
  have hi : i < ws.length := by omega
  have hw : wrap64 ((i : Int) + 1) = ((i + 1 : Nat) : Int) := wrap_id (by omega) (by omega)
  have hr : rdOf ByteArray.empty (ws.map bs) (i : Int) = bs ws[i] := by simp [rdOf, List.getD, List.getElem?_map, List.getElem?_eq_getElem hi]
  rw [transhumanceref4_Right.l1.eq_2, if_pos (by rw [List.length_map]; omega), if_pos (by omega), hr, toList_bs, hw, right_l1 s ws hz d k (i + 1) (by omega) (by omega), List.drop_eq_getElem_cons hi, List.all_cons]
  unfold okW
  by_cases h0 : ws[i] = []
  ·rw [if_pos h0, h0]; rfl
  rw [if_neg h0]
  by_cases h1 : ws[i] = [46]
  ·rw [if_pos h1, h1]; rfl
  rw [if_neg h1]
  by_cases h2 : ws[i] = [46, 46]
  ·rw [if_pos h2, h2]; rfl
  rw [if_neg h2]
  have e0 : (ws[i] == []) = false := by simpa using h0
  have e1 : (ws[i] == [46]) = false := by simpa using h1
  have e2 : (ws[i] == [46, 46]) = false := by simpa using h2
  rw [e0, e1, e2]
  simp
def ok47I (x : Int) : Bool := okSignI x || x == 47
theorem ok47_int (c : UInt8) : ok47I (c.toNat : Int) = ok47 c := by
 unfold ok47I ok47
 rw [okSign_int]
 congr 1
 rw [Bool.eq_iff_iff]
 simp only [beq_iff_eq, ← UInt8.toNat_inj]
 simp only [show (47 : UInt8).toNat = 47 from rfl]
 omega
theorem right_step (k : Nat) (s : ByteArray) (i : Int) (h0 : i < (s.size : Int)) (h1 : 0 ≤ i) :
  transhumanceref4_Right.l0 (k + 1) s i = if ok47I (bt s i) = true then transhumanceref4_Right.l0 k s (wrap64 (i + 1)) else some false := by
 rw [transhumanceref4_Right.l0.eq_2]
 rw [if_pos h0, if_pos h1]
 generalize bt s i = x
 generalize transhumanceref4_Right.l0 k s (wrap64 (i + 1)) = y
 have e : ok47I x = true ↔ (97 ≤ x ∧ x ≤ 122) ∨ (48 ≤ x ∧ x ≤ 57) ∨ x = 46 ∨ x = 45 ∨ x = 95 ∨ x = 47 := by
  simp [ok47I, okSignI, or_assoc]
 simp only [e]
 clear e h0 h1
 repeat' split
 all_goals first | rfl | (exfalso; omega)
theorem right_l0 (s : ByteArray) (hs : s.size ≤ 1000000) : ∀ (d k i : Nat), s.size = i + d → d + 2 * s.size + 4 < k → transhumanceref4_Right.l0 k s (i : Int) = some ((s.data.toList.drop i).all ok47 && ((parts 47 s.data.toList).all okW && decide (s.size ≤ 40)))
 | 0, k, i, hd, hk => by
  obtain ⟨k, rfl⟩ : ∃ m, k = m + 1 := ⟨k - 1, by omega⟩
  have hp : ∀ l : List UInt8, (parts 47 l).length ≤ l.length + 1 := by
   intro l
   induction l with
   | nil => simp [parts]
   | cons x l ih =>
    rw [parts_cons]
    split
    ·simp; omega
    ·cases hp : parts 47 l with
     | nil => simp
     | cons w ws => rw [hp] at ih; simp at ih ⊢; omega
  have hz := hp s.data.toList
  rw [data_length] at hz
  rw [transhumanceref4_Right.l0.eq_2, if_neg (by omega), words4_f s hs k (by omega), List.drop_of_length_le (by rw [data_length]; omega)]
  show transhumanceref4_Right.l1 k s _ _ = _
  have := right_l1 s (parts 47 s.data.toList) (by omega) _ k 0 (by omega : _ = 0 + (parts 47 s.data.toList).length) (by omega)
  rw [List.drop_zero] at this
  rw [List.all_nil, Bool.true_and]
  exact this
 | d + 1, k, i, hd, hk => by
  obtain ⟨k, rfl⟩ : ∃ m, k = m + 1 := ⟨k - 1, by omega⟩
  have hi : i < s.size := by omega
  have hw : wrap64 ((i : Int) + 1) = ((i + 1 : Nat) : Int) := wrap_id (by omega) (by omega)
  rw [right_step k s _ (by omega) (by omega), bt_get s i hi, ok47_int, hw, right_l0 s hs d k (i + 1) (by omega) (by omega), drop_at s i hi, List.all_cons]
  cases ok47 s[i] <;> simp
theorem right4_f (s : ByteArray) (hs : s.size ≤ 1000000) : transhumanceref4_Right.f (3 * s.size + 5) s = some (rightL s.data.toList) := by
 have := right_l0 s hs s.size (3 * s.size + 5) 0 (by omega) (by omega)
 rw [rightL_eq, data_length, Bool.and_assoc]
 exact this
theorem toList_inj' {a x : ByteArray} : a.toList = x.toList ↔ a = x := by
 refine ⟨fun h => ?_, fun h => by rw [h]⟩
 have e : ∀ y : ByteArray, y.toList = y.data.toList := fun y => by
  have := toList_bs y.data.toList
  rwa [bs_data] at this
 rw [e, e] at h
 exact ext_bs h
theorem key_step (k i : Nat) (hi : i < 5) (x : ByteArray) : transhumanceref6_Key.l0 (k + 1) x names (i : Int) = if names[i]'hi = x then some (i : Int) else transhumanceref6_Key.l0 k x names ((i + 1 : Nat) : Int) := by
 have hw : wrap64 ((i : Int) + 1) = ((i + 1 : Nat) : Int) := wrap_id (by omega) (by omega)
 have hl : names.length = 5 := rfl
 have hr : rdOf ByteArray.empty names (i : Int) = names[i]'hi := by
  show names.getD _ _ = _
  rw [List.getD_eq_getElem?_getD, List.getElem?_eq_getElem (by rw [hl]; omega)]
  rfl
 rw [transhumanceref6_Key.l0.eq_2, if_pos (by omega), if_pos (by omega), if_pos (by omega), hr, hw]
 simp only [toList_inj']
theorem key_end (k : Nat) (x : ByteArray) : transhumanceref6_Key.l0 (k + 1) x names ((4 + 1 : Nat) : Int) = some (-1) := by
 rw [transhumanceref6_Key.l0.eq_2, if_neg (by omega)]
theorem key6_f (x : ByteArray) : transhumanceref6_Key.f 6 x = some (Lib.idxOfS names x) := by
 have e : Lib.idxOfS names x = if wordRoot = x then 0 else if wordVersion = x then 1 else if wordRev = x then 2 else if wordWithin = x then 3 else if wordSource = x then 4 else -1 := rfl
 rw [e]
 show transhumanceref6_Key.l0 6 x names ((0 : Nat) : Int) = _
 rw [key_step 5 0 (by omega), key_step 4 1 (by omega), key_step 3 2 (by omega), key_step 2 3 (by omega), key_step 1 4 (by omega), key_end]
 show (if wordRoot = x then some 0 else if wordVersion = x then some 1 else if wordRev = x then some 2 else if wordWithin = x then some 3 else if wordSource = x then some 4 else some (-1)) = _
 repeat' split
 all_goals rfl
theorem set6_f (x : Lk) (k : Nat) (hk : k < 5) (v : ByteArray) : transhumanceref6_Set.f x.root x.version x.rev x.within x.source (k : Int) v = some ((x.set k v).root, (x.set k v).version, (x.set k v).rev, (x.set k v).within, (x.set k v).source) := by
 rcases k with _ | _ | _ | _ | _ | k
 all_goals first | rfl | omega
end Go.Proofs.YtljfcdfdedkajaaDoor.Q
end
section
namespace Go.Proofs.YtljfcdfdedkajaaDoor.Q
open Go.RowKit Go.Proofs.YtljfcdfdedkajaaDoorW.PrintWords Go.Proofs.YtljfcdfdedkajaaDoorW.PrintLast Go.Proofs.YtljfcdfdedkajaaDoorW.PrintMore
def trip : Option (List UInt8 × Nat) → ByteArray × Int × Bool
 | none => (⟨#[]⟩, 0, false)
 | some (o, n) => (bs o, (n : Int), true)
theorem unqGo_cons6 (x : UInt8) (r acc : List UInt8) (n : Nat) : unqGo (x :: r) acc n = if x < 32 ∨ 126 < x then none else if x = 34 then some (acc, n + 1) else if x = 92 then
   match r with
   | [] => none
   | y :: r' => match esc y with
    | none => none
    | some z => unqGo r' (acc ++ [z]) (n + 2)
  else unqGo r (acc ++ [x]) (n + 1) := by
 cases r <;> rfl
theorem one_at (s : ByteArray) (i : Nat) (h : i < s.size) : s.extract i (i + 1) = bs [s[i]] := extract_byte s i h
theorem app_bs (l m : List UInt8) : bs l ++ bs m = bs (l ++ m) := by
 apply ext_bs
 rw [data_bs, ByteArray.data_append, Array.toList_append, data_bs, data_bs]
theorem unq_l0 (s : ByteArray) (hs : s.size ≤ 1000000) : ∀ (n d k i : Nat) (acc : List UInt8), d ≤ n → s.size = i + d → 3 * d + 1 ≤ k → acc.length ≤ i →
  transhumanceref1_Unquote.l0 k s (bs acc) (i : Int) = some (trip (unqGo (s.data.toList.drop i) acc i)) := by
 intro n
 induction n with
 | zero =>
  intro d k i acc hd hz hk hacc
  obtain ⟨k, rfl⟩ : ∃ m, k = m + 1 := ⟨k - 1, by omega⟩
  rw [transhumanceref1_Unquote.l0.eq_2, if_neg (by omega), List.drop_of_length_le (by rw [data_length]; omega)]
  rfl
 | succ n ih =>
  intro d k i acc hd hz hk hacc
  by_cases h0 : d = 0
  ·obtain ⟨k, rfl⟩ : ∃ m, k = m + 1 := ⟨k - 1, by omega⟩
   rw [transhumanceref1_Unquote.l0.eq_2, if_neg (by omega), List.drop_of_length_le (by rw [data_length]; omega)]
   rfl
  have hi : i < s.size := by omega
  obtain ⟨k, rfl⟩ : ∃ m, k = m + 3 := ⟨k - 3, by omega⟩
  have hw : wrap64 ((i : Int) + 1) = ((i + 1 : Nat) : Int) := wrap_id (by omega) (by omega)
  have hw2 : wrap64 (((i + 1 : Nat) : Int) + 1) = ((i + 2 : Nat) : Int) := by rw [wrap_id (by omega) (by omega)]; omega
  have sz : ∀ l : List UInt8, l.length = 1 → (bs acc).size + (bs l).size ≤ 9223372036854775807 := fun l hl => by rw [size_bs, size_bs, hl]; omega
  have hn1 : (i : Int).toNat = i := by omega
  have hn2 : ((i + 1 : Nat) : Int).toNat = i + 1 := by omega
  have hn3 : ((i + 2 : Nat) : Int).toNat = i + 2 := by omega
  rw [drop_at s i hi, unqGo_cons6, show k + 3 = (k + 2) + 1 from rfl, transhumanceref1_Unquote.l0.eq_2, if_pos (by omega), if_pos (by omega), hw, bt_get s i hi]
  have e34 : ((s[i].toNat : Int) = 34) ↔ s[i] = 34 := by rw [← UInt8.toNat_inj]; show _ ↔ s[i].toNat = 34; omega
  have e92 : ((s[i].toNat : Int) = 92) ↔ s[i] = 92 := by rw [← UInt8.toNat_inj]; show _ ↔ s[i].toNat = 92; omega
  have elo : ((s[i].toNat : Int) < 32) ↔ s[i] < 32 := by rw [UInt8.lt_iff_toNat_lt]; show _ ↔ s[i].toNat < 32; omega
  have ehi : ((s[i].toNat : Int) > 126) ↔ 126 < s[i] := by rw [UInt8.lt_iff_toNat_lt]; show _ ↔ 126 < s[i].toNat; omega
  by_cases h34 : s[i] = 34
  ·rw [if_pos (e34.2 h34), h34]
   rfl
  rw [if_neg (fun h => h34 (e34.1 h))]
  by_cases hlo : s[i] < 32
  ·rw [if_pos (elo.2 hlo), transhumanceref1_Unquote.j2.eq_2, if_pos rfl, if_pos (.inl hlo)]
   rfl
  rw [if_neg (fun h => hlo (elo.1 h)), transhumanceref1_Unquote.j2.eq_2]
  by_cases hhi : 126 < s[i]
  ·rw [decide_eq_true (ehi.2 hhi), if_pos rfl, if_pos (.inr hhi)]
   rfl
  rw [decide_eq_false (fun h => hhi (ehi.1 h)), if_neg (by decide), if_pos (by omega), if_pos (by omega), bt_get s i hi, if_neg (show ¬ (s[i] < 32 ∨ 126 < s[i]) from fun h => h.elim hlo hhi), if_neg h34, hw]
  by_cases h92 : s[i] = 92
  ·rw [if_pos (e92.2 h92), if_pos h92]
   by_cases hs1 : i + 1 < s.size
   ·rw [if_neg (by omega), if_pos (by omega), if_pos (by omega), drop_at s (i + 1) hs1, bt_get s (i + 1) hs1]
    have j3 : ∀ b : Bool, (b = true ↔ (s[i + 1] = 34 ∨ s[i + 1] = 92 ∨ s[i + 1] = 47)) → transhumanceref1_Unquote.j3 (k + 1) s (bs acc) ((i + 1 : Nat) : Int) (s[i + 1].toNat : Int) b = some (trip (match esc s[i + 1] with | none => none | some z => unqGo (s.data.toList.drop (i + 1 + 1)) (acc ++ [z]) (i + 2))) := by
     intro b hb
     have e110 : ((s[i + 1].toNat : Int) = 110) ↔ s[i + 1] = 110 := by rw [← UInt8.toNat_inj]; show _ ↔ s[i + 1].toNat = 110; omega
     have e116 : ((s[i + 1].toNat : Int) = 116) ↔ s[i + 1] = 116 := by rw [← UInt8.toNat_inj]; show _ ↔ s[i + 1].toNat = 116; omega
     have next : ∀ z, transhumanceref1_Unquote.l0 k s (bs acc ++ bs [z]) ((i + 2 : Nat) : Int) = some (trip (unqGo (s.data.toList.drop (i + 1 + 1)) (acc ++ [z]) (i + 2))) := by
      intro z
      rw [app_bs]
      exact ih (d - 2) k (i + 2) (acc ++ [z]) (by omega) (by omega) (by omega) (by simp; omega)
     rw [transhumanceref1_Unquote.j3.eq_2, hw2]
     by_cases hbt : b = true
     ·rw [if_pos hbt, if_pos (by omega), if_pos (by omega), if_pos (by omega), hn2, hn3, one_at s (i + 1) hs1, if_pos (sz _ rfl), next]
      rcases hb.1 hbt with h | h | h <;> rw [h] <;> rfl
     ·rw [if_neg hbt]
      have hno := fun h => hbt (hb.2 h)
      by_cases h110 : s[i + 1] = 110
      ·rw [if_pos (e110.2 h110), if_pos (by rw [size_bs]; omega), h110]
       exact next 10
      rw [if_neg (fun h => h110 (e110.1 h))]
      by_cases h116 : s[i + 1] = 116
      ·rw [if_pos (e116.2 h116), if_pos (by rw [size_bs]; omega), h116]
       exact next 9
      rw [if_neg (fun h => h116 (e116.1 h))]
      have : esc s[i + 1] = none := by
       unfold esc
       rw [if_neg (fun h => hno (.inl h)), if_neg (fun h => hno (.inr (.inl h))), if_neg h110, if_neg h116, if_neg (fun h => hno (.inr (.inr h)))]
      rw [this]
      rfl
    have f34 : ((s[i + 1].toNat : Int) = 34) ↔ s[i + 1] = 34 := by rw [← UInt8.toNat_inj]; show _ ↔ s[i + 1].toNat = 34; omega
    have f92 : ((s[i + 1].toNat : Int) = 92) ↔ s[i + 1] = 92 := by rw [← UInt8.toNat_inj]; show _ ↔ s[i + 1].toNat = 92; omega
    have f47 : ((s[i + 1].toNat : Int) = 47) ↔ s[i + 1] = 47 := by rw [← UInt8.toNat_inj]; show _ ↔ s[i + 1].toNat = 47; omega
    by_cases g34 : s[i + 1] = 34
    ·rw [if_pos (f34.2 g34)]
     exact j3 _ (by simp only [beq_iff_eq, f34]; exact ⟨.inl, fun _ => g34⟩)
    rw [if_neg (fun h => g34 (f34.1 h))]
    by_cases g92 : s[i + 1] = 92
    ·rw [if_pos (f92.2 g92)]
     exact j3 _ (by simp only [beq_iff_eq, f92]; exact ⟨fun h => .inr (.inl h), fun _ => g92⟩)
    rw [if_neg (fun h => g92 (f92.1 h))]
    exact j3 _ (by simp only [beq_iff_eq, f47]; exact ⟨fun h => .inr (.inr h), fun h => (h.resolve_left g34).resolve_left g92⟩)
   ·rw [if_pos (by omega), List.drop_of_length_le (by rw [data_length]; omega)]
    rfl
  ·rw [if_neg (fun h => h92 (e92.1 h)), if_neg h92, if_pos (by omega), if_pos (by omega), hn1, hn2, one_at s i hi, if_pos (sz _ rfl), app_bs]
   exact ih (d - 1) (k + 1) (i + 1) (acc ++ [s[i]]) (by omega) (by omega) (by omega) (by simp; omega)
theorem unq6_f (s : ByteArray) (hs : s.size ≤ 1000000) : transhumanceref1_Unquote.f (3 * s.size + 5) s = some (trip (unq s.data.toList)) := by
 unfold transhumanceref1_Unquote.f
 have e : s.toList = s.data.toList := by
  have := toList_bs s.data.toList
  rwa [bs_data] at this
 rw [e]
 by_cases h0 : s.data.toList = []
 ·rw [if_pos h0, h0]
  rfl
 ·have hz : 0 < s.size := by
   rw [← data_length]
   exact List.length_pos_iff.2 h0
  rw [if_neg h0, if_pos (by omega)]
  have hb : bt s 0 = (s[0].toNat : Int) := bt_get s 0 hz
  have hd := drop_at s 0 hz
  rw [List.drop_zero] at hd
  rw [hb, hd]
  show (transhumanceref1_Unquote.j0 ((3 * s.size + 4) + 1) s _) = _
  rw [transhumanceref1_Unquote.j0.eq_2]
  by_cases h34 : s[0] = 34
  ·have hq : ((s[0].toNat : Int) != 34) = false := by rw [h34]; rfl
   rw [hq, if_neg (by decide), h34]
   exact unq_l0 s hs (s.size - 1) (s.size - 1) _ 1 [] (by omega) (by omega) (by omega) (by simp)
  ·have hq : ((s[0].toNat : Int) != 34) = true := by
    have : s[0].toNat ≠ 34 := fun h => h34 (UInt8.toNat_inj.mp h)
    simp only [bne_iff_ne, ne_eq]
    omega
   rw [hq, if_pos rfl]
   have : unq (s[0] :: s.data.toList.drop (0 + 1)) = none := by
    unfold unq
    split
    ·rename_i h
     injection h with h _
     exact absurd h h34
    ·rfl
   rw [this]
   rfl
end Go.Proofs.YtljfcdfdedkajaaDoor.Q
end
