import Derived.Test.YtjdjljgbfpkbdaaGreatDoorZDcg
import Derived.Test.YtjdjljgbfpkbdaaGreatDoorZDd
import Derived.Test.YtjdjljgbfpkbdaaGreatDoorZQuote
import Derived.Test.YtjdjljgbfpkbdaaGreatDoorZShelf
set_option linter.unusedVariables false
set_option linter.unusedSimpArgs false
namespace Go.Proofs.YtjdjljgbfpkbdaaGreatDoor.Q
open Go.RowKit Go.Proofs.YtjdjljgbfpkbdaaGreatDoorW.PrintWords
def mk (m : Bool) : ByteArray := if m then (⟨#[45, 32]⟩ : ByteArray) else (⟨#[32, 32]⟩ : ByteArray)
def wvalB (v : ByteArray) : ByteArray := if mayL v.data.toList = true then v else ⟨(R.quoteL v.data.toList).toArray⟩
def pieceB (m : Bool) (k v : ByteArray) : List ByteArray := [mk m, k, (⟨#[58, 32]⟩ : ByteArray), wvalB v, (⟨#[10]⟩ : ByteArray)]
def outB : Bool → List (ByteArray × ByteArray) → List ByteArray
  | _, [] => []
  | m, (k, v) :: r => if v.toList.isEmpty = true then outB m r else pieceB m k v ++ outB false r
def noneB (l : List (ByteArray × ByteArray)) : Bool := l.all fun p => p.2.toList.isEmpty
theorem outB_snoc (k v : ByteArray) : ∀ (l : List (ByteArray × ByteArray)) (m : Bool), outB m (l ++ [(k, v)]) = outB m l ++ (if v.toList.isEmpty = true then [] else pieceB (m && noneB l) k v)
  | [], m => by simp [outB, noneB]
  | (k', v') :: l, m => by
    rw [List.cons_append]
    unfold outB
    cases h : v'.toList.isEmpty with
    | true =>
      rw [if_pos rfl, if_pos rfl, outB_snoc k v l m]
      simp [noneB, h]
    | false =>
      rw [if_neg (by simp), if_neg (by simp), outB_snoc k v l false]
      simp [noneB, h]
theorem outB_len : ∀ (l : List (ByteArray × ByteArray)) (m : Bool), (outB m l).length ≤ 5 * l.length
  | [], m => by simp [outB]
  | (k, v) :: l, m => by
    unfold outB
    split
    · have := outB_len l m
      simp only [List.length_cons]
      omega
    · have := outB_len l false
      simp only [List.length_cons, List.length_append, pieceB, List.length_nil]
      omega
def wfs (x : Lk) : List (ByteArray × ByteArray) := [(wordRoot, x.root), (wordVersion, x.version), (wordRev, x.rev), (wordWithin, x.within), (wordSource, x.source)]
def locksB : ByteArray := ⟨#[108, 111, 99, 107, 115, 58, 10]⟩
def writeB (l : List Lk) : List ByteArray := l.flatMap fun x => outB true (wfs x)
theorem writeB_take (l : List Lk) (j : Nat) (h : j < l.length) : writeB (l.take (j + 1)) = writeB (l.take j) ++ outB true (wfs l[j]) := by
  unfold writeB
  rw [List.take_succ_eq_append_getElem h, List.flatMap_append]
  simp
theorem writeB_len : ∀ (l : List Lk), (writeB l).length ≤ 25 * l.length
  | [] => by simp [writeB]
  | x :: l => by
    have h1 := outB_len (wfs x) true
    have h2 := writeB_len l
    simp only [writeB, List.flatMap_cons, List.length_append, List.length_cons] at h2 ⊢
    have : (wfs x).length = 5 := rfl
    omega
def wsmall (x : Lk) : Prop := x.root.size ≤ 8000 ∧ x.version.size ≤ 8000 ∧ x.rev.size ≤ 8000 ∧ x.within.size ≤ 8000 ∧ x.source.size ≤ 8000
def RowAt (w : World) (A : Option Addr) (l : List Lk) : Prop :=
  ∀ j, (h : j < l.length) → ∃ ad, A = some ad ∧ w.cell? (ad.add (j * 5)) = some (.string l[j].root) ∧ w.cell? ⟨(ad.add (j * 5)).block, (ad.add (j * 5)).off + 1, none⟩ = some (.string l[j].version)
    ∧ w.cell? ⟨(ad.add (j * 5)).block, (ad.add (j * 5)).off + 2, none⟩ = some (.string l[j].rev) ∧ w.cell? ⟨(ad.add (j * 5)).block, (ad.add (j * 5)).off + 3, none⟩ = some (.string l[j].within) ∧ w.cell? ⟨(ad.add (j * 5)).block, (ad.add (j * 5)).off + 4, none⟩ = some (.string l[j].source)
theorem wptr_cell {w : World} {b2 q o : Nat} (h : Blk w b2 54 #[.pointer (some ⟨q, o, none⟩), .pointer (some ⟨q, o + 1, none⟩), .pointer (some ⟨q, o + 2, none⟩), .pointer (some ⟨q, o + 3, none⟩), .pointer (some ⟨q, o + 4, none⟩)])
    (k : Nat) (hk : k < 5) : w.cell? ⟨b2, k, none⟩ = some (.pointer (some ⟨q, o + k, none⟩)) := by
  rw [h.cell k]
  rcases k with _ | _ | _ | _ | _ | k
  all_goals first | rfl | omega
theorem wname_cell {w : World} {b1 : Nat} (h : Blk w b1 9 #[.string wordRoot, .string wordVersion, .string wordRev, .string wordWithin, .string wordSource]) (x : Lk) (t : Nat) (k v : ByteArray) (hk : (wfs x)[t]? = some (k, v)) :
    w.cell? ⟨b1, t, none⟩ = some (.string k) := by
  rw [h.cell t]
  rcases t with _ | _ | _ | _ | _ | t <;> simp [wfs] at hk <;> simp [hk.1]
theorem wlock_cell {w : World} {b : Nat} {x : Lk} (h : Blk w b 43 x.arr) (t : Nat) (k v : ByteArray) (hk : (wfs x)[t]? = some (k, v)) : w.cell? ⟨b, t, none⟩ = some (.string v) := by
  rw [h.cell t]
  unfold Lk.arr
  rcases t with _ | _ | _ | _ | _ | t <;> simp [wfs] at hk <;> simp [hk.2]
theorem wsmall_val {x : Lk} (h : wsmall x) (t : Nat) (k v : ByteArray) (hk : (wfs x)[t]? = some (k, v)) : v.size ≤ 8000 := by
  obtain ⟨h0, h1, h2, h3, h4⟩ := h
  rcases t with _ | _ | _ | _ | _ | t <;> simp [wfs] at hk <;> (obtain ⟨_, rfl⟩ := hk; assumption)
theorem wfs_next (x : Lk) (t : Nat) (h : t < 5) : ∃ k v : ByteArray, (wfs x)[t]? = some (k, v) ∧ k.size ≤ 10 ∧ (wfs x).take (t + 1) = (wfs x).take t ++ [(k, v)] := by
  rcases t with _ | _ | _ | _ | _ | t
  · exact ⟨_, _, rfl, by decide, rfl⟩
  · exact ⟨_, _, rfl, by decide, rfl⟩
  · exact ⟨_, _, rfl, by decide, rfl⟩
  · exact ⟨_, _, rfl, by decide, rfl⟩
  · exact ⟨_, _, rfl, by decide, rfl⟩
  · omega
theorem join_flat : ∀ (l : List (List UInt8)), Lib.join l [] = l.flatten
  | [] => rfl
  | x :: l => by
    rw [Lib.join_cons]
    unfold Lib.joinTail
    simp
def Os (w : World) (base : Nat) (v : Value) (xs : List ByteArray) : Prop := w.ownsRow base 9 1 v xs.length (encs Value.string xs)
theorem five_reads (w : World) (xs : List ByteArray) (h : xs.length = 5) : ReadsOf Value.string ByteArray.empty (w.alloc (.cells (xs.map Value.string).toArray 9)) (some ⟨w.heap.size, 0, none⟩) 5 xs := by
  refine ⟨h, by omega, fun _ => ⟨_, rfl, fun j hj => ?_⟩⟩
  have hb := (Blk.new w 9 (xs.map Value.string).toArray).cell j
  have e : (⟨w.heap.size, 0, none⟩ : Addr).add j = ⟨w.heap.size, j, none⟩ := by rw [Addr.add_lit, Nat.zero_add]
  rw [e, hb]
  simp [List.getD, List.getElem?_eq_getElem (show j < xs.length by omega)]
theorem Os.below {w w' : World} {base : Nat} {v : Value} {xs : List ByteArray} (h : Os w base v xs) (hb : Below w.heap.size w w') : Os w' base v xs := pw_own_below h hb
def flat (xs : List ByteArray) : List UInt8 := (xs.map (·.data.toList)).flatten
def writeD (l : List Lk) : List UInt8 := flat (locksB :: writeB l)
theorem wval_len (v : ByteArray) (h : v.size ≤ 8000) : (wvalB v).size ≤ 16002 := by
  unfold wvalB
  split
  · omega
  · have h1 := R.quoteL_length v.data.toList
    have h2 : v.data.toList.length = v.size := data_length v
    have h3 : (⟨(R.quoteL v.data.toList).toArray⟩ : ByteArray).size = (R.quoteL v.data.toList).length := by simp [ByteArray.size]
    omega
theorem flat_len : ∀ (xs : List ByteArray) (m : Nat), (∀ x ∈ xs, x.size ≤ m) → (flat xs).length ≤ xs.length * m
  | [], m, _ => by simp [flat]
  | x :: xs, m, h => by
    have ih := flat_len xs m fun y hy => h y (List.mem_cons_of_mem _ hy)
    have h1 := h x List.mem_cons_self
    have e : flat (x :: xs) = x.data.toList ++ flat xs := by simp [flat]
    rw [e, List.length_append, data_length, List.length_cons, Nat.add_mul]
    omega
theorem outB_small : ∀ (l : List (ByteArray × ByteArray)) (m : Bool), (∀ p ∈ l, p.1.size ≤ 10 ∧ p.2.size ≤ 8000) → ∀ y ∈ outB m l, y.size ≤ 16002
  | [], m, _, y, hy => by simp [outB] at hy
  | (k, v) :: l, m, h, y, hy => by
    obtain ⟨h1, h2⟩ := h (k, v) List.mem_cons_self
    have hl := fun m => outB_small l m (fun p hp => h p (List.mem_cons_of_mem _ hp)) y
    unfold outB at hy
    split at hy
    · exact hl m hy
    · rcases List.mem_append.1 hy with hy | hy
      · simp only [pieceB, List.mem_cons, List.not_mem_nil, or_false] at hy
        rcases hy with rfl | rfl | rfl | rfl | rfl
        · cases m <;> decide
        · simp only at h1; omega
        · decide
        · exact wval_len v h2
        · decide
      · exact hl false hy
theorem writeB_small (l : List Lk) (h : ∀ x ∈ l, wsmall x) : ∀ y ∈ writeB l, y.size ≤ 16002 := by
  intro y hy
  obtain ⟨x, hx, hy⟩ := List.mem_flatMap.1 hy
  refine outB_small _ _ ?_ y hy
  obtain ⟨h0, h1, h2, h3, h4⟩ := h x hx
  intro p hp
  simp only [wfs, List.mem_cons, List.not_mem_nil, or_false] at hp
  rcases hp with rfl | rfl | rfl | rfl | rfl
  · exact ⟨(by decide : wordRoot.size ≤ 10), h0⟩
  · exact ⟨(by decide : wordVersion.size ≤ 10), h1⟩
  · exact ⟨(by decide : wordRev.size ≤ 10), h2⟩
  · exact ⟨(by decide : wordWithin.size ≤ 10), h3⟩
  · exact ⟨(by decide : wordSource.size ≤ 10), h4⟩
section
variable (w : World)
set_option maxHeartbeats 1000000 in
set_option maxRecDepth 100000 in
theorem joined_calls (base : Nat) (v : Value) (xs : List ByteArray) (h : Os w base v xs) (hn : xs ≠ []) (hl : xs.length ≤ 100000) (hz : (flat xs).length ≤ 140737488355328) :
    Calls Tryz.prog 23 #[v] w fun e w' => e = .returned (.string ⟨(flat xs).toArray⟩) ∧ Below w.heap.size w w' := by
  obtain ⟨A, c, rfl, hc, hr⟩ := own_reads_of_le (d := ByteArray.empty) h
  obtain ⟨hr1, hr2, hr3⟩ := hr
  obtain ⟨ad, rfl, hcell⟩ := hr3 (List.length_pos_iff.2 hn)
  have hlt : ad.block < w.heap.size := own_lt h ad.block rfl
  have hadd : ad = ⟨ad.block, ad.off, none⟩ := by
    rcases h.2 with ⟨h0, _⟩ | ⟨g, cap, cur, h0, _⟩
    · cases h0
    · injection h0 with h0
      injection h0 with h0
      rw [h0]
  have hjoin := Tryz.strings_Join ad.block ad.off c xs ⟨#[]⟩ w (by
    intro j x hx
    have hj : j < xs.length := (List.getElem?_eq_some_iff.1 hx).1
    have := hcell j hj
    rw [hadd] at this
    have e : xs.getD j ByteArray.empty = x := by simp [List.getD, hx]
    rw [e, Addr.add_lit] at this
    exact this) hlt (by omega) hc (by
    rw [show (⟨#[]⟩ : ByteArray).data.toList = [] from rfl, join_flat]
    exact hz)
  rw [show (⟨#[]⟩ : ByteArray).data.toList = [] from rfl, join_flat, ← hadd] at hjoin
  have HJ := Lib.hid hjoin
  have HE : Hid (flat xs = (xs.map (·.data.toList)).flatten) := Lib.hid rfl
  rw [← HE.out] at HJ
  generalize flat xs = F at *
  clear hjoin h hcell hr1 hr2 hr3 hadd hlt HE
  go_enter Tryz.func23, Tryz.ntmps23
  go_wp2_with (fail)
  refine HJ.out.mono ?_
  rintro e w1 ⟨rfl, hb⟩
  have HB := Lib.hid hb
  clear hb
  go_wp2_with (fail)
  go_ret
  exact ⟨rfl, HB.out⟩
set_option maxHeartbeats 4000000 in
set_option maxRecDepth 100000 in
theorem dwrite_all (A : Option Addr) (c : Nat) (l : List Lk) (hr : RowAt w A l) (hl : l.length ≤ 1000) (hz : ∀ x ∈ l, wsmall x) (hG : GL w) (hne : l ≠ []) :
    Calls Tryz.prog 10 #[.slice A l.length c] w fun e w' => e = .returned (.string ⟨(writeD l).toArray⟩) ∧ Below w.heap.size w w' := by
  have HR := Lib.hid hr
  have HZ := Lib.hid hz
  have HG := Lib.hid hG
  have hpos : 0 < l.length := List.length_pos_iff.2 hne
  have hn0 : ((l.length : Int) == 0) = false := by simp; omega
  clear hr hz hG hne
  go_enter Tryz.func10, Tryz.ntmps10
  go_wp2_with (fail)
  go_loopg [3, 18] (l.length) (fun q v i wr => ∃ j : Nat, q = l.length - j ∧ j ≤ l.length ∧ i = .int .i64 j ∧ Os wr w.heap.size v (locksB :: writeB (l.take j)) ∧ Below w.heap.size w wr)
  case atStart => exact ⟨0, rfl, Nat.zero_le _, rfl, own_lit_of (enc := Value.string) w w.heap.size 9 [locksB] (Nat.le_refl _) (by simp), (Below.refl _ w).alloc (Nat.le_refl _) _⟩
  case round =>
    obtain ⟨j, rfl, hj, rfl, hbd, hbl⟩ := hrel
    have HBD := Lib.hid hbd
    have HBL := Lib.hid hbl
    obtain ⟨Ao, co, rfl⟩ := own_slice hbd
    clear hbd hbl
    by_cases hlt : j < l.length
    · obtain ⟨ad, rfl, c0, c1, c2, c3, c4⟩ := HR.out j hlt
      have d0 := pw_cell_below HBL.out c0
      have d1 := pw_cell_below HBL.out c1
      have d2 := pw_cell_below HBL.out c2
      have d3 := pw_cell_below HBL.out c3
      have d4 := pw_cell_below HBL.out c4
      have HT := Lib.hid (writeB_take l j hlt)
      have HS := Lib.hid (HZ.out l[j] (List.getElem_mem hlt))
      have HLN := Lib.hid (show (writeB (l.take j)).length ≤ 25000 from by
        have h1 := writeB_len (l.take j)
        have h2 : (l.take j).length ≤ 1000 := by rw [List.length_take]; omega
        omega)
      generalize l[j] = x at *
      clear c0 c1 c2 c3 c4
      have hwb : w.heap.size ≤ wr.heap.size := HBL.out.size
      have HX1 := Lib.hid (Blk.new wr 43 x.arr)
      have HBL1 := Lib.hid (HBL.out.alloc hwb (.cells x.arr 43))
      have HBD1 := Lib.hid (show Os (wr.alloc (.cells x.arr 43)) w.heap.size _ _ from own_alloc HBD.out _)
      have HXN := Lib.hid (show w.heap.size ≤ wr.heap.size from hwb)
      go_wp2_with (fail)
      refine (fields_calls _ wr.heap.size 0).mono ?_
      rintro e w2 ⟨b1, b2, rfl, hb1, hb2, hb12, hk1, hk2, hbl3⟩
      have HX3 := Lib.hid (HX1.out.below hbl3)
      have HBL3 := Lib.hid (below_then HBL1.out HBL1.out.size hbl3)
      have HBD3 := Lib.hid (HBD1.out.below hbl3)
      have HK1 := Lib.hid hk1
      have HK2 := Lib.hid hk2
      have HNE := Lib.hid (show (Value.slice Ao (locksB :: writeB (l.take j)).length co).ownBlock ≠ some b1 from fun hk => by
        have h1 := own_lt HBD1.out b1 hk
        have h2 := hb1
        simp at h1 h2
        omega)
      clear hk1 hk2 hbl3 hb1 hb2 hb12
      go_wp2_with (fail)
      clear HX1 HBD1 HBL1 HBD HBL hwb d0 d1 d2 d3 d4
      generalize wr.heap.size = X at *
      go_loopg [3, 8, 28] (5) (fun q v front i wi => ∃ t : Nat, q = 5 - t ∧ t ≤ 5 ∧ i = .int .i64 t ∧ front = .string (mk (noneB ((wfs x).take t))) ∧ Os wi w.heap.size v (locksB :: (writeB (l.take j) ++ outB true ((wfs x).take t))) ∧ v.ownBlock ≠ some b1 ∧ Blk wi X 43 x.arr
        ∧ Blk wi b1 9 #[.string wordRoot, .string wordVersion, .string wordRev, .string wordWithin, .string wordSource]
        ∧ Blk wi b2 54 #[.pointer (some ⟨X, 0, none⟩), .pointer (some ⟨X, 0 + 1, none⟩), .pointer (some ⟨X, 0 + 2, none⟩), .pointer (some ⟨X, 0 + 3, none⟩), .pointer (some ⟨X, 0 + 4, none⟩)]
        ∧ Below w.heap.size w wi)
      case atStart => exact ⟨0, rfl, Nat.zero_le _, rfl, rfl, by simpa [outB] using HBD3.out, HNE.out, HX3.out, HK1.out, HK2.out, HBL3.out⟩
      case round =>
        obtain ⟨t, rfl, ht, rfl, rfl, hbd, hnb, hx, hk1, hk2, hbl⟩ := hrel
        by_cases ht5 : t < 5
        · obtain ⟨k, v, hkv, hkz, hpn⟩ := wfs_next x t ht5
          have n1 := wname_cell hk1 x t k v hkv
          have n2 := wptr_cell hk2 t ht5
          rw [Nat.zero_add] at n2
          have n3 := wlock_cell hx t k v hkv
          have hvz := wsmall_val HS.out t k v hkv
          have HON := Lib.hid (show noneB ((wfs x).take (t + 1)) = (noneB ((wfs x).take t) && v.toList.isEmpty) from by rw [hpn]; simp [noneB])
          have HOB := Lib.hid (show outB true ((wfs x).take (t + 1)) = outB true ((wfs x).take t) ++ (if v.toList.isEmpty = true then [] else pieceB (noneB ((wfs x).take t)) k v) from by rw [hpn, outB_snoc]; simp)
          have HOL := Lib.hid (show (outB true ((wfs x).take t)).length ≤ 25 from by
            have h1 := outB_len ((wfs x).take t) true
            have h2 : ((wfs x).take t).length ≤ 5 := by rw [List.length_take]; have : (wfs x).length = 5 := rfl; omega
            omega)
          have HBDi := Lib.hid hbd
          have HXi := Lib.hid hx
          have HKi := Lib.hid hk1
          have HKj := Lib.hid hk2
          have HBLi := Lib.hid hbl
          have HVZ := Lib.hid hvz
          have HNB := Lib.hid hnb
          clear hnb hbd hx hk1 hk2 hbl hpn hkz hvz hkv
          generalize outB true ((wfs x).take t) = done at *
          generalize noneB ((wfs x).take t) = m at *
          cases hve : v.toList.isEmpty with
          | true =>
            rw [hve, Bool.and_true] at HON
            rw [hve, if_pos rfl, List.append_nil] at HOB
            have HVE := Lib.hid hve
            go_wp2_with (fail)
            go_roundg (5 - (t + 1))
            case measure => omega
            case rel =>
              refine ⟨t + 1, rfl, by omega, rfl, by rw [HON.out], ?_, HNB.out, HXi.out, HKi.out, HKj.out, HBLi.out⟩
              rw [HOB.out]
              exact HBDi.out
          | false =>
            rw [hve, Bool.and_false] at HON
            rw [hve, if_neg (by simp)] at HOB
            have HGi := Lib.hid (HG.out.below0 HBLi.out)
            have HAL := Lib.hid (show (locksB :: (writeB (l.take j) ++ done)).length ≤ 25026 from by
              have h1 := HLN.out
              have h2 := HOL.out
              simp only [List.length_cons, List.length_append]
              omega)
            have HAC := Lib.hid (show locksB :: (writeB (l.take j) ++ (done ++ pieceB m k v)) = (locksB :: (writeB (l.take j) ++ done)) ++ pieceB m k v from by simp [List.append_assoc])
            generalize locksB :: (writeB (l.take j) ++ done) = acc at *
            go_wp2_with (fail)
            refine (may_calls v _ HVZ.out HGi.out).mono ?_
            rintro e w5 ⟨rfl, rfl⟩
            obtain ⟨Ai, ci, hsl⟩ := own_slice HBDi.out
            subst hsl
            cases hm : mayL v.data.toList with
            | true =>
              have HPB := Lib.hid (show pieceB m k v = [mk m, k, (⟨#[58, 32]⟩ : ByteArray), v, (⟨#[10]⟩ : ByteArray)] from by unfold pieceB; rw [show wvalB v = v from if_pos hm])
              clear hm
              rw [HPB.out] at HOB HAC
              go_wp2_with (first | ((with_reducible refine gate_builtin (b := .append) (xs := #[.tmp 46, .tmp 50]) rfl ?_); at_builtin; refine print_append_row_of (w0 := w) Value.string ByteArray.empty w.heap.size rfl (.tmp 46) (.tmp 50) 36 9 _ 16 rfl Tryz.underlying36 infoS rfl (by decide) (fun _ => rfl) _ acc [mk m, k, (⟨#[58, 32]⟩ : ByteArray), v, (⟨#[10]⟩ : ByteArray)] (some ⟨w5.heap.size, 0, none⟩) 5 5 rfl rfl ?aO ?aR ?aB ?aS ?aL ?next))
              case aO => exact own_alloc HBDi.out _
              case aR => exact five_reads w5 [mk m, k, (⟨#[58, 32]⟩ : ByteArray), v, (⟨#[10]⟩ : ByteArray)] rfl
              case aB => exact HBLi.out.alloc HBLi.out.size _
              case aS => have := HBLi.out.size; simp; omega
              case aL => have := HAL.out; omega
              case next =>
                intro v1 w6 hown hb6 hg6 hat
                have hg7 := World.grownBy.trans (World.grownBy_alloc w5 _ _) hg6
                have HO6 := Lib.hid (show Os w6 w.heap.size v1 (acc ++ [mk m, k, (⟨#[58, 32]⟩ : ByteArray), v, (⟨#[10]⟩ : ByteArray)]) from by unfold Os; rw [List.length_append]; exact hown)
                have HX6 := Lib.hid (blk_own HXi.out HBDi.out hg7 (by decide))
                have HK6 := Lib.hid (show Blk w6 b1 9 _ from blk_grown HKi.out hg7 (fun he => HNB.out he.symm))
                have HJ6 := Lib.hid (blk_own HKj.out HBDi.out hg7 (by decide))
                have HB6 := Lib.hid hb6
                have HN6 := Lib.hid (show v1.ownBlock ≠ some b1 from by
                  rcases hat with hat | ⟨b, hat, hle⟩
                  · rw [hat]; exact HNB.out
                  · rw [hat]
                    have := HKi.out.lt
                    have h2 : w5.heap.size ≤ b := Nat.le_trans (by simp) hle
                    intro he
                    injection he with he
                    omega)
                clear hown hb6 hg6 hat hg7 HXi HKi HKj HBDi HBLi n1 n2 n3
                go_wp2_with (fail)
                go_roundg (5 - (t + 1))
                case measure => omega
                case rel =>
                  refine ⟨t + 1, rfl, by omega, rfl, by rw [HON.out]; rfl, ?_, HN6.out, HX6.out, HK6.out, HJ6.out, HB6.out⟩
                  rw [HOB.out, HAC.out]
                  exact HO6.out
            | false =>
              go_wp2_with (fail)
              refine (R.quote_calls v (by have := HVZ.out; omega) _).mono ?_
              rintro e w6 ⟨rfl, hb5⟩
              have HPB := Lib.hid (show pieceB m k v = [mk m, k, (⟨#[58, 32]⟩ : ByteArray), (⟨(R.quoteL v.data.toList).toArray⟩ : ByteArray), (⟨#[10]⟩ : ByteArray)] from by unfold pieceB; rw [show wvalB v = _ from if_neg (by rw [hm]; simp)])
              rw [HPB.out] at HOB HAC
              clear hm
              generalize (⟨(R.quoteL v.data.toList).toArray⟩ : ByteArray) = qs at *
              have HXj := Lib.hid (HXi.out.below hb5)
              have HKk := Lib.hid (HKi.out.below hb5)
              have HKl := Lib.hid (HKj.out.below hb5)
              have HBLj := Lib.hid (below_then HBLi.out HBLi.out.size hb5)
              have HBDj := Lib.hid (HBDi.out.below hb5)
              clear HXi HKi HKj HBLi HBDi hb5 n1 n2 n3
              go_wp2_with (first | ((with_reducible refine gate_builtin (b := .append) (xs := #[.tmp 46, .tmp 50]) rfl ?_); at_builtin; refine print_append_row_of (w0 := w) Value.string ByteArray.empty w.heap.size rfl (.tmp 46) (.tmp 50) 36 9 _ 16 rfl Tryz.underlying36 infoS rfl (by decide) (fun _ => rfl) _ acc [mk m, k, (⟨#[58, 32]⟩ : ByteArray), qs, (⟨#[10]⟩ : ByteArray)] (some ⟨w6.heap.size, 0, none⟩) 5 5 rfl rfl ?aO ?aR ?aB ?aS ?aL ?next))
              case aO => exact own_alloc HBDj.out _
              case aR => exact five_reads w6 [mk m, k, (⟨#[58, 32]⟩ : ByteArray), qs, (⟨#[10]⟩ : ByteArray)] rfl
              case aB => exact HBLj.out.alloc HBLj.out.size _
              case aS => have := HBLj.out.size; simp; omega
              case aL => have := HAL.out; omega
              case next =>
                intro v1 w7 hown hb6 hg6 hat
                have hg7 := World.grownBy.trans (World.grownBy_alloc w6 _ _) hg6
                have HO6 := Lib.hid (show Os w7 w.heap.size v1 (acc ++ [mk m, k, (⟨#[58, 32]⟩ : ByteArray), qs, (⟨#[10]⟩ : ByteArray)]) from by unfold Os; rw [List.length_append]; exact hown)
                have HX6 := Lib.hid (blk_own HXj.out HBDj.out hg7 (by decide))
                have HK6 := Lib.hid (show Blk w7 b1 9 _ from blk_grown HKk.out hg7 (fun he => HNB.out he.symm))
                have HJ6 := Lib.hid (blk_own HKl.out HBDj.out hg7 (by decide))
                have HB6 := Lib.hid hb6
                have HN6 := Lib.hid (show v1.ownBlock ≠ some b1 from by
                  rcases hat with hat | ⟨b, hat, hle⟩
                  · rw [hat]; exact HNB.out
                  · rw [hat]
                    have := HKk.out.lt
                    have h2 : w6.heap.size ≤ b := Nat.le_trans (by simp) hle
                    intro he
                    injection he with he
                    omega)
                clear hown hb6 hg6 hat hg7 HXj HKk HKl HBDj HBLj
                go_wp2_with (fail)
                go_roundg (5 - (t + 1))
                case measure => omega
                case rel =>
                  refine ⟨t + 1, rfl, by omega, rfl, by rw [HON.out]; rfl, ?_, HN6.out, HX6.out, HK6.out, HJ6.out, HB6.out⟩
                  rw [HOB.out, HAC.out]
                  exact HO6.out
        · have ht' : t = 5 := by omega
          subst ht'
          have HBDi := Lib.hid hbd
          have HBLi := Lib.hid hbl
          clear hnb hbd hbl hx hk1 hk2
          go_wp2_with (fail)
          go_roundg (l.length - (j + 1))
          case measure => omega
          case rel =>
            refine ⟨j + 1, rfl, by omega, rfl, ?_, HBLi.out⟩
            rw [HT.out]
            exact HBDi.out
    · have hje : l.take j = l := List.take_of_length_le (by omega)
      rw [hje] at HBD
      go_wp2_with (fail)
      refine (joined_calls _ w.heap.size _ _ HBD.out (by simp) (by
        have h1 := writeB_len l
        simp only [List.length_cons]
        omega) (by
        have h1 := writeB_len l
        have h2 := flat_len (locksB :: writeB l) 16002 (by
          intro y hy
          rcases List.mem_cons.1 hy with rfl | hy
          · decide
          · exact writeB_small l HZ.out y hy)
        simp only [List.length_cons] at h2
        have h3 : (writeB l).length ≤ 25000 := by omega
        have h4 := Nat.mul_le_mul_right 16002 (Nat.succ_le_succ h3)
        simp only [Nat.succ_eq_add_one] at h4
        omega)).mono ?_
      rintro e w1 ⟨rfl, hw1⟩
      have HW1 := Lib.hid hw1
      clear hw1
      go_wp2_with (fail)
      go_ret
      exact ⟨rfl, below_then HBL.out HBL.out.size HW1.out⟩
end
end Go.Proofs.YtjdjljgbfpkbdaaGreatDoor.Q
