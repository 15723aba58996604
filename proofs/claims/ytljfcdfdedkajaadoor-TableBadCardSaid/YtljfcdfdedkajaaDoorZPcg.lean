import Derived.Test.YtljfcdfdedkajaaDoorZTLocksg
import Derived.Test.YtljfcdfdedkajaaDoorZQuoteg
import Derived.Test.YtljfcdfdedkajaaDoorZTWriteg
set_option linter.unusedVariables false
set_option linter.unusedSimpArgs false
section
namespace Go.Proofs.YtljfcdfdedkajaaDoor.Q
open Go.RowKit Go.Proofs.YtljfcdfdedkajaaDoorW.PrintWords
def At (s : ByteArray) (i : Nat) (l : List UInt8) : Prop := i ≤ s.size ∧ s.data.toList.drop i = l
theorem At.zero (s : ByteArray) : At s 0 s.data.toList := ⟨Nat.zero_le _, rfl⟩
theorem At.size {s : ByteArray} {i : Nat} {l : List UInt8} (h : At s i l) : s.size = i + l.length := by
 have := h.1
 rw [← h.2, List.length_drop, data_length]
 omega
theorem At.skip {s : ByteArray} {i : Nat} {l m : List UInt8} (h : At s i (l ++ m)) : At s (i + l.length) m := by
 have hz := h.size
 rw [List.length_append] at hz
 refine ⟨by omega, ?_⟩
 rw [← List.drop_drop, h.2, List.drop_left]
theorem At.tail {s : ByteArray} {i : Nat} {b : UInt8} {m : List UInt8} (h : At s i (b :: m)) : At s (i + 1) m := At.skip (l := [b]) h
theorem At.nil {s : ByteArray} {i : Nat} (h : At s i []) : byteAt s i = 0 ∧ i = s.size := by
 have hz := h.size
 rw [List.length_nil] at hz
 exact ⟨byteAt_ge s (by omega), by omega⟩
theorem At.pre {s : ByteArray} {i : Nat} {l m : List UInt8} (h : At s i (l ++ m)) : Lib.hasPrefix (s.data.toList.drop i) l = true := by
 rw [h.2]
 exact List.isPrefixOf_iff_prefix.2 (List.prefix_append l m)
theorem At.extract {s : ByteArray} {i : Nat} {l m : List UInt8} (h : At s i (l ++ m)) : s.extract i (i + l.length) = bs l := by
 apply ext_bs
 rw [data_bs, ByteArray.data_extract]
 simp only [Array.toList_extract, List.extract_eq_take_drop, Nat.add_sub_cancel_left]
 rw [h.2, List.take_left]
def Rem (r : List UInt8) : Prop := r = [] ∨ ∃ t, r = 35 :: t ∧ t.all noteB = true
theorem unqGo_cons (x : UInt8) (r acc : List UInt8) (n : Nat) : unqGo (x :: r) acc n = if x < 32 ∨ 126 < x then none else if x = 34 then some (acc, n + 1) else if x = 92 then (match r with | [] => none | y :: r' => match esc y with | none => none | some z => unqGo r' (acc ++ [z]) (n + 2)) else unqGo r (acc ++ [x]) (n + 1) := by
 cases r <;> rfl
def nm (k : Nat) : ByteArray := names.getD k ⟨#[]⟩
end Go.Proofs.YtljfcdfdedkajaaDoor.Q
end
section
namespace Go.Proofs.YtljfcdfdedkajaaDoor.Q
open Go.RowKit Go.Proofs.YtljfcdfdedkajaaDoorW.PrintWords
def hvOf (ks : List Nat) : ByteArray := ks.foldl (fun h k => h ++ (nm k ++ spc)) ⟨#[]⟩
def hvL (ks : List Nat) : List UInt8 := ks.flatMap fun k => (nm k).data.toList ++ [32]
theorem hv_fold (ks : List Nat) (h : ByteArray) : (ks.foldl (fun h k => h ++ (nm k ++ spc)) h).data.toList = h.data.toList ++ hvL ks := by
 induction ks generalizing h with
 | nil => simp [hvL]
 | cons k ks ih =>
  rw [List.foldl_cons, ih]
  simp [hvL, ByteArray.data_append, spc]
theorem hv_list (ks : List Nat) : (hvOf ks).data.toList = hvL ks := by
 unfold hvOf
 rw [hv_fold]
 rfl
theorem hv_snoc (ks : List Nat) (k : Nat) : hvOf ks ++ (nm k ++ spc) = hvOf (ks ++ [k]) := by
 unfold hvOf
 rw [List.foldl_append]
 rfl
def gen : Nat → List (List Nat)
 | 0 => [[]]
 | n + 1 => [] :: (List.range 5).flatMap fun k => ((gen n).filter fun l => !l.contains k).map (k :: ·)
theorem gen_mem : ∀ (n : Nat) (ks : List Nat), ks.length ≤ n → ks.Nodup → (∀ k ∈ ks, k < 5) → ks ∈ gen n
 | 0, ks, hl, _, _ => by
  have : ks = [] := List.eq_nil_of_length_eq_zero (by omega)
  subst this; simp [gen]
 | n + 1, [], _, _, _ => by simp [gen]
 | n + 1, k :: ks, hl, hn, hk => by
  have hn' := List.nodup_cons.1 hn
  simp only [gen, List.mem_cons, List.mem_flatMap, List.mem_map, List.mem_filter, List.mem_range]
  refine .inr ⟨k, hk k List.mem_cons_self, ks, ⟨gen_mem n ks (by simpa using hl) hn'.2 (fun j hj => hk j (List.mem_cons_of_mem _ hj)), ?_⟩, rfl⟩
  simpa using hn'.1
theorem gen_has : ∀ ks ∈ gen 5, ∀ k ∈ List.range 5, Lib.contains (hvL ks) ((nm k).data.toList ++ [32]) = ks.contains k := by decide +kernel
theorem nodup_len (ks : List Nat) (hn : ks.Nodup) (hk : ∀ k ∈ ks, k < 5) : ks.length ≤ 5 := by
 have := List.Nodup.length_le_of_subset hn (l₂ := List.range 5) (fun k h => List.mem_range.2 (hk k h))
 simpa using this
theorem hv_has (ks : List Nat) (k : Nat) (hn : ks.Nodup) (hks : ∀ k ∈ ks, k < 5) (hk : k < 5) : Lib.contains (hvOf ks).data.toList (nm k ++ spc).data.toList = ks.contains k := by
 have h := gen_has ks (gen_mem 5 ks (nodup_len ks hn hks) hn hks) k (List.mem_range.2 hk)
 rw [hv_list]
 rw [← h]
 simp [ByteArray.data_append, spc]
structure It where
 kind : Nat
 k : Nat
 v : List UInt8
 b1 : List UInt8
 b2 : List UInt8
 b3 : List UInt8
 b4 : List UInt8
 r : List UInt8
structure Kn where
 l : List Lk
 ks : List Nat
def It.ok (i : It) (q : Kn) : Prop :=
 i.b1.all blank = true ∧ i.b2.all blank = true ∧ i.b3.all blank = true ∧ i.b4.all blank = true ∧ Rem i.r ∧
 (i.kind = 1 → endedE q.l = 0 ∧ q.l.length < 40) ∧
 (2 ≤ i.kind → q.l ≠ [] ∧ i.k < 5 ∧ i.k ∉ q.ks ∧ i.v.all plainB = true ∧ ((i.k == 0 || i.k == 4) = true → rightL i.v = true))
def Kn.good (q : Kn) : Prop := q.ks.Nodup ∧ ∀ k ∈ q.ks, k < 5
end Go.Proofs.YtljfcdfdedkajaaDoor.Q
end
section
namespace Go.Proofs.YtljfcdfdedkajaaDoor.Q
open Go.RowKit Go.Proofs.YtljfcdfdedkajaaDoorW.PrintWords
def Lk.get (x : Lk) (k : Nat) : ByteArray :=
 match k with
 | 0 => x.root
 | 1 => x.version
 | 2 => x.rev
 | 3 => x.within
 | _ => x.source
structure OkLk (x : Lk) : Prop where
 root : rightL x.root.data.toList = true
 some : x.rev.data.toList ≠ [] ∨ x.version.data.toList ≠ []
 source : x.source.data.toList ≠ [] → rightL x.source.data.toList = true
 plain : ∀ k, k < 5 → (x.get k).data.toList.all plainB = true
structure OkLks (l : List Lk) : Prop where
 each : ∀ x ∈ l, OkLk x
 apart : (l.map fun x => x.root.data.toList).Nodup
 few : l.length ≤ 40
theorem toList_data (b : ByteArray) : b.toList = b.data.toList := Lib.toList_data b
def It.deco (i : It) : Prop := i.b1.all blank = true ∧ i.b2.all blank = true ∧ i.b3.all blank = true ∧ i.b4.all blank = true ∧ Rem i.r
def keysOf (fs : List It) : List Nat := (fs.filter fun i => 2 ≤ i.kind).map (·.k)
structure Body (x : Lk) (fs : List It) : Prop where
 deco : ∀ i ∈ fs, i.deco
 kinds : ∀ i ∈ fs, i.kind ≠ 1
 key : ∀ i ∈ fs, 2 ≤ i.kind → i.k < 5 ∧ i.v = (x.get i.k).data.toList ∧ ((i.k == 0 || i.k == 4) = true → i.v ≠ [])
 once : (keysOf fs).Nodup
 all : ∀ k, k < 5 → (x.get k).data.toList ≠ [] → k ∈ keysOf fs
structure Block where
 x : Lk
 h : It
 fs : List It
def Block.ok (b : Block) : Prop := b.h.kind = 1 ∧ b.h.deco ∧ Body b.x b.fs
end Go.Proofs.YtljfcdfdedkajaaDoor.Q
end
