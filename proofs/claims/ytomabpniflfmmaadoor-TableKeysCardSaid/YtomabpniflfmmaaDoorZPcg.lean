import Derived.Test.YtomabpniflfmmaaDoorZTLocksg
import Derived.Test.YtomabpniflfmmaaDoorZQuoteg
import Derived.Test.YtomabpniflfmmaaDoorZTWriteg
section
namespace Go.Proofs.YtomabpniflfmmaaDoor.Q
open Go.RowKit Go.Proofs.YtomabpniflfmmaaDoorW.PrintWords
def At (s : ByteArray) (i : Nat) (l : List UInt8) : Prop := i ≤ s.size ∧ s.data.toList.drop i = l
theorem At.zero (s : ByteArray) : At s 0 s.data.toList := ⟨Nat.zero_le _, rfl⟩
theorem At.size {s : ByteArray} {i : Nat} {l : List UInt8} (h : At s i l) : s.size = i + l.length := by
  have := h.1
  rw [← h.2, List.length_drop, data_length]
  omega
theorem At.skip {s : ByteArray} {i : Nat} {l m : List UInt8} (h : At s i (l ++ m)) : At s (i + l.length) m := by
  have hz := h.size
  rw [List.length_append] at hz
  refine ⟨by omega, ?_⟩
  rw [← List.drop_drop, h.2, List.drop_left]
theorem At.tail {s : ByteArray} {i : Nat} {b : UInt8} {m : List UInt8} (h : At s i (b :: m)) : At s (i + 1) m := At.skip (l := [b]) h
theorem At.pre {s : ByteArray} {i : Nat} {l m : List UInt8} (h : At s i (l ++ m)) : Lib.hasPrefix (s.data.toList.drop i) l = true := by
  rw [h.2]
  exact List.isPrefixOf_iff_prefix.2 (List.prefix_append l m)
theorem At.extract {s : ByteArray} {i : Nat} {l m : List UInt8} (h : At s i (l ++ m)) : s.extract i (i + l.length) = bs l := by
  apply ext_bs
  rw [data_bs, ByteArray.data_extract]
  simp only [Array.toList_extract, List.extract_eq_take_drop, Nat.add_sub_cancel_left]
  rw [h.2, List.take_left]
def Rem (r : List UInt8) : Prop := r = [] ∨ ∃ t, r = 35 :: t ∧ t.all noteB = true
end Go.Proofs.YtomabpniflfmmaaDoor.Q
end
section
namespace Go.Proofs.YtomabpniflfmmaaDoor.Q
open Go.RowKit Go.Proofs.YtomabpniflfmmaaDoorW.PrintWords
structure It where
  kind : Nat
  k : Nat
  v : List UInt8
  b1 : List UInt8
  b2 : List UInt8
  b3 : List UInt8
  b4 : List UInt8
  r : List UInt8
structure Kn where
  l : List Lk
  ks : List Nat
def It.ok (i : It) (q : Kn) : Prop :=
  i.b1.all blank = true ∧ i.b2.all blank = true ∧ i.b3.all blank = true ∧ i.b4.all blank = true ∧ Rem i.r ∧
  (i.kind = 1 → endedE q.l = 0 ∧ q.l.length < 40) ∧
  (2 ≤ i.kind → q.l ≠ [] ∧ i.k < 5 ∧ i.k ∉ q.ks ∧ i.v.all plainB = true ∧ ((i.k == 0 || i.k == 4) = true → rightL i.v = true))
def Kn.good (q : Kn) : Prop := q.ks.Nodup ∧ ∀ k ∈ q.ks, k < 5
end Go.Proofs.YtomabpniflfmmaaDoor.Q
end
section
namespace Go.Proofs.YtomabpniflfmmaaDoor.Q
open Go.RowKit Go.Proofs.YtomabpniflfmmaaDoorW.PrintWords
def Lk.get (x : Lk) (k : Nat) : ByteArray :=
  match k with
  | 0 => x.root
  | 1 => x.version
  | 2 => x.rev
  | 3 => x.within
  | _ => x.source
theorem toList_data (b : ByteArray) : b.toList = b.data.toList := Lib.toList_data b
def It.deco (i : It) : Prop := i.b1.all blank = true ∧ i.b2.all blank = true ∧ i.b3.all blank = true ∧ i.b4.all blank = true ∧ Rem i.r
def keysOf (fs : List It) : List Nat := (fs.filter fun i => 2 ≤ i.kind).map (·.k)
structure Body (x : Lk) (fs : List It) : Prop where
  deco : ∀ i ∈ fs, i.deco
  kinds : ∀ i ∈ fs, i.kind ≠ 1
  key : ∀ i ∈ fs, 2 ≤ i.kind → i.k < 5 ∧ i.v = (x.get i.k).data.toList ∧ ((i.k == 0 || i.k == 4) = true → i.v ≠ [])
  once : (keysOf fs).Nodup
  all : ∀ k, k < 5 → (x.get k).data.toList ≠ [] → k ∈ keysOf fs
structure Block where
  x : Lk
  h : It
  fs : List It
def Block.ok (b : Block) : Prop := b.h.kind = 1 ∧ b.h.deco ∧ Body b.x b.fs
end Go.Proofs.YtomabpniflfmmaaDoor.Q
end
