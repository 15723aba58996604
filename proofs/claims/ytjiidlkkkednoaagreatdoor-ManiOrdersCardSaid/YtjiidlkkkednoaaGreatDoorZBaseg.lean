import Derived.Test.YtjiidlkkkednoaaGreatDoorProg
import Derived.Below
import Derived.Deep.Draws
import Derived.Deep.AppendLies
import Derived.Maps.AppendAt
import Derived.OwnWalk
import Derived.Laws.BytesArg
import Derived.Laws.MakeOwn
import Derived.Laws.OwnMore
import Derived.Deep.OwnRows
import Derived.Tactics
import Derived.Lib.ConvBytes
import Derived.Laws.Slices
import Derived.WalkKit
import Derived.KernelRfl
import Derived.RowKit3
import Derived.Deep.LoopGhost
import Derived.Deep.QuietTactic
import Derived.BigQuiet
import Derived.WideLaws
import Derived.Deep.DeepCutAuto
import Derived.Deep.CutBlock
import Derived.Deep.RegionHeld3
import Derived.Laws.Rows
import Derived.Lib.AppendStr
import Derived.ArgAppend
import Derived.Laws.IdiomCopy
import Derived.OrdersHeld
import Derived.Laws.BitsLemmas
import Derived.RowKit
import Derived.Test.YtjiidlkkkednoaaGreatDoorZW0
section
namespace Go.Proofs.YtjiidlkkkednoaaGreatDoor.Q
open Go.RowKit Go.Proofs.YtjiidlkkkednoaaGreatDoorW.PrintWords Go.Proofs.YtjiidlkkkednoaaGreatDoorW.PrintLast Go.Proofs.YtjiidlkkkednoaaGreatDoorW.PrintMore
attribute [local go_sem] max2_int min2_int max_two min_two max_three min_three max_four min_four
set_option linter.unusedVariables false
set_option linter.unusedSimpArgs false
def errW:Option Int→Value
 | none => .nilIface
 | some c => .iface 0 (.int .i64 c)
theorem errW_none:errW none=.nilIface:=rfl
theorem errW_some (c:Int):errW (some c)=.iface 0 (.int .i64 c):=rfl
theorem info9:(Tryz.prog.info? 9).map (fun i => (i.zero,i.size,i.bytes))=some (some (.string ⟨#[]⟩),1,16):=by kernel_rfl
theorem info45:(Tryz.prog.info? 45).map (fun i => (i.zero,i.size,i.bytes))=some (some (.agg #[(.string ⟨#[]⟩),(.int .i64 0),(.int .i64 0),(.int .i64 0),(.string ⟨#[]⟩)]),5,56):=by kernel_rfl
theorem info48:(Tryz.prog.info? 48).map (fun i => (i.zero,i.size,i.bytes))=some (some (.agg #[(.string ⟨#[]⟩),(.string ⟨#[]⟩),(.int .i64 0),(.int .i64 0),(.int .i64 0),(.string ⟨#[]⟩)]),6,72):=by kernel_rfl
structure S43 where
 f0:Int
 f1:Int
 f2:Int
 f3:ByteArray
def z43:S43:=⟨(0:Int),(0:Int),(0:Int),(⟨#[]⟩:ByteArray)⟩
def k43:Kd S43:=Kd.iso (Kd.pair (Kd.int .i64) (Kd.pair (Kd.int .i64) (Kd.pair (Kd.int .i64) Kd.string))) (fun x:S43 => (x.f0,x.f1,x.f2,x.f3))
theorem k43_open {w:World} {x:S43} {cs:List Value} (h:k43.K w x cs):cs=[.int .i64 x.f0,.int .i64 x.f1,.int .i64 x.f2,.string x.f3]:=by
 obtain ⟨_,_,rfl,rfl,⟨_,_,rfl,rfl,⟨_,_,rfl,rfl,rfl⟩⟩⟩:=h
 exact rfl
theorem k43_mk (w:World) (x:S43) :k43.K w x [.int .i64 x.f0,.int .i64 x.f1,.int .i64 x.f2,.string x.f3]:=⟨[.int .i64 x.f0],[.int .i64 x.f1,.int .i64 x.f2,.string x.f3],rfl,rfl,⟨[.int .i64 x.f1],[.int .i64 x.f2,.string x.f3],rfl,rfl,⟨[.int .i64 x.f2],[.string x.f3],rfl,rfl,rfl⟩⟩⟩
theorem k43_mkM (w:World) (base:Nat) (ok:Nat→Prop) (x:S43) :k43.M w base ok x [.int .i64 x.f0,.int .i64 x.f1,.int .i64 x.f2,.string x.f3]:=⟨[.int .i64 x.f0],[.int .i64 x.f1,.int .i64 x.f2,.string x.f3],rfl,rfl,⟨[.int .i64 x.f1],[.int .i64 x.f2,.string x.f3],rfl,rfl,⟨[.int .i64 x.f2],[.string x.f3],rfl,rfl,rfl⟩⟩⟩
structure S45 where
 f0:ByteArray
 f1:S43
def z45:S45:=⟨(⟨#[]⟩:ByteArray),z43⟩
def k45:Kd S45:=Kd.iso (Kd.pair Kd.string k43) (fun x:S45 => (x.f0,x.f1))
theorem k45_open {w:World} {x:S45} {cs:List Value} (h:k45.K w x cs):cs=[.string x.f0,.int .i64 x.f1.f0,.int .i64 x.f1.f1,.int .i64 x.f1.f2,.string x.f1.f3]:=by
 obtain ⟨_,_,rfl,rfl,s1⟩:=h
 obtain rfl:=k43_open s1
 exact rfl
theorem k45_mk (w:World) (x:S45) :k45.K w x [.string x.f0,.int .i64 x.f1.f0,.int .i64 x.f1.f1,.int .i64 x.f1.f2,.string x.f1.f3]:=⟨[.string x.f0],[.int .i64 x.f1.f0,.int .i64 x.f1.f1,.int .i64 x.f1.f2,.string x.f1.f3],rfl,rfl,(k43_mk w x.f1 )⟩
theorem k45_mkM (w:World) (base:Nat) (ok:Nat→Prop) (x:S45) :k45.M w base ok x [.string x.f0,.int .i64 x.f1.f0,.int .i64 x.f1.f1,.int .i64 x.f1.f2,.string x.f1.f3]:=⟨[.string x.f0],[.int .i64 x.f1.f0,.int .i64 x.f1.f1,.int .i64 x.f1.f2,.string x.f1.f3],rfl,rfl,(k43_mkM w base ok x.f1 )⟩
def rd_T45 (xs:List S45) (i:Int):S45:=xs.getD i.toNat z45
theorem at_T45 {w:World} {A:Option Addr} {n:Nat} {xs:List S45} (h:Kd.C k45 w A n xs) (i:Int) (h0:0≤i) (h1:i<n):∃ ad ,A=some ad∧w.cell? (ad.add (i.toNat * 5))=some (.string (rd_T45 xs i).f0)∧w.cell? ⟨(ad.add (i.toNat * 5)).block,(ad.add (i.toNat * 5)).off+1,none⟩=some (.int .i64 (rd_T45 xs i).f1.f0)∧w.cell? ⟨(ad.add (i.toNat * 5)).block,(ad.add (i.toNat * 5)).off+2,none⟩=some (.int .i64 (rd_T45 xs i).f1.f1)∧w.cell? ⟨(ad.add (i.toNat * 5)).block,(ad.add (i.toNat * 5)).off+3,none⟩=some (.int .i64 (rd_T45 xs i).f1.f2)∧w.cell? ⟨(ad.add (i.toNat * 5)).block,(ad.add (i.toNat * 5)).off+4,none⟩=some (.string (rd_T45 xs i).f1.f3):=by
 obtain ⟨ad,c,e,_,hK,hc0⟩:=Kd.C_get h z45 i h0 h1
 have hc:∀ j u,c[j]?=some u→w.cell? (ad.add (i.toNat * 5+j))=some u:=hc0
 obtain rfl:=k45_open hK
 exact ⟨ad,e,hc 0 _ rfl,by rw [← add_field _ _ 1 (by omega)];exact hc 1 _ rfl,by rw [← add_field _ _ 2 (by omega)];exact hc 2 _ rfl,by rw [← add_field _ _ 3 (by omega)];exact hc 3 _ rfl,by rw [← add_field _ _ 4 (by omega)];exact hc 4 _ rfl⟩
structure S48 where
 f0:ByteArray
 f1:ByteArray
 f2:S43
def z48:S48:=⟨(⟨#[]⟩:ByteArray),(⟨#[]⟩:ByteArray),z43⟩
def k48:Kd S48:=Kd.iso (Kd.pair Kd.string (Kd.pair Kd.string k43)) (fun x:S48 => (x.f0,x.f1,x.f2))
theorem k48_open {w:World} {x:S48} {cs:List Value} (h:k48.K w x cs):cs=[.string x.f0,.string x.f1,.int .i64 x.f2.f0,.int .i64 x.f2.f1,.int .i64 x.f2.f2,.string x.f2.f3]:=by
 obtain ⟨_,_,rfl,rfl,⟨_,_,rfl,rfl,s2⟩⟩:=h
 obtain rfl:=k43_open s2
 exact rfl
theorem k48_mk (w:World) (x:S48) :k48.K w x [.string x.f0,.string x.f1,.int .i64 x.f2.f0,.int .i64 x.f2.f1,.int .i64 x.f2.f2,.string x.f2.f3]:=⟨[.string x.f0],[.string x.f1,.int .i64 x.f2.f0,.int .i64 x.f2.f1,.int .i64 x.f2.f2,.string x.f2.f3],rfl,rfl,⟨[.string x.f1],[.int .i64 x.f2.f0,.int .i64 x.f2.f1,.int .i64 x.f2.f2,.string x.f2.f3],rfl,rfl,(k43_mk w x.f2 )⟩⟩
theorem k48_mkM (w:World) (base:Nat) (ok:Nat→Prop) (x:S48) :k48.M w base ok x [.string x.f0,.string x.f1,.int .i64 x.f2.f0,.int .i64 x.f2.f1,.int .i64 x.f2.f2,.string x.f2.f3]:=⟨[.string x.f0],[.string x.f1,.int .i64 x.f2.f0,.int .i64 x.f2.f1,.int .i64 x.f2.f2,.string x.f2.f3],rfl,rfl,⟨[.string x.f1],[.int .i64 x.f2.f0,.int .i64 x.f2.f1,.int .i64 x.f2.f2,.string x.f2.f3],rfl,rfl,(k43_mkM w base ok x.f2 )⟩⟩
def rd_T48 (xs:List S48) (i:Int):S48:=xs.getD i.toNat z48
theorem at_T48 {w:World} {A:Option Addr} {n:Nat} {xs:List S48} (h:Kd.C k48 w A n xs) (i:Int) (h0:0≤i) (h1:i<n):∃ ad ,A=some ad∧w.cell? (ad.add (i.toNat * 6))=some (.string (rd_T48 xs i).f0)∧w.cell? ⟨(ad.add (i.toNat * 6)).block,(ad.add (i.toNat * 6)).off+1,none⟩=some (.string (rd_T48 xs i).f1)∧w.cell? ⟨(ad.add (i.toNat * 6)).block,(ad.add (i.toNat * 6)).off+2,none⟩=some (.int .i64 (rd_T48 xs i).f2.f0)∧w.cell? ⟨(ad.add (i.toNat * 6)).block,(ad.add (i.toNat * 6)).off+3,none⟩=some (.int .i64 (rd_T48 xs i).f2.f1)∧w.cell? ⟨(ad.add (i.toNat * 6)).block,(ad.add (i.toNat * 6)).off+4,none⟩=some (.int .i64 (rd_T48 xs i).f2.f2)∧w.cell? ⟨(ad.add (i.toNat * 6)).block,(ad.add (i.toNat * 6)).off+5,none⟩=some (.string (rd_T48 xs i).f2.f3):=by
 obtain ⟨ad,c,e,_,hK,hc0⟩:=Kd.C_get h z48 i h0 h1
 have hc:∀ j u,c[j]?=some u→w.cell? (ad.add (i.toNat * 6+j))=some u:=hc0
 obtain rfl:=k48_open hK
 exact ⟨ad,e,hc 0 _ rfl,by rw [← add_field _ _ 1 (by omega)];exact hc 1 _ rfl,by rw [← add_field _ _ 2 (by omega)];exact hc 2 _ rfl,by rw [← add_field _ _ 3 (by omega)];exact hc 3 _ rfl,by rw [← add_field _ _ 4 (by omega)];exact hc 4 _ rfl,by rw [← add_field _ _ 5 (by omega)];exact hc 5 _ rfl⟩
end Go.Proofs.YtjiidlkkkednoaaGreatDoor.Q
end
section
namespace Go.Proofs.YtjiidlkkkednoaaGreatDoor.Q
open Go.RowKit Go.Proofs.YtjiidlkkkednoaaGreatDoorW.PrintWords
def Blk (w:World) (g:Nat) (t:TypeId) (cs:Array Value):Prop:=w.heap[g]?=some (.cells cs t (0,0))
structure Fr (S:Nat→Prop) (w w':World):Prop where
 os:w'.os=w.os
 tape:w'.tape=w.tape
 output:w'.output=w.output
 size:w.heap.size≤w'.heap.size
 block:∀ k,k<w.heap.size→¬ S k→w'.heap[k]?=w.heap[k]?
section
variable {w w' w2:World} {g g':Nat} {t:TypeId} {cs:Array Value} {S S' S2:Nat→Prop}
theorem Blk.lt (h:Blk w g t cs):g<w.heap.size:=by
 rcases Nat.lt_or_ge g w.heap.size with hl|hl
 ·exact hl
 ·unfold Blk at h
  rw [Array.getElem?_eq_none hl] at h
  cases h
theorem Blk.cell (h:Blk w g t cs) (i:Nat):w.cell? ⟨g,i,none⟩=cs[i]?:=by
 unfold Blk at h
 simp [World.cell?,h]
theorem Blk.unfrozen (h:Blk w g t cs) (i:Nat):w.frozen? ⟨g,i,none⟩=false:=by
 unfold Blk at h
 simp [World.frozen?,h]
theorem Blk.drewN (h:Blk w g t cs) (n:Nat):Blk (w.drewN n) g t cs:=h
theorem Blk.drew (h:Blk w g t cs):Blk w.drew g t cs:=h
theorem Blk.alloc (h:Blk w g t cs) (o:Obj):Blk (w.alloc o) g t cs:=(Below.heap_alloc w o g h.lt).trans h
theorem Blk.new (w:World) (t:TypeId) (cs:Array Value):Blk (w.alloc (.cells cs t)) w.heap.size t cs:=heap_alloc_new w _
theorem Blk.put (h:Blk w g t cs) (i:Nat) (u:Value):Blk (w.setCell ⟨g,i,none⟩ u) g t (cs.setIfInBounds i u):=by
 unfold Blk at h ⊢
 simp [World.setCell,Array.getElem?_modify,h]
theorem Blk.far (h:Blk w g t cs) {p:Addr} (hp:g≠p.block) (u:Value):Blk (w.setCell p u) g t cs:=(Below.heap_setCell w p u g hp).trans h
theorem Blk.fr (h:Blk w g t cs) (hf:Fr S w w') (hS:¬ S g):Blk w' g t cs:=(hf.block g h.lt hS).trans h
theorem Blk.below (h:Blk w g t cs) (hb:Below w.heap.size w w'):Blk w' g t cs:=(hb.block g h.lt).trans h
theorem Fr.refl (S:Nat→Prop) (w:World):Fr S w w:=⟨rfl,rfl,rfl,Nat.le_refl _,fun _ _ _ => rfl⟩
theorem Fr.mono (h:Fr S w w') (hs:∀ k,S k→S' k):Fr S' w w':=⟨h.os,h.tape,h.output,h.size,fun k hk hn => h.block k hk (fun hS => hn (hs k hS))⟩
theorem Fr.trans (h:Fr S w w') (k:Fr S2 w' w2) (hs:∀ k,S2 k→S k∨w.heap.size≤k):Fr S w w2 :=
 ⟨k.os.trans h.os,k.tape.trans h.tape,k.output.trans h.output,Nat.le_trans h.size k.size,fun i hi hn =>
  (k.block i (Nat.lt_of_lt_of_le hi h.size) (fun h2 => (hs i h2).elim hn (fun h3 => by omega))).trans (h.block i hi hn)⟩
theorem Fr.same (h:Fr S w w') (k:Fr S w' w2):Fr S w w2:=h.trans k (fun _ hk => .inl hk)
theorem Fr.of_below (hb:Below w.heap.size w w'):Fr S w w':=⟨hb.os,hb.tape,hb.output,hb.size,fun k hk _ => hb.block k hk⟩
theorem Fr.below (h:Fr S w w') {B:Nat} (hB:B≤w.heap.size) (hs:∀ k,S k→B≤k):Below B w w' :=
 ⟨h.os,h.tape,h.output,h.size,fun k hk => h.block k (Nat.lt_of_lt_of_le hk hB) (fun hS => by have:=hs k hS;omega)⟩
theorem Fr.drewN (h:Fr S w w') (n:Nat):Fr S w (w'.drewN n):=⟨h.os,h.tape,h.output,h.size,h.block⟩
theorem Fr.drew (h:Fr S w w'):Fr S w w'.drew:=⟨h.os,h.tape,h.output,h.size,h.block⟩
theorem Fr.drawn (h:Fr S w w') (hd:Drawn0 w' w2):Fr S w w2:=by
 obtain ⟨n,rfl⟩:=hd
 exact h.drewN n
theorem Fr.alloc (h:Fr S w w') (o:Obj):Fr S w (w'.alloc o) :=
 h.trans (S2:=fun _ => False) ⟨rfl,rfl,rfl,by simp,fun k hk _ => Below.heap_alloc _ _ _ hk⟩ (fun _ hk => hk.elim)
theorem Fr.put (h:Fr S w w') {p:Addr} (hp:S p.block∨w.heap.size≤p.block) (u:Value):Fr S w (w'.setCell p u) :=
 h.trans (S2:=fun k => k=p.block) ⟨rfl,rfl,rfl,by simp [World.setCell],fun k _ hn => Below.heap_setCell _ _ _ _ hn⟩ (fun k hk => by rw [hk];exact hp)
theorem Fr.grown {row:Option Nat} (h:Fr S w w') (hg:w'.grownBy w2 row) (hr:∀ k,row=some k→S k∨w.heap.size≤k):Fr S w w2 :=
 h.trans (S2:=fun k => row=some k) ⟨hg.os,hg.tape,hg.output,hg.size,fun k hk hn => hg.block k hk (fun e => hn e.symm)⟩ hr
theorem Fr.kept (h:Fr S w w'):Kept w w' S:=⟨h.size,h.block⟩
theorem drawn_trans (h:Drawn0 w w') (k:Drawn0 w' w2):Drawn0 w w2:=by
 obtain ⟨n,rfl⟩:=k
 exact h.step n
end
end Go.Proofs.YtjiidlkkkednoaaGreatDoor.Q
end
