import Derived.RangeFuncNested
import Derived.RangeFuncBound
import Derived.RangeFuncBox
import Derived.RangeFuncCalls
import Derived.RangeFuncLeaves
import Derived.Shelf.Abstract
import Derived.Shelf.RegionOpen
import Derived.WalkKit
import Derived.OwnWalkIn
import Derived.TacticsInMore
import Derived.LoopNIn
import Derived.LoopIn
import Derived.Test.YtjdjljgbfpkbdaaGreatDoorZR1g
import Derived.Test.YtjdjljgbfpkbdaaGreatDoorZSeq
import Derived.Test.YtjdjljgbfpkbdaaGreatDoorZPieces
set_option linter.unusedVariables false
set_option linter.unusedSimpArgs false
namespace Go.Proofs.YtjdjljgbfpkbdaaGreatDoor.Q
open Go.RowKit Go.Shelf Go.Proofs.YtjdjljgbfpkbdaaGreatDoorW.PrintWords
attribute [local go_sem] Oper.semAt_some
def ofL (l:List UInt8):ByteArray:=⟨l.toArray⟩
theorem ofL_data (l:List UInt8):(ofL l).data.toList=l:=by simp [ofL]
theorem ofL_of (s:ByteArray):ofL s.data.toList=s:=by
 obtain ⟨⟨l⟩⟩:=s
 rfl
theorem extract_front (s:ByteArray) (i:Nat):s.extract 0 i=ofL (s.data.toList.take i):=by
 obtain ⟨⟨l⟩⟩:=s
 apply ByteArray.ext
 simp [ofL,ByteArray.data_extract]
theorem extract_back (s:ByteArray) (i:Nat):s.extract i s.size=ofL (s.data.toList.drop i):=by
 obtain ⟨⟨l⟩⟩:=s
 apply ByteArray.ext
 have e:(ByteArray.mk ⟨l⟩).size=l.length:=rfl
 rw [e]
 simp [ofL,ByteArray.data_extract]
 exact List.take_of_length_le (by simp)
def lists (l:List ByteArray):List (List UInt8):=l.map fun x => x.data.toList
theorem lists_snoc (l:List ByteArray) (x:ByteArray):lists (l++[x])=lists l++[x.data.toList]:=by simp [lists]
def Comes (s:List UInt8) (pre:List ByteArray) (x:ByteArray):Prop:=∃ qs,lists pre++x.data.toList :: qs=pieces s
def restLen (b:Nat) (w:World):Nat:=match w.cell? ⟨b,0,none⟩ with|some (.string r) => r.size|_ => 0
theorem restLen_eq {b:Nat} {w:World} {r:ByteArray} (h:Blk w b 9 #[.string r]):restLen b w=r.size:=by
 have h0:=h.cell 0
 simp only [restLen,h0]
 rfl
set_option maxRecDepth 100000 in
set_option maxHeartbeats 2000000 in
theorem split_in (F:Fence) (n:Nat) (hf:F.fn 84) (hi:F.fn 76) (hro:F.round=none) (hn:1≤n)
  (hidx:∀ (r:ByteArray) (w:World),CallsIn F (n - 1) Tryz.prog 76 #[.string r,.string ⟨#[10]⟩] w fun e w' => e=.returned (.int .i64 (Lib.indexByte r.data.toList 10))∧w'=w)
  (l bs bp bk:Nat) (s:ByteArray) (hs:s.size≤140737488351232) (J Jx:List ByteArray→World→Prop) (hJ:AbidesAt bs J) (hJx:AbidesAt bs Jx)
  (hY:∀ pre x W,J pre W→Comes s.data.toList pre x→YieldAt F (n - 1) Tryz.prog l #[.string x] W fun e W' =>
   (e=.returned (.bool true)∧J (pre++[x]) W'∧(W'.heap[bs]?=W.heap[bs]?∧W'.heap[bp]?=W.heap[bp]?∧W'.heap[bk]?=W.heap[bk]?))∨(e=.returned (.bool false)∧Jx (pre++[x]) W'))
  (hne:bs≠bp∧bs≠bk)
  (W:World) (h1:Blk W bs 9 #[.string s]) (h2:Blk W bp 9 #[.string ⟨#[10]⟩]) (h3:Blk W bk 3 #[.int .i64 1]) (h0:J [] W) :
  CallsIn F n Tryz.prog 84 #[.func (.yield l) #[] #[],.pointer (some ⟨bp,0,none⟩),.pointer (some ⟨bs,0,none⟩),.pointer (some ⟨bk,0,none⟩)] W fun e W' => (∃ v,e=.returned v) ∧
   ((∃ ys,lists ys=pieces s.data.toList∧J ys W')∨(∃ pre,True∧Jx pre W')):=by
 have c1:=h1.cell 0
 have c2:=h2.cell 0
 have c3:=h3.cell 0
 refine callsIn_of_wp Tryz.func84 rfl hf ?_ hro
 simp only [Tryz.ntmps84,List.size_toArray,List.length_cons,List.length_nil,Nat.reduceAdd,Nat.reduceSub,Array.replicate_succ,Array.replicate_zero,List.push_toArray,List.append_toArray,List.nil_append,List.cons_append]
 gi_wp2
 gi_loopw [7] (fun _ wr => ∃ (pre:List ByteArray) (r:ByteArray),lists pre++pieces r.data.toList=pieces s.data.toList∧r.size≤s.size∧Blk wr bs 9 #[.string r]∧Blk wr bp 9 #[.string ⟨#[10]⟩]∧Blk wr bk 3 #[.int .i64 1]∧J pre wr) (fun _ wr => restLen bs wr)
 case atStart => exact ⟨[],s,rfl,Nat.le_refl _,h1,h2,h3,h0⟩
 case round =>
  obtain ⟨pre,r,hp,hz,b1,b2,b3,hj⟩:=hrel
  have c1:=b1.cell 0
  have c2:=b2.cell 0
  have c3:=b3.cell 0
  rcases pieces_index r.data.toList with ⟨hi1,hp1⟩|⟨i,hi1,hi2,hp1⟩
  ·obtain ⟨fn,tmps,assign,body,hy,hR⟩:=hY pre r wr hj ⟨[],by rw [← hp,hp1]⟩
   rw [hp1] at hp
   gi_wp2_with (gi_at_call 76;refine (hidx _ _).mono ?_;rintro e w' ⟨rfl,rfl⟩;rw [hi1])
   refine hR.mono ?_
   rintro e W' (⟨rfl,hJ',hk⟩|⟨rfl,hJx'⟩)
   ·gi_wp2
    go_end0
    exact ⟨⟨_,rfl⟩,.inl ⟨pre++[r],by rw [lists_snoc];exact hp,hJ'⟩⟩
   ·gi_wp2
    go_end0
    exact ⟨⟨_,rfl⟩,.inr ⟨pre++[r],trivial,hJx'⟩⟩
  ·have hrl:r.data.toList.length=r.size:=by simp
   have hpx:lists pre++(r.extract 0 (i+1)).data.toList :: pieces (r.data.toList.drop (i+1))=pieces s.data.toList:=by
    rw [extract_front,ofL_data,← hp1]
    exact hp
   obtain ⟨fn,tmps,assign,body,hy,hR⟩:=hY pre (r.extract 0 (i+1)) wr hj ⟨_,hpx⟩
   have hw:IntKind.i64.wrap ((i:Int)+1)=((i+1:Nat):Int):=by rw [IntWalk.i64_in _ ⟨by omega,by omega⟩];rfl
   have hb:(0:Int)≤((i+1:Nat):Int)∧((i+1:Nat):Int)≤(r.size:Int):=⟨by omega,by omega⟩
   gi_wp2_with (gi_at_call 76;refine (hidx _ _).mono ?_;rintro e w' ⟨rfl,rfl⟩;rw [hi1])
   refine hR.mono ?_
   rintro e W' (⟨rfl,hJ',hk1,hk2,hk3⟩|⟨rfl,hJx'⟩)
   ·have b1':Blk W' bs 9 #[.string r]:=hk1.trans b1
    have b2':Blk W' bp 9 #[.string ⟨#[10]⟩]:=hk2.trans b2
    have b3':Blk W' bk 3 #[.int .i64 1]:=hk3.trans b3
    have d1:=b1'.cell 0
    have d2:=b2'.cell 0
    have g1:=b1'.unfrozen 0
    gi_wp2
    go_roundw
    case rel =>
     refine ⟨pre++[r.extract 0 (i+1)],r.extract (i+1) r.size,?_,?_,b1'.put 0 _,b2'.far (fun e => hne.1 e.symm) _,b3'.far (fun e => hne.2 e.symm) _,?_⟩
     ·rw [lists_snoc,List.append_assoc,extract_back,ofL_data]
      exact hpx
     ·rw [ByteArray.size_extract];omega
     ·exact hJ _ _ _ (some bs) hJ' (grownBy_setCell' _ _ _) (fun r e => by cases e;rfl)
    case measure =>
     rw [restLen_eq b1,restLen_eq (b1'.put 0 _)]
     rw [ByteArray.size_extract]
     omega
   ·gi_wp2
    refine bodyPost_ret (results_none rfl _ _ _) rfl ?_
    exact ⟨⟨_,rfl⟩,.inr ⟨pre++[r.extract 0 (i+1)],trivial,hJx'⟩⟩
theorem split_seq (F:Fence) (n:Nat) (hf:F.fn 84) (hi:F.fn 76) (hro:F.round=none) (hn:1≤n)
  (hidx:∀ (r:ByteArray) (w:World),CallsIn F (n - 1) Tryz.prog 76 #[.string r,.string ⟨#[10]⟩] w fun e w' => e=.returned (.int .i64 (Lib.indexByte r.data.toList 10))∧w'=w)
  (bs bp bk:Nat) (s:ByteArray) (hs:s.size≤140737488351232) (hne:bs≠bp∧bs≠bk) (w:World)
  (h1:Blk w bs 9 #[.string s]) (h2:Blk w bp 9 #[.string ⟨#[10]⟩]) (h3:Blk w bk 3 #[.int .i64 1]) :
  SeqOn F n Tryz.prog 84 #[.pointer (some ⟨bp,0,none⟩),.pointer (some ⟨bs,0,none⟩),.pointer (some ⟨bk,0,none⟩)] (fun x:ByteArray => #[.string x]) bs
   (fun A B => B.heap[bs]?=A.heap[bs]?∧B.heap[bp]?=A.heap[bp]?∧B.heap[bk]?=A.heap[bk]?) (fun ys => lists ys=pieces s.data.toList) (fun _ => True) (Comes s.data.toList) w :=
 fun l J Jx W hW hJ hJx hY h0 => split_in F n hf hi hro hn hidx l bs bp bk s hs J Jx hJ hJx hY hne W (h1.below hW) (h2.below hW) (h3.below hW) h0
end Go.Proofs.YtjdjljgbfpkbdaaGreatDoor.Q
