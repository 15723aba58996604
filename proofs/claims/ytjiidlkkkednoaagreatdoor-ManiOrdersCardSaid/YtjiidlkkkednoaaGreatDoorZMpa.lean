import Derived.Test.YtjiidlkkkednoaaGreatDoorZMpe
set_option linter.unusedVariables false
set_option linter.unusedSimpArgs false
namespace Go.Proofs.YtjiidlkkkednoaaGreatDoor.Q
open Go.RowKit Go.Shelf Go.Proofs.YtjiidlkkkednoaaGreatDoorW.PrintWords
attribute [local go_sem] Oper.semAt_some
structure FitM (st:MS):Prop where
 n1:st.q.length≤20
 n2:st.x.length≤20
 n3:st.s.length≤20
 a1:∀ r ∈ st.q,r.f1.f3.size≤900000
 a2:∀ r ∈ st.x,r.f1.f3.size≤900000
 a3:∀ r ∈ st.s,r.f2.f3.size≤900000
 o1:∀ i,i<(normA cfA st.q).length→OkR (rdIA (normA cfA st.q) i)
 o2:∀ i,i<(normA cfA st.x).length→OkR (rdIA (normA cfA st.x) i)
 o3:∀ i,i<(normB cfB st.s).length→OkR ⟨(rdIB (normB cfB st.s) i).f1,(rdIB (normB cfB st.s) i).f2⟩∧(rdIB (normB cfB st.s) i).f0.size≤900000
 mo:st.mo.length≤900000
 m1:(normA cfA st.q).length≤100000
 m2:(normA cfA st.x).length≤100000
 m3:(normB cfB st.s).length≤100000
inductive MOut
 | no (wh:Nat) (e:Int)
 | yes (mo:ByteArray) (q x:List S45) (s:List S48)
def outM (s:List UInt8):MOut :=
 if 8000<s.length then .no 0 2 else
 match runM 0 startM (pieces s) with
 | .bad wh => .no wh 1
 | .ok st => if rightM okqR cfA (bs st.mo) (normA cfA st.q) (normA cfA st.x) (normB cfB st.s)=true then .yes (bs st.mo) (normA cfA st.q) (normA cfA st.x) (normB cfB st.s) else .no 0 1
def placeM (s:List UInt8) (wh:Nat):Array Value:=#[.int .i64 (place (s.take wh)).1,.int .i64 (place (s.take wh)).2]
def ParsePost (w:World) (s:ByteArray) (e:Ending) (w':World):Prop :=
 Below w.heap.size w w'∧match outM s.data.toList with
 | .no wh er => e=.returned (.tuple #[.agg zeroM,.agg (placeM s.data.toList wh),.int .i64 er])
 | .yes mo q x ss => ∃ v1 v2 v3,e=.returned (.tuple #[.agg #[.string mo,v1,v2,v3],.agg #[.int .i64 0,.int .i64 0],.int .i64 0])∧HasA w' w.heap.size v1 q∧HasA w' w.heap.size v2 x∧HasB w' w.heap.size v3 ss
def LoopM (w:World) (B:Nat) (s:ByteArray) (pre:List ByteArray) (W:World):Prop :=
 ∃ wh st,preM 0 startM (lists pre)=some (wh,st)∧PE B s wh st.begun st W∧Below B w W
def StopM (w:World) (B:Nat) (s:ByteArray) (c:Code) (_:List ByteArray) (W:World):Prop :=
 c=.ret∧∃ wh,runM 0 startM (pieces s.data.toList)=.bad wh∧Blk W (B+1) 27 zeroM∧Blk W (B+2) 31 (placeM s.data.toList wh)∧Blk W (B+3) 32 #[.int .i64 1]∧Below B w W∧B+10≤W.heap.size
def RoundM (w:World) (B:Nat) (s:ByteArray) (pre:List ByteArray) (W:World):Exit→Act→World→Prop
 | .normal,_,W' => KeepsOthers W W'∧SeqM B W W'∧LoopM w B s pre W'
 | .ret,_,W' => KeepsOthers W W'∧StopM w B s .ret pre W'
 | _,_,_ => False
theorem seq_calls (s:ByteArray) (w:World) :
  Calls Tryz.prog 32 #[.string s,.string ⟨#[10]⟩] w fun e w' => e=.returned (.func (.func 99) #[] #[.pointer (some ⟨w.heap.size+1,0,none⟩),.pointer (some ⟨w.heap.size,0,none⟩),.pointer (some ⟨w.heap.size+2,0,none⟩)])
   ∧ w'=((w.alloc (.cells #[.string s] 9)).alloc (.cells #[.string ⟨#[10]⟩] 9)).alloc (.cells #[.int .i64 1] 3):=by
 go_enter Tryz.func32,Tryz.ntmps32
 go_wp2
 go_ret
 exact ⟨rfl,rfl⟩
theorem start_env (w:World) (s:ByteArray):PE w.heap.size s 0 false startM ((((((((((w.alloc (.cells #[.string s] 9)).alloc (.cells #[.string ⟨#[]⟩,.slice none 0 0,.slice none 0 0,.slice none 0 0] 27)).alloc (.cells #[.int .i64 0,.int .i64 0] 31)).alloc (.cells #[.int .i64 0] 32)).alloc (.cells #[.string ⟨#[]⟩,.slice none 0 0,.slice none 0 0,.slice none 0 0] 27)).alloc (.cells #[.int .i64 0] 3)).alloc (.cells #[.bool false] 4)).alloc (.cells #[.string s] 9)).alloc (.cells #[.string ⟨#[10]⟩] 9)).alloc (.cells #[.int .i64 1] 3))∧Blk ((((((((((w.alloc (.cells #[.string s] 9)).alloc (.cells #[.string ⟨#[]⟩,.slice none 0 0,.slice none 0 0,.slice none 0 0] 27)).alloc (.cells #[.int .i64 0,.int .i64 0] 31)).alloc (.cells #[.int .i64 0] 32)).alloc (.cells #[.string ⟨#[]⟩,.slice none 0 0,.slice none 0 0,.slice none 0 0] 27)).alloc (.cells #[.int .i64 0] 3)).alloc (.cells #[.bool false] 4)).alloc (.cells #[.string s] 9)).alloc (.cells #[.string ⟨#[10]⟩] 9)).alloc (.cells #[.int .i64 1] 3)) (w.heap.size+7) 9 #[.string s]∧Below w.heap.size w ((((((((((w.alloc (.cells #[.string s] 9)).alloc (.cells #[.string ⟨#[]⟩,.slice none 0 0,.slice none 0 0,.slice none 0 0] 27)).alloc (.cells #[.int .i64 0,.int .i64 0] 31)).alloc (.cells #[.int .i64 0] 32)).alloc (.cells #[.string ⟨#[]⟩,.slice none 0 0,.slice none 0 0,.slice none 0 0] 27)).alloc (.cells #[.int .i64 0] 3)).alloc (.cells #[.bool false] 4)).alloc (.cells #[.string s] 9)).alloc (.cells #[.string ⟨#[10]⟩] 9)).alloc (.cells #[.int .i64 1] 3))∧((((((((((w.alloc (.cells #[.string s] 9)).alloc (.cells #[.string ⟨#[]⟩,.slice none 0 0,.slice none 0 0,.slice none 0 0] 27)).alloc (.cells #[.int .i64 0,.int .i64 0] 31)).alloc (.cells #[.int .i64 0] 32)).alloc (.cells #[.string ⟨#[]⟩,.slice none 0 0,.slice none 0 0,.slice none 0 0] 27)).alloc (.cells #[.int .i64 0] 3)).alloc (.cells #[.bool false] 4)).alloc (.cells #[.string s] 9)).alloc (.cells #[.string ⟨#[10]⟩] 9)).alloc (.cells #[.int .i64 1] 3)).heap.size=w.heap.size+10:=by
 have n0:=Blk.new w 9 #[.string s]
 have n1:=Blk.new (w.alloc (.cells #[.string s] 9)) 27 #[.string ⟨#[]⟩,.slice none 0 0,.slice none 0 0,.slice none 0 0]
 have n2:=Blk.new ((w.alloc (.cells #[.string s] 9)).alloc (.cells #[.string ⟨#[]⟩,.slice none 0 0,.slice none 0 0,.slice none 0 0] 27)) 31 #[.int .i64 0,.int .i64 0]
 have n3:=Blk.new (((w.alloc (.cells #[.string s] 9)).alloc (.cells #[.string ⟨#[]⟩,.slice none 0 0,.slice none 0 0,.slice none 0 0] 27)).alloc (.cells #[.int .i64 0,.int .i64 0] 31)) 32 #[.int .i64 0]
 have n4:=Blk.new ((((w.alloc (.cells #[.string s] 9)).alloc (.cells #[.string ⟨#[]⟩,.slice none 0 0,.slice none 0 0,.slice none 0 0] 27)).alloc (.cells #[.int .i64 0,.int .i64 0] 31)).alloc (.cells #[.int .i64 0] 32)) 27 #[.string ⟨#[]⟩,.slice none 0 0,.slice none 0 0,.slice none 0 0]
 have n5:=Blk.new (((((w.alloc (.cells #[.string s] 9)).alloc (.cells #[.string ⟨#[]⟩,.slice none 0 0,.slice none 0 0,.slice none 0 0] 27)).alloc (.cells #[.int .i64 0,.int .i64 0] 31)).alloc (.cells #[.int .i64 0] 32)).alloc (.cells #[.string ⟨#[]⟩,.slice none 0 0,.slice none 0 0,.slice none 0 0] 27)) 3 #[.int .i64 0]
 have n6:=Blk.new ((((((w.alloc (.cells #[.string s] 9)).alloc (.cells #[.string ⟨#[]⟩,.slice none 0 0,.slice none 0 0,.slice none 0 0] 27)).alloc (.cells #[.int .i64 0,.int .i64 0] 31)).alloc (.cells #[.int .i64 0] 32)).alloc (.cells #[.string ⟨#[]⟩,.slice none 0 0,.slice none 0 0,.slice none 0 0] 27)).alloc (.cells #[.int .i64 0] 3)) 4 #[.bool false]
 have n7:=Blk.new (((((((w.alloc (.cells #[.string s] 9)).alloc (.cells #[.string ⟨#[]⟩,.slice none 0 0,.slice none 0 0,.slice none 0 0] 27)).alloc (.cells #[.int .i64 0,.int .i64 0] 31)).alloc (.cells #[.int .i64 0] 32)).alloc (.cells #[.string ⟨#[]⟩,.slice none 0 0,.slice none 0 0,.slice none 0 0] 27)).alloc (.cells #[.int .i64 0] 3)).alloc (.cells #[.bool false] 4)) 9 #[.string s]
 have n8:=Blk.new ((((((((w.alloc (.cells #[.string s] 9)).alloc (.cells #[.string ⟨#[]⟩,.slice none 0 0,.slice none 0 0,.slice none 0 0] 27)).alloc (.cells #[.int .i64 0,.int .i64 0] 31)).alloc (.cells #[.int .i64 0] 32)).alloc (.cells #[.string ⟨#[]⟩,.slice none 0 0,.slice none 0 0,.slice none 0 0] 27)).alloc (.cells #[.int .i64 0] 3)).alloc (.cells #[.bool false] 4)).alloc (.cells #[.string s] 9)) 9 #[.string ⟨#[10]⟩]
 have n9:=Blk.new (((((((((w.alloc (.cells #[.string s] 9)).alloc (.cells #[.string ⟨#[]⟩,.slice none 0 0,.slice none 0 0,.slice none 0 0] 27)).alloc (.cells #[.int .i64 0,.int .i64 0] 31)).alloc (.cells #[.int .i64 0] 32)).alloc (.cells #[.string ⟨#[]⟩,.slice none 0 0,.slice none 0 0,.slice none 0 0] 27)).alloc (.cells #[.int .i64 0] 3)).alloc (.cells #[.bool false] 4)).alloc (.cells #[.string s] 9)).alloc (.cells #[.string ⟨#[10]⟩] 9)) 3 #[.int .i64 1]
 simp only [World.size_alloc,Nat.add_assoc,Nat.reduceAdd] at n1 n2 n3 n4 n5 n6 n7 n8 n9
 refine ⟨⟨(((((((((n0.alloc _).alloc _).alloc _).alloc _).alloc _).alloc _).alloc _).alloc _).alloc _),((((((((n1.alloc _).alloc _).alloc _).alloc _).alloc _).alloc _).alloc _).alloc _),(((((((n2.alloc _).alloc _).alloc _).alloc _).alloc _).alloc _).alloc _),((((((n3.alloc _).alloc _).alloc _).alloc _).alloc _).alloc _),⟨_,_,_,(((((n4.alloc _).alloc _).alloc _).alloc _).alloc _),own_nil _ _ _ 5,own_nil _ _ _ 5,own_nil _ _ _ 6,fun k h => by cases h⟩,((((n5.alloc _).alloc _).alloc _).alloc _),(((n6.alloc _).alloc _).alloc _),(n8.alloc _),n9,by simp⟩,((n7.alloc _).alloc _),(below_alloc (below_alloc (below_alloc (below_alloc (below_alloc (below_alloc (below_alloc (below_alloc (below_alloc (below_alloc (Below.refl _ w) _) _) _) _) _) _) _) _) _) _),by simp⟩
theorem addM_begun {st st2:MS} {l:List (List UInt8)} (h:addM st l=some st2):st2.begun=st.begun:=by
 unfold addM at h
 split at h
 ·cases h
 ·split at h
  ·cases h
  ·split at h
   ·split at h
    ·cases h;rfl
    ·split at h
     ·cases h;rfl
     ·split at h
      ·cases h;rfl
      ·cases h
   ·cases h
theorem stop_end {w W3:World} {B wh:Nat} {s:ByteArray} (pre:List ByteArray) (hrun:runM 0 startM (pieces s.data.toList)=.bad wh) (r:Blk W3 (B+1) 27 zeroM) (p:Blk W3 (B+2) 31 #[.int .i64 0,.int .i64 0]) (e:Blk W3 (B+3) 32 #[.int .i64 0])
  (hb:Below B w W3) (hz:B+10≤W3.heap.size):KeepsOthers W3 ((((((((W3.setCell ⟨B+1,0,none⟩ (.string ⟨#[]⟩)).setCell ⟨B+1,1,none⟩ (.slice none 0 0)).setCell ⟨B+1,2,none⟩ (.slice none 0 0)).setCell ⟨B+1,3,none⟩ (.slice none 0 0)).setCell ⟨B+2,0,none⟩ (.int .i64 (place (s.data.toList.take wh)).1)).setCell ⟨B+2,1,none⟩ (.int .i64 (place (s.data.toList.take wh)).2)).setCell ⟨B+3,0,none⟩ (.int .i64 1)))∧StopM w B s .ret pre ((((((((W3.setCell ⟨B+1,0,none⟩ (.string ⟨#[]⟩)).setCell ⟨B+1,1,none⟩ (.slice none 0 0)).setCell ⟨B+1,2,none⟩ (.slice none 0 0)).setCell ⟨B+1,3,none⟩ (.slice none 0 0)).setCell ⟨B+2,0,none⟩ (.int .i64 (place (s.data.toList.take wh)).1)).setCell ⟨B+2,1,none⟩ (.int .i64 (place (s.data.toList.take wh)).2)).setCell ⟨B+3,0,none⟩ (.int .i64 1))):=by
 refine ⟨(((((((KeepsOthers.setCell _ _ _).trans (KeepsOthers.setCell _ _ _)).trans (KeepsOthers.setCell _ _ _)).trans (KeepsOthers.setCell _ _ _)).trans (KeepsOthers.setCell _ _ _)).trans (KeepsOthers.setCell _ _ _)).trans (KeepsOthers.setCell _ _ _)),rfl,wh,hrun,?_,?_,?_,?_,?_⟩
 ·exact ((((((r.put 0 _).put 1 _).put 2 _).put 3 _).far (by simp) _).far (by simp) _).far (by simp) _
 ·exact ((((((p.far (by simp) _).far (by simp) _).far (by simp) _).far (by simp) _).put 0 _).put 1 _).far (by simp) _
 ·exact ((((((e.far (by simp) _).far (by simp) _).far (by simp) _).far (by simp) _).far (by simp) _).far (by simp) _).put 0 _
 ·exact (((((((hb.setCell (p:=⟨B+1,_,none⟩) (by simp only;omega) _).setCell (p:=⟨B+1,_,none⟩) (by simp only;omega) _).setCell (p:=⟨B+1,_,none⟩) (by simp only;omega) _).setCell (p:=⟨B+1,_,none⟩) (by simp only;omega) _).setCell (p:=⟨B+2,_,none⟩) (by simp only;omega) _).setCell (p:=⟨B+2,_,none⟩) (by simp only;omega) _).setCell (p:=⟨B+3,_,none⟩) (by simp only;omega) _)
 ·simpa [World.setCell] using hz
theorem seven_end {w W:World} {B D:Nat} (hb:Below B w W) (hz:B≤W.heap.size) (a b c d e f g:Value) (hD:B≤D):Below B w ((((((((W.setCell ⟨B+1,0,none⟩ a).setCell ⟨B+1,1,none⟩ b).setCell ⟨B+1,2,none⟩ c).setCell ⟨B+1,3,none⟩ d).setCell ⟨B+2,0,none⟩ e).setCell ⟨B+2,1,none⟩ f).setCell ⟨B+3,0,none⟩ g).putObj D (.deferred none)):=by
 have h:Below B w (((((((W.setCell ⟨B+1,0,none⟩ a).setCell ⟨B+1,1,none⟩ b).setCell ⟨B+1,2,none⟩ c).setCell ⟨B+1,3,none⟩ d).setCell ⟨B+2,0,none⟩ e).setCell ⟨B+2,1,none⟩ f).setCell ⟨B+3,0,none⟩ g):=(((((((hb.setCell (p:=⟨B+1,_,none⟩) (by simp only;omega) _).setCell (p:=⟨B+1,_,none⟩) (by simp only;omega) _).setCell (p:=⟨B+1,_,none⟩) (by simp only;omega) _).setCell (p:=⟨B+1,_,none⟩) (by simp only;omega) _).setCell (p:=⟨B+2,_,none⟩) (by simp only;omega) _).setCell (p:=⟨B+2,_,none⟩) (by simp only;omega) _).setCell (p:=⟨B+3,_,none⟩) (by simp only;omega) _)
 exact h.grown (grownBy_putObj' _ D (.deferred none)) (Nat.le_trans (by simp [World.setCell];exact hz) (Nat.le_refl _)) (fun q hq => by cases hq;exact hD)
theorem putObj_hasA {W:World} {base:Nat} {v:Value} {l:List S45} (h:HasA W base v l) {D:Nat} (hD:D<base) (o:Obj):HasA (W.putObj D o) base v l:=by
 rcases h with h|⟨g,c,z,e,h1,h2,h3⟩
 ·exact .inl h
 ·exact .inr ⟨g,c,z,e,h1,h2,⟨(World.putObj_heap_other (by omega)).trans h3.blk⟩⟩
theorem seven_hasA {W:World} {B D base:Nat} {v:Value} {l:List S45} (h:HasA W base v l) (hB:B+3<base) (hD:D<base) (hb:B≤base) (a b c d e f g:Value):HasA ((((((((W.setCell ⟨B+1,0,none⟩ a).setCell ⟨B+1,1,none⟩ b).setCell ⟨B+1,2,none⟩ c).setCell ⟨B+1,3,none⟩ d).setCell ⟨B+2,0,none⟩ e).setCell ⟨B+2,1,none⟩ f).setCell ⟨B+3,0,none⟩ g).putObj D (.deferred none)) B v l :=
 (putObj_hasA (((((((h.put (q:=B+1) (i:=_) (by omega) _).put (q:=B+1) (i:=_) (by omega) _).put (q:=B+1) (i:=_) (by omega) _).put (q:=B+1) (i:=_) (by omega) _).put (q:=B+2) (i:=_) (by omega) _).put (q:=B+2) (i:=_) (by omega) _).put (q:=B+3) (i:=_) (by omega) _) hD _).lower hb
theorem putObj_hasB {W:World} {base:Nat} {v:Value} {l:List S48} (h:HasB W base v l) {D:Nat} (hD:D<base) (o:Obj):HasB (W.putObj D o) base v l:=by
 rcases h with h|⟨g,c,z,e,h1,h2,h3⟩
 ·exact .inl h
 ·exact .inr ⟨g,c,z,e,h1,h2,⟨(World.putObj_heap_other (by omega)).trans h3.blk⟩⟩
theorem seven_hasB {W:World} {B D base:Nat} {v:Value} {l:List S48} (h:HasB W base v l) (hB:B+3<base) (hD:D<base) (hb:B≤base) (a b c d e f g:Value):HasB ((((((((W.setCell ⟨B+1,0,none⟩ a).setCell ⟨B+1,1,none⟩ b).setCell ⟨B+1,2,none⟩ c).setCell ⟨B+1,3,none⟩ d).setCell ⟨B+2,0,none⟩ e).setCell ⟨B+2,1,none⟩ f).setCell ⟨B+3,0,none⟩ g).putObj D (.deferred none)) B v l :=
 (putObj_hasB (((((((h.put (q:=B+1) (i:=_) (by omega) _).put (q:=B+1) (i:=_) (by omega) _).put (q:=B+1) (i:=_) (by omega) _).put (q:=B+1) (i:=_) (by omega) _).put (q:=B+2) (i:=_) (by omega) _).put (q:=B+2) (i:=_) (by omega) _).put (q:=B+3) (i:=_) (by omega) _) hD _).lower hb
section
variable (w:World) (s:ByteArray)
set_option maxHeartbeats 6000000 in
set_option maxRecDepth 100000 in
theorem mparse_short (hs:s.size≤8000) (hG:GL w) (hF:∀ st,runM 0 startM (pieces s.data.toList)=.ok st→FitM st) :
  Calls Tryz.prog 13 #[.string s] w (ParsePost w s):=by
 have HF:=Lib.hid hF
 have HG:=Lib.hid hG
 clear hG hF
 obtain ⟨B,hB⟩:∃ B,B=w.heap.size:=⟨_,rfl⟩
 have HB:=Lib.hid hB
 clear hB
 refine (callsIn_wide (n:=6)).1 ?_
 refine callsIn_of_wp_marks Tryz.func13 rfl trivial ?_ rfl
 simp only [Tryz.ntmps13,List.size_toArray,List.length_cons,List.length_nil,Nat.reduceAdd,Nat.reduceSub,Array.replicate_succ,Array.replicate_zero,List.push_toArray,List.append_toArray,List.nil_append,List.cons_append]
 gi_wp2
 refine ⟨trivial,callsIn_wide.2 ((seq_calls s _).mono ?_)⟩
 rintro e w1 ⟨rfl,hw1⟩
 have hst:=start_env w s
 rw [← hw1] at hst
 have HST:=Lib.hid hst
 have hBB:=HB.out
 simp only [World.size_alloc,Nat.add_assoc,Nat.reduceAdd]
 rw [← hBB]
 clear hst hw1 hBB
 gi_wp2
 obtain ⟨hE0,hs5,hB0,hz0⟩:=HST.out
 have hBB:=HB.out
 rw [← hBB] at hE0 hs5 hB0 hz0
 clear HST hBB
 refine wpIn_rangeFunc_on rfl (by decide) (gf:=99) (lb:=#[.pointer (some ⟨B+8,0,none⟩),.pointer (some ⟨B+7,0,none⟩),.pointer (some ⟨B+9,0,none⟩)]) rfl trivial (enters_of Tryz.func99 (by kernel_rfl) rfl)
  (split_seq Fence.wide 5 trivial trivial rfl (by decide) (fun r w => callsIn_wide.2 (Tryz.strings_Index_one r 10 w)) (B+7) (B+8) (B+9) s (by omega) ⟨by omega,by omega⟩ w1 hs5 hE0.sep hE0.one)
  (by omega) (fun h k => ⟨k.1.trans h.1,k.2.1.trans h.2.1,k.2.2.trans h.2.2⟩) (fun W l o o' hl _ _ _ => ⟨World.putObj_heap_other (by omega),World.putObj_heap_other (by omega),World.putObj_heap_other (by omega)⟩) (Below.refl _ _) (fun _ => rfl)
  (LoopM w B s) (StopM w B s)
  (fun pre X Y row h hg hrow => by
   obtain ⟨wh,st,h1,h2,h3⟩:=h
   exact ⟨wh,st,h1,h2.move hg (fun q hq => .inr ⟨by have:=(hrow q hq).1;omega,(hrow q hq).2⟩),h3.grown hg (by have:=h3.size;have:=HB.out;omega) (fun q hq => by have:=(hrow q hq).1;omega)⟩)
  (fun c pre X Y row h hg hrow => by
   obtain ⟨h0,wh,h1,h2,h3,h4,h5,h6⟩:=h
   have hb:∀ {k:Nat} {t:TypeId} {cs:Array Value},k<B+10→Blk X k t cs→Blk Y k t cs:=fun h8 hk => (hg.block _ (Blk.lt hk) (fun e => by have:=(hrow _ e.symm).1;omega)).trans hk
   exact ⟨h0,wh,h1,hb (by omega) h2,hb (by omega) h3,hb (by omega) h4,h5.grown hg (by have:=h5.size;have:=HB.out;omega) (fun q hq => by have:=(hrow q hq).1;omega),Nat.le_trans h6 hg.size⟩)
  (fun pre X Y row h hg hrow => by
   obtain ⟨wh,st,h1,h2,h3⟩:=h
   exact ⟨wh,st,h1,h2.move hg (fun q hq => .inl (hrow q hq)),h3.grown hg (by have:=h3.size;have:=HB.out;omega) (fun q hq => by have:=hrow q hq;omega)⟩)
  (fun c pre X Y row h hg hrow => by
   obtain ⟨h0,wh,h1,h2,h3,h4,h5,h6⟩:=h
   have hb:∀ {k:Nat} {t:TypeId} {cs:Array Value},k<B+7→Blk X k t cs→Blk Y k t cs:=fun h8 hk => (hg.block _ (Blk.lt hk) (fun e => by have:=hrow _ e.symm;omega)).trans hk
   exact ⟨h0,wh,h1,hb (by omega) h2,hb (by omega) h3,hb (by omega) h4,h5.grown hg (by have:=h5.size;have:=HB.out;omega) (fun q hq => by have:=hrow q hq;omega),Nat.le_trans h6 hg.size⟩)
  ⟨0,startM,rfl,hE0,hB0⟩
  (fun x => { tmps:=#[.string s,.pointer (some ⟨B,0,none⟩),.pointer (some ⟨B+1,0,none⟩),.pointer (some ⟨B+2,0,none⟩),.pointer (some ⟨B+3,0,none⟩),.pointer (some ⟨B+4,0,none⟩),.pointer (some ⟨B+5,0,none⟩),.pointer (some ⟨B+6,0,none⟩),.string x,undef,undef,.string s,.int .i64 s.size,.bool (decide (8000<(s.size:Int))),undef,undef,undef,.string s,.func (.func 99) #[] #[.pointer (some ⟨B+8,0,none⟩),.pointer (some ⟨B+7,0,none⟩),.pointer (some ⟨B+9,0,none⟩)],.string x,undef,undef,undef,undef,undef,undef,undef,undef,undef,undef,undef,undef,undef,undef,undef,undef,undef,undef,undef,undef,undef,undef,undef,undef,undef,undef,undef,undef,undef,undef,undef,undef,undef,undef,undef,undef,undef,undef,undef,undef,undef,undef,undef,undef,undef,undef,undef,undef,undef,undef,undef,undef],defers:=[] }) ?assign ?body ?done ?stop
 case assign =>
  intro l x W K hK
  gi_wp2
  exact hK
 case body =>
  rintro l pre x W ⟨wh,st,hpre,he,hbW⟩ ⟨qs,hq⟩
  have hxl:x.data.toList.length=x.size:=by simp
  have hsl:s.data.toList.length=s.size:=by simp
  have hlen:wh+x.size≤s.size:=by
   have e:=congrArg List.length (pieces_flat s.data.toList)
   rw [← hq] at e
   simp only [List.flatten_append,List.length_append,List.flatten_cons] at e
   have:=pre_len _ _ _ _ _ hpre
   omega
  have hrows:st.q.length≤100000∧st.x.length≤100000∧st.s.length≤100000:=by
   have e:=pieces_len s.data.toList
   rw [← hq] at e
   simp only [List.length_append,List.length_cons] at e
   have h:=pre_rows _ _ _ _ _ hpre
   have h0:startM.q.length=0∧startM.x.length=0∧startM.s.length=0:=⟨rfl,rfl,rfl⟩
   omega
  have HNX:Hid (∀ st2,lineM st (wordsM (wholeM x.data.toList))=some st2→preM 0 startM (lists (pre++[x]))=some (wh+x.size,st2)):=Lib.hid (fun st2 h => by
   rw [lists_snoc,← hxl]
   exact pre_snoc _ _ _ _ _ _ _ hpre h)
  have HBD:Hid (lineM st (wordsM (wholeM x.data.toList))=none→runM 0 startM (pieces s.data.toList)=.bad wh):=Lib.hid (fun h => by
   rw [← hq]
   exact run_bad hpre h)
  have hGW:GL W:=HG.out.below hbW (by have:=HG.out.lt;have:=HB.out;omega)
  refine wpIn_mono (Q:=RoundM w B s (pre++[x]) W) ?_ (fun e a W' h => by
   cases e with
   | normal => exact ⟨h.1,h.2.1,h.2.2⟩
   | ret => exact ⟨h.1,h.2⟩
   | _ => exact h.elim)
  have HT1:=fun W => Lib.hid (show Calls Tryz.prog 34 #[.string x,.string ⟨#[10]⟩] W fun e w' => e=.returned (.string (ofL (wholeM x.data.toList)))∧w'=W from Tryz.strings_TrimSuffix x ⟨#[10]⟩ W (by omega))
  have hwhl:=whole_lenM x.data.toList
  have hwd:=words_callsM W (ofL (wholeM x.data.toList)) (by show (wholeM x.data.toList).length≤_;omega) hGW
  rw [ofL_data] at hwd
  have hLz:∀ y ∈ wordsM (wholeM x.data.toList),y.length≤8000:=fun y hy => by have:=words_eachM _ y hy;omega
  have hLn:=words_lenM (wholeM x.data.toList)
  have hLn2:(wordsM (wholeM x.data.toList)).length≤8001:=by omega
  have HWD:=Lib.hid hwd
  have HLZ:=Lib.hid hLz
  have HRW:=Lib.hid hrows
  have HE:=Lib.hid he
  have HBW:=Lib.hid hbW
  have HGW:=Lib.hid hGW
  generalize wholeM x.data.toList=whole at *
  generalize wordsM whole=L at *
  obtain ⟨f2,hf2⟩:∃ y,y=wh+x.size:=⟨_,rfl⟩
  have i3:IntKind.i64.wrap ((wh:Int)+(x.size:Int))=(f2:Int):=by rw [IntWalk.i64_in _ ⟨by omega,by omega⟩];omega
  rw [← hf2] at HNX
  have HLEN:Hid (wh≤s.size):=Lib.hid (by omega)
  clear hpre hq hxl hsl hlen hwd hrows hwhl hLz hLn he hbW hGW hf2
  gi_wp2
  refine ⟨trivial,(CallsIn.inRound l (callsIn_wide.2 (HT1 _).out)).mono ?_⟩
  rintro e w2 ⟨rfl,hw2⟩
  rw [hw2]
  clear w2 hw2 HT1
  gi_wp2
  refine ⟨trivial,(CallsIn.inRound l (callsIn_wide.2 HWD.out)).mono ?_⟩
  rintro e W1 ⟨q,c,rfl,hqq,hsa,hb1⟩
  have HE1:=Lib.hid (HE.out.below hb1)
  have HK1:=Lib.hid (keepsM_below hb1)
  have HS1:=Lib.hid (SeqM.below HE.out.size hb1)
  have HB1:=Lib.hid (HBW.out.trans (hb1.mono (by have:=HE.out.size;omega)))
  have HG1:=Lib.hid (HGW.out.below0 hb1)
  have HSA:=Lib.hid hsa
  have HQQ:Hid (B+10≤q):=Lib.hid (Nat.le_trans HE.out.size hqq)
  clear HE hb1 HWD hqq hsa HGW HBW
  have cb:=HE1.out.beg.cell 0
  have ca:=HE1.out.at_.cell 0
  have cs:=HE1.out.box.cell 0
  have ua:=HE1.out.at_.unfrozen 0
  have ub:=HE1.out.beg.unfrozen 0
  cases L with
  | nil =>
   have HL2:Hid (lineM st []=some st):=Lib.hid rfl
   gi_wp2
   exact ⟨HK1.out.trans (KeepsOthers.setCell _ _ _),HS1.out.trans (SeqM.set (by omega) _),f2,st,HNX.out _ HL2.out,HE1.out.setAt f2,HB1.out.setCell (p:=⟨B+5,0,none⟩) (by have:=HB.out;simp only;omega) _⟩
  | cons y L' =>
   have hll:((y :: L').length:Int)=((L'.length+1:Nat):Int):=rfl
   have hl0:(((y :: L').length:Int) == 0)=false:=by rw [hll];simp;omega
   have hl1:¬ ((y :: L').length:Int)=0:=by rw [hll];omega
   cases hbg:st.begun with
   | true =>
    rw [hbg] at cb HE1
    have HL2:Hid (lineM st (y :: L')=addM st (y :: L')):=Lib.hid (by unfold lineM;rw [if_neg (by simp),if_pos hbg])
    have HAD:=Lib.hid (add_any W1 (B+10) (B+4) q c st (y :: L') HE1.out.man (by omega) HE1.out.size HSA.out (fun z hz => by have:=HLZ.out z hz;omega) (by omega) HRW.out HG1.out)
    have HBG:=Lib.hid hbg
    clear hbg hll hLn2
    generalize (y :: L').length=ln at *
    gi_wp2
    refine ⟨trivial,(CallsIn.inRound l (callsIn_wide.2 HAD.out)).mono ?_⟩
    rintro e W2 ⟨rfl,hm2,hf2⟩
    have HF2:=Lib.hid hf2
    have HB2:=Lib.hid (HB1.out.trans (hf2.below (B:=B) (by have:=HE1.out.size;omega) (manS_le (by omega) (by omega))))
    have HK2:=Lib.hid (HK1.out.trans (keepsM_fr hf2 HE1.out.man.cells))
    have HS2:=Lib.hid (HS1.out.trans (SeqM.fr HE1.out.size hf2))
    cases hA:addM st (y :: L') with
    | none =>
     rw [hA] at hm2
     have HE2:=Lib.hid (HE1.out.fr hf2 hm2)
     have HL3:=Lib.hid (HL2.out.trans hA)
     have cb:=HE2.out.beg.cell 0
     have ca:=HE2.out.at_.cell 0
     have cs:=HE2.out.box.cell 0
     clear hm2 hf2 hA HL2
     gi_wp2
     refine ⟨trivial,(CallsIn.inRound l (callsIn_wide.2 (place_calls _ s wh HLEN.out (by omega)))).mono ?_⟩
     rintro e W8 ⟨rfl,hb8⟩
     have hp8:=HE2.out.below hb8
     have r0:=hp8.res.cell 0
     have r1:=hp8.res.cell 1
     have r2:=hp8.res.cell 2
     have r3:=hp8.res.cell 3
     have p0:=hp8.pl.cell 0
     have p1:=hp8.pl.cell 1
     have q0:=hp8.er.cell 0
     have ur:=fun i => hp8.res.unfrozen i
     have up:=fun i => hp8.pl.unfrozen i
     have uq:=fun i => hp8.er.unfrozen i
     have HP8:=Lib.hid hp8
     have HB8:=Lib.hid (HB2.out.trans (hb8.mono (by have:=HE2.out.size;omega)))
     have HK8:=Lib.hid (HK2.out.trans (keepsM_below hb8))
     unfold zeroM at r0 r1 r2 r3
     clear hp8 hb8
     gi_wp2
     have hse:=stop_end (pre++[x]) (HBD.out HL3.out) HP8.out.res HP8.out.pl HP8.out.er HB8.out HP8.out.size
     exact ⟨HK8.out.trans hse.1,hse.2⟩
    | some st2 =>
     rw [hA] at hm2
     have hb2:=addM_begun hA
     have HE2:Hid (PE B s wh st2.begun st2 W2):=Lib.hid (by rw [hb2,HBG.out];exact HE1.out.fr hf2 hm2)
     have HL3:=Lib.hid (HL2.out.trans hA)
     have ca:=HE2.out.at_.cell 0
     have ua:=HE2.out.at_.unfrozen 0
     clear hm2 hf2 hA HL2 hb2
     gi_wp2
     exact ⟨HK2.out.trans (KeepsOthers.setCell _ _ _),HS2.out.trans (SeqM.set (by omega) _),f2,st2,HNX.out _ HL3.out,HE2.out.setAt f2,HB2.out.setCell (p:=⟨B+5,0,none⟩) (by simp only;omega) _⟩
   | false =>
    rw [hbg] at cb HE1
    have HL2:Hid (lineM st (y :: L')=beginM st (y :: L')):=Lib.hid (by unfold lineM;rw [if_neg (by simp),if_neg (by simp [hbg])])
    have HE2:=Lib.hid (HE1.out.setBeg true)
    have HK2:=Lib.hid (HK1.out.trans (KeepsOthers.setCell W1 ⟨B+6,0,none⟩ (.bool true)))
    have HS2:=Lib.hid (HS1.out.trans (SeqM.set (q:=B+6) (i:=0) (by omega) (.bool true)))
    have HB2:=Lib.hid (HB1.out.setCell (p:=⟨B+6,0,none⟩) (by simp only;omega) (.bool true))
    have HSA2:=Lib.hid (HSA.out.put ⟨B+6,0,none⟩ (by have:=HQQ.out;simp only;omega) (.bool true))
    have ca:=HE2.out.at_.cell 0
    have cs:=HE2.out.box.cell 0
    have ua:=HE2.out.at_.unfrozen 0
    clear hbg HE1 HK1 HS1 HSA
    cases L' with
    | nil =>
     have HL3:Hid (lineM st [y]=none):=Lib.hid (HL2.out.trans (by unfold beginM;rw [if_neg (by simp)]))
     clear hll hl0 hl1
     gi_wp2
     refine ⟨trivial,?_⟩
     gi_wp2
     refine ⟨trivial,(CallsIn.inRound l (callsIn_wide.2 (place_calls _ s wh HLEN.out (by omega)))).mono ?_⟩
     rintro e W8 ⟨rfl,hb8⟩
     have hp8:=HE2.out.below hb8
     have r0:=hp8.res.cell 0
     have r1:=hp8.res.cell 1
     have r2:=hp8.res.cell 2
     have r3:=hp8.res.cell 3
     have p0:=hp8.pl.cell 0
     have p1:=hp8.pl.cell 1
     have q0:=hp8.er.cell 0
     have ur:=fun i => hp8.res.unfrozen i
     have up:=fun i => hp8.pl.unfrozen i
     have uq:=fun i => hp8.er.unfrozen i
     have HP8:=Lib.hid hp8
     have HB8:=Lib.hid (HB2.out.trans (hb8.mono (by have:=HE2.out.size;omega)))
     have HK8:=Lib.hid (HK2.out.trans (keepsM_below hb8))
     unfold zeroM at r0 r1 r2 r3
     clear hp8 hb8
     gi_wp2
     have hse:=stop_end (pre++[x]) (HBD.out HL3.out) HP8.out.res HP8.out.pl HP8.out.er HB8.out HP8.out.size
     exact ⟨HK8.out.trans hse.1,hse.2⟩
    | cons z L2 =>
     cases L2 with
     | cons u r =>
      have HL3:Hid (lineM st (y :: z :: u :: r)=none):=Lib.hid (HL2.out.trans (by unfold beginM;rw [if_neg (by simp)]))
      have hl2:(((y :: z :: u :: r).length:Int) == 2)=false:=by simp;omega
      clear hll HL2 hLn2
      generalize (y :: z :: u :: r).length=ln at *
      gi_wp2
      refine ⟨trivial,?_⟩
      gi_wp2
      refine ⟨trivial,(CallsIn.inRound l (callsIn_wide.2 (place_calls _ s wh HLEN.out (by omega)))).mono ?_⟩
      rintro e W8 ⟨rfl,hb8⟩
      have hp8:=HE2.out.below hb8
      have r0:=hp8.res.cell 0
      have r1:=hp8.res.cell 1
      have r2:=hp8.res.cell 2
      have r3:=hp8.res.cell 3
      have p0:=hp8.pl.cell 0
      have p1:=hp8.pl.cell 1
      have q0:=hp8.er.cell 0
      have ur:=fun i => hp8.res.unfrozen i
      have up:=fun i => hp8.pl.unfrozen i
      have uq:=fun i => hp8.er.unfrozen i
      have HP8:=Lib.hid hp8
      have HB8:=Lib.hid (HB2.out.trans (hb8.mono (by have:=HE2.out.size;omega)))
      have HK8:=Lib.hid (HK2.out.trans (keepsM_below hb8))
      unfold zeroM at r0 r1 r2 r3
      clear hp8 hb8
      gi_wp2
      have hse:=stop_end (pre++[x]) (HBD.out HL3.out) HP8.out.res HP8.out.pl HP8.out.er HB8.out HP8.out.size
      exact ⟨HK8.out.trans hse.1,hse.2⟩
     | nil =>
      have d0:(W1.setCell ⟨B+6,0,none⟩ (.bool true)).cell? ⟨q,0,none⟩=some (.string (bs y)):=HSA2.out 0 (by simp)
      have d1:(W1.setCell ⟨B+6,0,none⟩ (.bool true)).cell? ⟨q,1,none⟩=some (.string (bs z)):=HSA2.out 1 (by simp)
      have hz8:z.length≤8000:=HLZ.out z (by simp)
      have hy0:((bs y).toList == [109,111,100,117,108,101])=decide (y=moduleW):=by rw [toList_bs];unfold moduleW;exact Bool.eq_iff_iff.2 (by simp)
      have HPR:=fun W => Lib.hid (pright_calls z W (by omega))
      obtain ⟨v1,v2,v3,hmb,_⟩:=HE2.out.man
      have m0:=hmb.cell 0
      have um:=hmb.unfrozen 0
      have HMB:=Lib.hid hmb
      clear hll hl0 hl1 hmb
      by_cases hym:y=moduleW
      ·rw [decide_eq_true hym] at hy0
       cases hrz:rightL z with
       | true =>
        have HL3:Hid (lineM st [y,z]=some { st with begun:=true,mo:=z }):=Lib.hid (HL2.out.trans (by unfold beginM;rw [if_pos ⟨rfl,hym,hrz⟩];rfl))
        rw [hrz] at HPR
        clear HL2 hym hrz
        gi_wp2
        refine ⟨trivial,(CallsIn.inRound l (callsIn_wide.2 (HPR _).out)).mono ?_⟩
        rintro e W3 ⟨rfl,hd⟩
        have hb3:=drawn_belowM (Below.refl (W1.setCell ⟨B+6,0,none⟩ (.bool true)).heap.size (W1.setCell ⟨B+6,0,none⟩ (.bool true))) hd
        have HE3:=Lib.hid ((HE2.out.below hb3).setMo z true)
        have HK3:=Lib.hid ((HK2.out.trans (keepsM_below hb3)).trans (KeepsOthers.setCell W3 ⟨B+4,0,none⟩ (.string (bs z))))
        have HS3:=Lib.hid ((HS2.out.trans (SeqM.below HE2.out.size hb3)).trans (SeqM.set (q:=B+4) (i:=0) (by omega) (.string (bs z))))
        have HB3:=Lib.hid ((HB2.out.trans (hb3.mono (by have:=HE2.out.size;omega))).setCell (p:=⟨B+4,0,none⟩) (by simp only;omega) (.string (bs z)))
        have e1:=drawn_cell hd d1
        have mm:=drawn_cell hd m0
        have um3:W3.frozen? ⟨B+4,0,none⟩=false:=(HMB.out.below hb3).unfrozen 0
        have ca:=HE3.out.at_.cell 0
        have ua:=HE3.out.at_.unfrozen 0
        clear hb3 hd d0 d1 m0 um
        gi_wp2
        exact ⟨HK3.out.trans (KeepsOthers.setCell _ _ _),HS3.out.trans (SeqM.set (by omega) _),f2,{ st with begun:=true,mo:=z },HNX.out _ HL3.out,HE3.out.setAt f2,HB3.out.setCell (p:=⟨B+5,0,none⟩) (by simp only;omega) _⟩
       | false =>
        have HL3:Hid (lineM st [y,z]=none):=Lib.hid (HL2.out.trans (by unfold beginM;rw [if_neg (by simp [hrz])]))
        rw [hrz] at HPR
        clear HL2 hym hrz
        gi_wp2
        refine ⟨trivial,(CallsIn.inRound l (callsIn_wide.2 (HPR _).out)).mono ?_⟩
        rintro e W3 ⟨rfl,hd⟩
        have hb3:=drawn_belowM (Below.refl (W1.setCell ⟨B+6,0,none⟩ (.bool true)).heap.size (W1.setCell ⟨B+6,0,none⟩ (.bool true))) hd
        have HE3:=Lib.hid (HE2.out.below hb3)
        have HK3:=Lib.hid (HK2.out.trans (keepsM_below hb3))
        have HB3:=Lib.hid (HB2.out.trans (hb3.mono (by have:=HE2.out.size;omega)))
        have ca:=HE3.out.at_.cell 0
        have cs:=HE3.out.box.cell 0
        clear hb3 hd d0 d1 m0 um
        gi_wp2
        refine ⟨trivial,(CallsIn.inRound l (callsIn_wide.2 (place_calls _ s wh HLEN.out (by omega)))).mono ?_⟩
        rintro e W8 ⟨rfl,hb8⟩
        have hp8:=HE3.out.below hb8
        have r0:=hp8.res.cell 0
        have r1:=hp8.res.cell 1
        have r2:=hp8.res.cell 2
        have r3:=hp8.res.cell 3
        have p0:=hp8.pl.cell 0
        have p1:=hp8.pl.cell 1
        have q0:=hp8.er.cell 0
        have ur:=fun i => hp8.res.unfrozen i
        have up:=fun i => hp8.pl.unfrozen i
        have uq:=fun i => hp8.er.unfrozen i
        have HP8:=Lib.hid hp8
        have HB8:=Lib.hid (HB3.out.trans (hb8.mono (by have:=HE3.out.size;omega)))
        have HK8:=Lib.hid (HK3.out.trans (keepsM_below hb8))
        unfold zeroM at r0 r1 r2 r3
        clear hp8 hb8
        gi_wp2
        have hse:=stop_end (pre++[x]) (HBD.out HL3.out) HP8.out.res HP8.out.pl HP8.out.er HB8.out HP8.out.size
        exact ⟨HK8.out.trans hse.1,hse.2⟩
      ·rw [decide_eq_false hym] at hy0
       have HL3:Hid (lineM st [y,z]=none):=Lib.hid (HL2.out.trans (by unfold beginM;rw [if_neg (by simp [hym])]))
       clear HL2 hym
       gi_wp2
       refine ⟨trivial,?_⟩
       gi_wp2
       refine ⟨trivial,(CallsIn.inRound l (callsIn_wide.2 (place_calls _ s wh HLEN.out (by omega)))).mono ?_⟩
       rintro e W8 ⟨rfl,hb8⟩
       have hp8:=HE2.out.below hb8
       have r0:=hp8.res.cell 0
       have r1:=hp8.res.cell 1
       have r2:=hp8.res.cell 2
       have r3:=hp8.res.cell 3
       have p0:=hp8.pl.cell 0
       have p1:=hp8.pl.cell 1
       have q0:=hp8.er.cell 0
       have ur:=fun i => hp8.res.unfrozen i
       have up:=fun i => hp8.pl.unfrozen i
       have uq:=fun i => hp8.er.unfrozen i
       have HP8:=Lib.hid hp8
       have HB8:=Lib.hid (HB2.out.trans (hb8.mono (by have:=HE2.out.size;omega)))
       have HK8:=Lib.hid (HK2.out.trans (keepsM_below hb8))
       unfold zeroM at r0 r1 r2 r3
       clear hp8 hb8
       gi_wp2
       have hse:=stop_end (pre++[x]) (HBD.out HL3.out) HP8.out.res HP8.out.pl HP8.out.er HB8.out HP8.out.size
       exact ⟨HK8.out.trans hse.1,hse.2⟩
 case done =>
  rintro D xs W hD hS ⟨wh,st,hpre,he,hbW⟩ hK
  rw [hS] at hpre
  have hrun:=run_end hpre
  have hfit:=HF.out st hrun
  have HRN:=Lib.hid hrun
  have hDB:B+10≤D:=by omega
  have hDW:D<W.heap.size:=(Array.getElem?_eq_some_iff.1 hK).1
  have hGW:GL W:=HG.out.below hbW (by have:=HG.out.lt;have:=HB.out;omega)
  obtain ⟨v1,v2,v3,hmb,o1,o2,o3,-⟩:=he.man
  have hs1:HasA W (B+10) v1 st.q:=own_rwA o1
  have hs2:HasA W (B+10) v2 st.x:=own_rwA o2
  have hs3:HasB W (B+10) v3 st.s:=own_rwB o3
  obtain ⟨A1,c1,rfl,hc1,hr1⟩:=hs1.reads (by have:=hfit.n1;omega)
  obtain ⟨A2,c2,rfl,hc2,hr2⟩:=hs2.reads (by have:=hfit.n2;omega)
  obtain ⟨A3,c3,rfl,hc3,hr3⟩:=hs3.reads (by have:=hfit.n3;omega)
  have HNO:=Lib.hid (norm_calls W (cmpA_on W hGW) (cmpB_on W hGW) (bs st.mo) A1 A2 A3 c1 c2 c3 st.q st.x st.s hr1 hc1 hfit.n1 hfit.a1 hr2 hc2 hfit.n2 hfit.a2 hr3 hc3 hfit.n3 hfit.a3)
  have m0:=hmb.cell 0
  have m1:=hmb.cell 1
  have m2:=hmb.cell 2
  have m3:=hmb.cell 3
  have HMB:=Lib.hid hmb
  have HE:=Lib.hid he
  have HBW:=Lib.hid hbW
  have HKD:=Lib.hid hK
  have HFT:=Lib.hid hfit
  have HGW:=Lib.hid hGW
  clear hpre hrun hfit hs1 hs2 hs3 hr1 hr2 hr3 hc1 hc2 hc3 o1 o2 o3 hmb he hbW hK hS hE0 hs5 hB0 hz0 hGW
  gi_wp2
  refine ⟨trivial,callsIn_wide.2 (HNO.out.mono ?_)⟩
  rintro e W2 ⟨w1',w2',w3',rfl,g1,g2,g3,hb2⟩
  obtain ⟨a1,n1,d1,rfl⟩:=hasA_slice g1
  obtain ⟨a2,n2,d2,rfl⟩:=hasA_slice g2
  obtain ⟨a3,n3,d3,rfl⟩:=hasB_slice g3
  have k2:=HMB.out.below hb2
  have z0:=k2.cell 0
  have z1:=k2.cell 1
  have z2:=k2.cell 2
  have z3:=k2.cell 3
  have uz:=fun i => k2.unfrozen i
  have hsz:=HE.out.size
  have hsz2:=hb2.size
  obtain ⟨W3,hW3⟩:∃ W3,W3=(((W2.setCell ⟨B+4,0,none⟩ (.string (bs st.mo))).setCell ⟨B+4,1,none⟩ (.slice a1 n1 d1)).setCell ⟨B+4,2,none⟩ (.slice a2 n2 d2)).setCell ⟨B+4,3,none⟩ (.slice a3 n3 d3):=⟨_,rfl⟩
  have k3:Blk W3 (B+4) 27 #[.string (bs st.mo),.slice a1 n1 d1,.slice a2 n2 d2,.slice a3 n3 d3]:=by
   rw [hW3]
   exact (((k2.put 0 _).put 1 _).put 2 _).put 3 _
  have f1:HasA W3 W.heap.size (.slice a1 n1 d1) (normA cfA st.q):=by
   rw [hW3]
   exact (((g1.put (q:=B+4) (i:=0) (by omega) _).put (q:=B+4) (i:=1) (by omega) _).put (q:=B+4) (i:=2) (by omega) _).put (q:=B+4) (i:=3) (by omega) _
  have f2:HasA W3 W.heap.size (.slice a2 n2 d2) (normA cfA st.x):=by
   rw [hW3]
   exact (((g2.put (q:=B+4) (i:=0) (by omega) _).put (q:=B+4) (i:=1) (by omega) _).put (q:=B+4) (i:=2) (by omega) _).put (q:=B+4) (i:=3) (by omega) _
  have f3:HasB W3 W.heap.size (.slice a3 n3 d3) (normB cfB st.s):=by
   rw [hW3]
   exact (((g3.put (q:=B+4) (i:=0) (by omega) _).put (q:=B+4) (i:=1) (by omega) _).put (q:=B+4) (i:=2) (by omega) _).put (q:=B+4) (i:=3) (by omega) _
  have hb3:Below B w W3:=by
   rw [hW3]
   exact ((((HBW.out.trans (hb2.mono (by omega))).setCell (p:=⟨B+4,0,none⟩) (by simp only;omega) _).setCell (p:=⟨B+4,1,none⟩) (by simp only;omega) _).setCell (p:=⟨B+4,2,none⟩) (by simp only;omega) _).setCell (p:=⟨B+4,3,none⟩) (by simp only;omega) _
  have hsame:∀ {k:Nat} {o:Obj},k≠B+4→W.heap[k]?=some o→W3.heap[k]?=some o:=fun hk ho => by
   rw [hW3,Below.heap_setCell _ _ _ _ (by simpa using hk),Below.heap_setCell _ _ _ _ (by simpa using hk),Below.heap_setCell _ _ _ _ (by simpa using hk),Below.heap_setCell _ _ _ _ (by simpa using hk)]
   exact (hb2.block _ (Array.getElem?_eq_some_iff.1 ho).1).trans ho
  have hz3:W2.heap.size=W3.heap.size:=by rw [hW3];simp [World.setCell]
  have hG3:GL W3:=HG.out.below hb3 (by have:=HG.out.lt;have:=HB.out;omega)
  have r1:Blk W3 (B+1) 27 zeroM:=hsame (by omega) HE.out.res
  have r2:Blk W3 (B+2) 31 #[.int .i64 0,.int .i64 0]:=hsame (by omega) HE.out.pl
  have r3:Blk W3 (B+3) 32 #[.int .i64 0]:=hsame (by omega) HE.out.er
  have r0:Blk W3 B 9 #[.string s]:=hsame (by omega) HE.out.box
  have rD:W3.heap[D]?=some (.deferred (some [])):=hsame (by omega) HKD.out
  obtain ⟨b1,e1,he1,hd1,hq1⟩:=f1.reads (by have:=HFT.out.m1;omega)
  obtain ⟨b2,e2,he2,hd2,hq2⟩:=f2.reads (by have:=HFT.out.m2;omega)
  obtain ⟨b3,e3,he3,hd3,hq3⟩:=f3.reads (by have:=HFT.out.m3;omega)
  cases he1
  cases he2
  cases he3
  have hrt:=mright_calls W3 (okq:=okqR) (cfA:=cfA) (OkR:=OkR) (bs st.mo) a1 a2 a3 d1 d2 d3 (normA cfA st.q) (normA cfA st.x) (normB cfB st.s) (fun r hr W hW => req_on W3 hG3 r hr W hW) (fun x y hx hy => cmpA_on W3 hG3 x y hx.1 hy.1) (by rw [size_bs];exact HFT.out.mo) hq1 HFT.out.m1 HFT.out.o1 hq2 HFT.out.m2 HFT.out.o2 hq3 HFT.out.m3 HFT.out.o3
  have HOUT:Hid (outM s.data.toList=if rightM okqR cfA (bs st.mo) (normA cfA st.q) (normA cfA st.x) (normB cfB st.s)=true then .yes (bs st.mo) (normA cfA st.q) (normA cfA st.x) (normB cfB st.s) else .no 0 1):=Lib.hid (by
   unfold outM
   rw [if_neg (by rw [data_length];omega),HRN.out])
  have t0:=k3.cell 0
  have t1:=k3.cell 1
  have t2:=k3.cell 2
  have t3:=k3.cell 3
  rw [hW3] at t0 t1 t2 t3 hrt
  have HRT:=Lib.hid hrt
  have HW3:=Lib.hid hW3
  have F1:=Lib.hid f1
  have F2:=Lib.hid f2
  have F3:=Lib.hid f3
  have HB3:=Lib.hid hb3
  have K3:=Lib.hid k3
  have R0:=Lib.hid r0
  have R1:=Lib.hid r1
  have R2:=Lib.hid r2
  have R3:=Lib.hid r3
  have RD:=Lib.hid rD
  have HZ3:Hid (B+10≤W3.heap.size∧W.heap.size≤W3.heap.size):=Lib.hid ⟨by omega,by omega⟩
  clear hrt hW3 f1 f2 f3 hb3 k3 r0 r1 r2 r3 rD hsame hG3 hq1 hq2 hq3 hd1 hd2 hd3 g1 g2 g3 hb2 k2 m0 m1 m2 m3 hz3 HE HMB HKD HNO
  gi_wp2
  refine ⟨trivial,callsIn_wide.2 (HRT.out.mono ?_)⟩
  rintro e W4 ⟨rfl,hb4⟩
  rw [← HW3.out] at hb4
  have c0:=(R0.out.below hb4).cell 0
  have hr1:=R1.out.below hb4
  have hr2:=R2.out.below hb4
  have hr3:=R3.out.below hb4
  have hk4:=K3.out.below hb4
  have y0:=hk4.cell 0
  have y1:=hk4.cell 1
  have y2:=hk4.cell 2
  have y3:=hk4.cell 3
  have HR1:=Lib.hid hr1
  have HR2:=Lib.hid hr2
  have HR3:=Lib.hid hr3
  have F14:=Lib.hid (F1.out.below hb4)
  have F24:=Lib.hid (F2.out.below hb4)
  have F34:=Lib.hid (F3.out.below hb4)
  have HB4:=Lib.hid (HB3.out.trans (hb4.mono (by have:=HZ3.out;omega)))
  have RD4:=Lib.hid ((hb4.block D (Array.getElem?_eq_some_iff.1 RD.out).1).trans RD.out)
  have HZ4:Hid (B+10≤W4.heap.size):=Lib.hid (by have:=HZ3.out;have:=hb4.size;omega)
  generalize hR:rightM okqR cfA (bs st.mo) (normA cfA st.q) (normA cfA st.x) (normB cfB st.s)=R at *
  clear hb4 t0 t1 t2 t3 z0 z1 z2 z3 uz hk4 hr1 hr2 hr3
  cases R with
  | false =>
   have HOUT2:=Lib.hid (HOUT.out.trans (if_neg (by simp)))
   gi_wp2
   refine ⟨trivial,callsIn_wide.2 ((place_calls _ s 0 (Nat.zero_le _) (by omega)).mono ?_)⟩
   rintro e W8 ⟨rfl,hb8⟩
   have hp1:=HR1.out.below hb8
   have hp2:=HR2.out.below hb8
   have hp3:=HR3.out.below hb8
   have q0:=hp1.cell 0
   have q1:=hp1.cell 1
   have q2:=hp1.cell 2
   have q3:=hp1.cell 3
   have q4:=hp2.cell 0
   have q5:=hp2.cell 1
   have q6:=hp3.cell 0
   have u1:=fun i => hp1.unfrozen i
   have u2:=fun i => hp2.unfrozen i
   have u3:=fun i => hp3.unfrozen i
   unfold zeroM at q0 q1 q2 q3
   have P1:=Lib.hid hp1
   have P2:=Lib.hid hp2
   have P3:=Lib.hid hp3
   have HB8:=Lib.hid (HB4.out.trans (hb8.mono (by have:=HZ4.out;omega)))
   have RD8:=Lib.hid ((hb8.block D (Array.getElem?_eq_some_iff.1 RD4.out).1).trans RD4.out)
   clear hp1 hp2 hp3 hb8
   gi_wp2
   refine ⟨by simp,.inl ⟨_,_,rfl,run_takeDeferred ((((((((KeepsOthers.setCell _ _ _).trans (KeepsOthers.setCell _ _ _)).trans (KeepsOthers.setCell _ _ _)).trans (KeepsOthers.setCell _ _ _)).trans (KeepsOthers.setCell _ _ _)).trans (KeepsOthers.setCell _ _ _)).trans (KeepsOthers.setCell _ _ _)).same D _ RD8.out rfl),?_⟩⟩
   refine ⟨_,results_ccs rfl _ _ (B+1) (B+2) (B+3) _ _ zeroM (placeM s.data.toList 0) _ _ (.int .i64 1) rfl ((World.putObj_heap_other (by omega)).trans ((((((((P1.out.put 0 _).put 1 _).put 2 _).put 3 _).far (by simp) _).far (by simp) _).far (by simp) _))) Tryz.underlying27 rfl (by kernel_rfl) rfl ((World.putObj_heap_other (by omega)).trans ((((((((P2.out.far (by simp) _).far (by simp) _).far (by simp) _).far (by simp) _).put 0 _).put 1 _).far (by simp) _))) Tryz.underlying31 rfl (by kernel_rfl) rfl (load_errno _ _ _ ((World.putObj_heap_other (by omega)).trans ((((((((P3.out.far (by simp) _).far (by simp) _).far (by simp) _).far (by simp) _).far (by simp) _).far (by simp) _).put 0 _)))),?_⟩
   refine ⟨?_,by rw [HOUT2.out]⟩
   have hE:=HB.out
   subst hE
   exact seven_end HB8.out HB8.out.size _ _ _ _ _ _ _ (by omega)
  | true =>
   have HOUT2:=Lib.hid (HOUT.out.trans (if_pos rfl))
   have q0:=HR1.out.cell 0
   have q1:=HR1.out.cell 1
   have q2:=HR1.out.cell 2
   have q3:=HR1.out.cell 3
   have q4:=HR2.out.cell 0
   have q5:=HR2.out.cell 1
   have q6:=HR3.out.cell 0
   have u1:=fun i => HR1.out.unfrozen i
   have u2:=fun i => HR2.out.unfrozen i
   have u3:=fun i => HR3.out.unfrozen i
   unfold zeroM at q0 q1 q2 q3
   gi_wp2
   refine ⟨by simp,.inl ⟨_,_,rfl,run_takeDeferred ((((((((KeepsOthers.setCell _ _ _).trans (KeepsOthers.setCell _ _ _)).trans (KeepsOthers.setCell _ _ _)).trans (KeepsOthers.setCell _ _ _)).trans (KeepsOthers.setCell _ _ _)).trans (KeepsOthers.setCell _ _ _)).trans (KeepsOthers.setCell _ _ _)).same D _ RD4.out rfl),?_⟩⟩
   refine ⟨_,results_ccs rfl _ _ (B+1) (B+2) (B+3) _ _ #[.string (bs st.mo),.slice a1 (normA cfA st.q).length d1,.slice a2 (normA cfA st.x).length d2,.slice a3 (normB cfB st.s).length d3] #[.int .i64 0,.int .i64 0] _ _ (.int .i64 0) rfl ((World.putObj_heap_other (by omega)).trans ((((((((HR1.out.put 0 _).put 1 _).put 2 _).put 3 _).far (by simp) _).far (by simp) _).far (by simp) _))) Tryz.underlying27 rfl (by kernel_rfl) rfl ((World.putObj_heap_other (by omega)).trans ((((((((HR2.out.far (by simp) _).far (by simp) _).far (by simp) _).far (by simp) _).put 0 _).put 1 _).far (by simp) _))) Tryz.underlying31 rfl (by kernel_rfl) rfl (load_errno _ _ _ ((World.putObj_heap_other (by omega)).trans ((((((((HR3.out.far (by simp) _).far (by simp) _).far (by simp) _).far (by simp) _).far (by simp) _).far (by simp) _).put 0 _)))),?_⟩
   have hE:=HB.out
   subst hE
   refine ⟨seven_end HB4.out HB4.out.size _ _ _ _ _ _ _ (by omega),?_⟩
   rw [HOUT2.out]
   exact ⟨_,_,_,rfl,seven_hasA F14.out (by omega) hDW (by omega) _ _ _ _ _ _ _,seven_hasA F24.out (by omega) hDW (by omega) _ _ _ _ _ _ _,seven_hasB F34.out (by omega) hDW (by omega) _ _ _ _ _ _ _⟩
 case stop =>
  rintro D c pre W hD _ ⟨rfl,wh,hrun,hk1,hk2,hk3,hbW,hsz⟩ hK
  gi_wp2
  have hDB:B+10≤D:=by omega
  have hout:outM s.data.toList=.no wh 1:=by unfold outM;rw [if_neg (by rw [data_length];omega),hrun]
  refine ⟨by simp,.inl ⟨_,_,rfl,run_takeDeferred hK,?_⟩⟩
  refine ⟨_,results_ccs rfl _ _ (B+1) (B+2) (B+3) _ _ zeroM (placeM s.data.toList wh) _ _ (.int .i64 1) rfl ((World.putObj_heap_other (by omega)).trans hk1) Tryz.underlying27 rfl (by kernel_rfl) rfl ((World.putObj_heap_other (by omega)).trans hk2) Tryz.underlying31 rfl (by kernel_rfl) rfl (load_errno _ _ _ ((World.putObj_heap_other (by omega)).trans hk3)),?_⟩
  refine ⟨?_,by rw [hout]⟩
  have hE:=HB.out
  subst hE
  exact hbW.grown (grownBy_putObj' _ D (.deferred none)) hbW.size (fun q hq => by cases hq;omega)
end
end Go.Proofs.YtjiidlkkkednoaaGreatDoor.Q
