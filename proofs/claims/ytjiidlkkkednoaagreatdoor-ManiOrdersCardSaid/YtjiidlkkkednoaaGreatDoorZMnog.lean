import Derived.Test.YtjiidlkkkednoaaGreatDoorZTextg
import Derived.Test.YtjiidlkkkednoaaGreatDoorZMtxg
import Derived.Test.YtjiidlkkkednoaaGreatDoorZQ4
import Derived.Test.YtjiidlkkkednoaaGreatDoorZQ5
import Derived.Test.YtjiidlkkkednoaaGreatDoorZQ9
import Derived.Test.YtjiidlkkkednoaaGreatDoorZVmg
import Derived.RangeFuncFrom
import Derived.RangeFuncNested
import Derived.RangeFuncBound
import Derived.RangeFuncBox
import Derived.RangeFuncCalls
import Derived.RangeFuncLeaves
import Derived.Shelf.Abstract
import Derived.Shelf.RegionOpen
import Derived.WalkKit
import Derived.OwnWalkIn
import Derived.TacticsInMore
import Derived.LoopNIn
import Derived.LoopIn
import Derived.Test.YtjiidlkkkednoaaGreatDoorZBaseg
import Derived.Test.YtjiidlkkkednoaaGreatDoorZMpmg
import Derived.Test.YtjiidlkkkednoaaGreatDoorZMsoAg
import Derived.Test.YtjiidlkkkednoaaGreatDoorZMsoBg
set_option linter.unusedVariables false
set_option linter.unusedSimpArgs false
section
namespace Go.Proofs.YtjiidlkkkednoaaGreatDoor.Q
open Go.RowKit Go.Proofs.YtjiidlkkkednoaaGreatDoorW.PrintWords
theorem first_step (l:List Int) (i k:Nat) (hi:i<l.length) (hl:l.length≤100):mani_first.l0 (k+1) l l.length i=if l[i]=0 then mani_first.l0 k l l.length ((i+1:Nat):Int) else some l[i]:=by
 have hw:wrap64 ((i:Int)+1)=((i+1:Nat):Int):=wrap_in (by omega) (by omega)
 have hr:rd l (i:Int)=l[i]:=by simp [rd,List.getD,List.getElem?_eq_getElem hi]
 rw [mani_first.l0.eq_2,if_pos (by omega),if_pos (by omega),if_pos (by omega),hr,hw]
theorem first_end (l:List Int) (k:Nat):mani_first.l0 (k+1) l l.length l.length=some 0:=by
 rw [mani_first.l0.eq_2,if_neg (by omega)]
theorem first_two (a b:Int) (k:Nat):mani_first.f (k+3) [a,b]=some (if a≠0 then a else b):=by
 unfold mani_first.f
 have s0:=first_step [a,b] 0 (k+2) (by simp) (by simp)
 have s1:=first_step [a,b] 1 (k+1) (by simp) (by simp)
 have s2:=first_end [a,b] k
 simp only [List.length_cons,List.length_nil,Nat.zero_add,Nat.reduceAdd,List.getElem_cons_zero,List.getElem_cons_succ] at s0 s1 s2 ⊢
 rw [show ((0:Nat):Int)=0 from rfl] at s0
 rw [s0]
 by_cases ha:a=0
 ·rw [if_pos ha,s1]
  by_cases hb:b=0
  ·rw [if_pos hb,s2,if_neg (by simp [ha]),hb]
  ·rw [if_neg hb,if_neg (by simp [ha])]
 ·rw [if_neg ha,if_pos ha]
theorem first_three (a b c:Int) (k:Nat):mani_first.f (k+4) [a,b,c]=some (if a≠0 then a else if b≠0 then b else c):=by
 unfold mani_first.f
 have s0:=first_step [a,b,c] 0 (k+3) (by simp) (by simp)
 have s1:=first_step [a,b,c] 1 (k+2) (by simp) (by simp)
 have s2:=first_step [a,b,c] 2 (k+1) (by simp) (by simp)
 have s3:=first_end [a,b,c] k
 simp only [List.length_cons,List.length_nil,Nat.zero_add,Nat.reduceAdd,List.getElem_cons_zero,List.getElem_cons_succ] at s0 s1 s2 s3 ⊢
 rw [show ((0:Nat):Int)=0 from rfl] at s0
 rw [s0]
 by_cases ha:a=0
 ·rw [if_pos ha,s1]
  by_cases hb:b=0
  ·rw [if_pos hb,s2]
   by_cases hc:c=0
   ·rw [if_pos hc,s3,if_neg (by simp [ha]),if_neg (by simp [hb]),hc]
   ·rw [if_neg hc,if_neg (by simp [ha]),if_neg (by simp [hb])]
  ·rw [if_neg hb,if_neg (by simp [ha]),if_pos hb]
 ·rw [if_neg ha,if_pos ha]
def vrM (v:S43):Vr:=⟨v.f0,v.f1,v.f2,v.f3.data.toList⟩
def cfA (x y:S45):Int:=if cmpPA x y≠0 then cmpPA x y else cmpV (vrM x.f1) (vrM y.f1)
def cfB (x y:S48):Int:=if cmpPB x y≠0 then cmpPB x y else if Lib.compareBytes x.f1.data.toList y.f1.data.toList≠0 then Lib.compareBytes x.f1.data.toList y.f1.data.toList else cmpV (vrM x.f2) (vrM y.f2)
theorem cmpM_f (x y:S43) (hx:x.f3.size≤900000) (hy:y.f3.size≤900000) (k:Nat):ver_Cmp.f (k+5) x.f0 x.f1 x.f2 x.f3 y.f0 y.f1 y.f2 y.f3=some (cmpV (vrM x) (vrM y)):=by
 have:=cmp_f (vrM x) (vrM y) (by show x.f3.data.toList.length≤_;rw [data_length];exact hx) (by show y.f3.data.toList.length≤_;rw [data_length];exact hy) k
 unfold vrM at this
 simp only [bs_data] at this
 exact this
theorem reqs_f (x y:S45) (hx:x.f1.f3.size≤900000) (hy:y.f1.f3.size≤900000) (k:Nat):mani_reqs.f (k+5) x.f0 x.f1.f0 x.f1.f1 x.f1.f2 x.f1.f3 y.f0 y.f1.f0 y.f1.f1 y.f1.f2 y.f1.f3=some (cfA x y):=by
 unfold mani_reqs.f
 rw [show strings_Compare.f x.f0 y.f0=some (cmpPA x y) from rfl,Option.bind_some,cmpM_f x.f1 y.f1 hx hy k,Option.bind_some,first_two]
 rfl
theorem swaps_f (x y:S48) (hx:x.f2.f3.size≤900000) (hy:y.f2.f3.size≤900000) (k:Nat):mani_swaps.f (k+5) x.f0 x.f1 x.f2.f0 x.f2.f1 x.f2.f2 x.f2.f3 y.f0 y.f1 y.f2.f0 y.f2.f1 y.f2.f2 y.f2.f3=some (cfB x y):=by
 unfold mani_swaps.f
 rw [show strings_Compare.f x.f0 y.f0=some (cmpPB x y) from rfl,Option.bind_some,show strings_Compare.f x.f1 y.f1=some (Lib.compareBytes x.f1.data.toList y.f1.data.toList) from rfl,Option.bind_some,cmpM_f x.f2 y.f2 hx hy k,Option.bind_some,first_three]
 rfl
theorem cmpA_on (w:World) (hG:GL w):CmpA w (fun r => r.f1.f3.size≤900000) cfA:=fun x y hx hy W hW =>
 mani_reqs.calls 5 _ _ _ _ _ _ _ _ _ _ _ W (hG.below0 hW) (reqs_f x y hx hy 0)
theorem cmpB_on (w:World) (hG:GL w):CmpB w (fun r => r.f2.f3.size≤900000) cfB:=fun x y hx hy W hW =>
 mani_swaps.calls 5 _ _ _ _ _ _ _ _ _ _ _ _ _ W (hG.below0 hW) (swaps_f x y hx hy 0)
def okqR (r:S45):Bool:=(mani_req.f 60 r.f0 r.f1.f0 r.f1.f1 r.f1.f2 r.f1.f3).getD false
def OkR (r:S45):Prop:=r.f1.f3.size≤900000∧(mani_req.f 60 r.f0 r.f1.f0 r.f1.f1 r.f1.f2 r.f1.f3).isSome=true
theorem req_on (w:World) (hG:GL w) (r:S45) (h:OkR r) (W:World) (hW:Below w.heap.size w W):Calls Tryz.prog 37 #[.agg #[.string r.f0,.int .i64 r.f1.f0,.int .i64 r.f1.f1,.int .i64 r.f1.f2,.string r.f1.f3]] W fun e w' => e=.returned (.bool (okqR r))∧Below W.heap.size W w':=by
 obtain ⟨b,hb⟩:=Option.isSome_iff_exists.1 h.2
 have e:okqR r=b:=by unfold okqR;rw [hb];rfl
 rw [e]
 exact mani_req.calls 60 _ _ _ _ _ b W (hG.below0 hW) hb
def tvM (v:S43):ByteArray:=(ver_Text.f v.f0 v.f1 v.f2 v.f3).getD ⟨#[]⟩
def OkV (v:S43):Prop:=(ver_Text.f v.f0 v.f1 v.f2 v.f3).isSome=true
theorem text_on (w:World) (hG:GL w) (v:S43) (h:OkV v) (W:World) (hW:Below w.heap.size w W):Calls Tryz.prog 29 #[.agg #[.int .i64 v.f0,.int .i64 v.f1,.int .i64 v.f2,.string v.f3]] W fun e w' => e=.returned (.string (tvM v))∧Below W.heap.size W w':=by
 obtain ⟨b,hb⟩:=Option.isSome_iff_exists.1 h
 have e:tvM v=b:=by unfold tvM;rw [hb];rfl
 rw [e]
 exact ver_Text.calls _ _ _ _ b W (hG.below0 hW) hb
end Go.Proofs.YtjiidlkkkednoaaGreatDoor.Q
end
section
namespace Go.Proofs.YtjiidlkkkednoaaGreatDoor.Q
open Go Go.RowKit
def AbidesAt {β:Type} (b:Nat) (J:β→World→Prop):Prop :=
 ∀ s X Y row,J s X→X.grownBy Y row→(∀ r,row=some r→r=b)→J s Y
def SeqOn {α:Type} (F:Fence) (n:Nat) (P:Program) (g:Nat) (lb:Array Value) (encs:α→Array Value) (b:Nat) (Kp:World→World→Prop) (S Sp:List α→Prop) (G:List α→α→Prop) (w:World):Prop :=
 ∀ (l:Nat) (J Jx:List α→World→Prop) (W:World),Below w.heap.size w W→AbidesAt b J→AbidesAt b Jx →
  (∀ pre x X,J pre X→G pre x→YieldAt F (n - 1) P l (encs x) X fun e Y =>
   (e=.returned (.bool true)∧J (pre++[x]) Y∧Kp X Y)∨(e=.returned (.bool false)∧Jx (pre++[x]) Y)) →
  J [] W →
  CallsIn F n P g (#[.func (.yield l) #[] #[]]++lb) W fun e Y => (∃ v,e=.returned v)∧((∃ xs,S xs∧J xs Y)∨∃ pre,Sp pre∧Jx pre Y)
def Laid (h:Nat) (r:Loop) (W:World):Prop:=W.heap[h+1]?=some (.loop r)∧W.heap[h]?=some (.deferred (some []))
theorem Laid.lt {h:Nat} {r:Loop} {W:World} (k:Laid h r W):h+1<W.heap.size:=(Array.getElem?_eq_some_iff.1 k.1).1
theorem Laid.on {h b:Nat} {r:Loop} {X Y:World} {row:Option Nat} (k:Laid h r X) (hb:b<h) (hg:X.grownBy Y row) (hr:∀ i,row=some i→i=b):Laid h r Y:=by
 have hl:=k.lt
 have ne:∀ j,b<j→some j≠row:=fun j hj e => by have:=hr j e.symm;omega
 exact ⟨(hg.block _ hl (ne _ (by omega))).trans k.1,(hg.block _ (by omega) (ne _ (by omega))).trans k.2⟩
theorem Laid.put {h:Nat} {r:Loop} {W:World} (k:Laid h r W) (r':Loop):Laid h r' (W.putObj (h+1) (.loop r')) :=
 ⟨World.putObj_heap_same k.lt,(World.putObj_heap_other (by omega)).trans k.2⟩
theorem Laid.kept {h:Nat} {r:Loop} {W W':World} (k:Laid h r W) (hk:KeepsOthers W W'):Laid h r W':=⟨hk.same _ _ k.1 rfl,hk.same _ _ k.2 rfl⟩
variable {F:Fence} {n:Nat} {P:Program}
theorem round_end {α:Type} {h:Nat} {rec:LoopState→Option Code→Loop} (hst:∀ s p s' p',{ rec s p with state:=s',pending:=p' }=rec s' p')
  {w:World} (hh:h=w.heap.size) {Kp:World→World→Prop} (hKt:∀ {A B C:World},Kp A B→Kp B C→Kp A C)
  (hKb:∀ (W:World) (l:Nat) (o o':Obj),w.heap.size≤l→W.heap[l]?=some o→o.isCells=false→o.isWalk=false→Kp W (W.putObj l o'))
  {I:List α→World→Prop} {Ix:Code→List α→World→Prop} (hI:OwnFrom w.heap.size I) (hIx:∀ c,OwnFrom w.heap.size (Ix c)) {xs:List α} {W W2:World} (hk:Kp W W2) (hl:Laid h (rec .busy none) W2)
  (e:Exit) (a:Act) (W3:World) (hp:ownPostK Kp I Ix xs W2 e a W3) :
  roundPost P (h+1) (fun e Y => (e=.returned (.bool true)∧(I xs Y∧Laid h (rec .ready none) Y)∧Kp W Y)∨(e=.returned (.bool false)∧∃ c,Ix c xs Y∧Laid h (rec .done (some c)) Y)) e a W3:=by
 have turn:∀ (j:Option Code),KeepsOthers W2 W3→Laid h (rec .busy none) W3 ∧
   (Instr.endRound (h+1) j).run P W3=.ok (.bool j.isNone) (W3.putObj (h+1) (.loop (rec (if j.isNone then .ready else .done) j))):=fun j ho => by
  have h3:=hl.kept ho
  have:=run_endRound (P:=P) j h3.1
  rw [hst] at this
  exact ⟨h3,this⟩
 cases e with
 | normal =>
  obtain ⟨ho,hk3,hi⟩:=hp
  obtain ⟨h3,hr⟩:=turn none ho
  exact ⟨_,_,hr,.inl ⟨rfl,⟨hI.putObj _ hi (by omega) h3.1 rfl,h3.put _⟩,hKt (hKt hk hk3) (hKb _ _ _ _ (by omega) h3.1 rfl rfl)⟩⟩
 | ret =>
  obtain ⟨ho,hi⟩:=hp
  obtain ⟨h3,hr⟩:=turn (some .ret) ho
  exact ⟨_,_,hr,.inr ⟨rfl,_,(hIx _).putObj _ hi (by omega) h3.1 rfl,h3.put _⟩⟩
 | exit id =>
  obtain ⟨ho,hi⟩:=hp
  obtain ⟨h3,hr⟩:=turn (some (.exit id)) ho
  exact ⟨_,_,hr,.inr ⟨rfl,_,(hIx _).putObj _ hi (by omega) h3.1 rfl,h3.put _⟩⟩
 | goto t =>
  obtain ⟨ho,hi⟩:=hp
  obtain ⟨h3,hr⟩:=turn (some (.goto t)) ho
  exact ⟨_,_,hr,.inr ⟨rfl,_,(hIx _).putObj _ hi (by omega) h3.1 rfl,h3.put _⟩⟩
 | panic ch => exact hp.elim
 | outgrown => exact hp.elim
theorem wpIn_rangeFunc_on {α:Type} {g:Operand} {ps:Array Tmp} {assign body:Code} {Q:Exit→Act→World→Prop} {a:Act} {w:World}
  (hro:F.round=none) (h1:1≤n) {gf:Nat} {lb:Array Value} (hg:a.eval g=.func (.func gf) #[] lb) (hFg:F.fn gf) (eg:∀ args w,(callFunc gf args).run P w=.ok (.enter gf args) w)
  {encs:α→Array Value} {b:Nat} {Kp:World→World→Prop} {S Sp:List α→Prop} {G:List α→α→Prop} {w0:World} (hseq:SeqOn F (n - 1) P gf lb encs b Kp S Sp G w0) (hb:b<w.heap.size)
  (hKt:∀ {A B C:World},Kp A B→Kp B C→Kp A C) (hKb:∀ (W:World) (l:Nat) (o o':Obj),w.heap.size≤l→W.heap[l]?=some o→o.isCells=false→o.isWalk=false→Kp W (W.putObj l o')) (hb0:Below w0.heap.size w0 w) (hps:∀ x,(encs x).size=ps.size)
  (I:List α→World→Prop) (Ix:Code→List α→World→Prop) (hI:OwnFrom w.heap.size I) (hIx:∀ c,OwnFrom w.heap.size (Ix c)) (hIb:AbidesAt b I) (hIxb:∀ c,AbidesAt b (Ix c)) (h0:I [] w) (a₁:α→Act)
  (hassign:∀ (l:Nat) (x:α) (W:World) (K:Act→World→Prop),K (a₁ x) W →
   assign.wpIn (F.inRound l) (n - 1 - 1) P (Exit.then K (fun _ _ _ => False)) { tmps:=(ps.zip (encs x)).foldl (fun t (p,v) => t.setIfInBounds p v) a.tmps,defers:=[] } W)
  (hbody:∀ (l:Nat) (pre:List α) (x:α) (W:World),I pre W→G pre x→body.wpIn (F.inRound l) (n - 1 - 1) P (ownPostK Kp I Ix (pre++[x]) W) (a₁ x) W)
  (hdone:∀ (D:Nat) (xs:List α) (W:World),w.heap.size≤D→S xs→I xs W→W.heap[D]?=some (.deferred (some []))→Q .normal { a with defers:={ target:=.collected D,args:=#[] } :: a.defers } W)
  (hstop:∀ (D:Nat) (c:Code) (pre:List α) (W:World),w.heap.size≤D→Sp pre→Ix c pre W→W.heap[D]?=some (.deferred (some []))→c.wpIn F n P Q { a with defers:={ target:=.collected D,args:=#[] } :: a.defers } W) :
  (Code.rangeFunc g ps assign body).wpIn F n P Q a w:=by
 refine wpIn_rangeFunc fun fn hfn => ?_
 rw [hro]
 generalize hh:w.heap.size=h at *
 obtain ⟨rec,hrec⟩:∃ rec:LoopState→Option Code→Loop,rec=fun s p => { state:=s,pending:=p,fn,tmps:=a.tmps,params:=ps,assign,body,defers:=h }:=⟨_,rfl⟩
 have hst:∀ s p s' p',{ rec s p with state:=s',pending:=p' }=rec s' p':=fun s p s' p' => by rw [hrec]
 obtain ⟨w1,hw1⟩:∃ w1,(w.alloc (.deferred (some []))).alloc (.loop (rec .ready none))=w1:=⟨_,rfl⟩
 have hz1:w1.heap.size=h+2:=by rw [← hw1,World.size_alloc,World.size_alloc,hh]
 have hlaid:Laid h (rec .ready none) w1:=by
  subst hh
  rw [← hw1]
  refine ⟨?_,?_⟩
  ·have:=World.alloc_heap_new (w.alloc (.deferred (some []))) (.loop (rec .ready none))
   rwa [World.size_alloc] at this
  ·exact (Below.heap_alloc _ _ _ (by simp)).trans (World.alloc_heap_new w _)
 have hI1:I [] w1:=by rw [← hw1];exact hI.alloc _ (hI.alloc _ h0)
 have hb1:Below w0.heap.size w0 w1:=by
  rw [← hw1]
  exact hb0.trans ((((Below.refl _ w).alloc (Nat.le_refl _) _).alloc (by simp) _).mono hb0.size)
 have henter:=run_enterLoop_outer (P:=P) (w:=w) fn a.tmps ps assign body
 rw [hh] at henter
 have hw1':=hw1
 rw [hrec] at hw1'
 rw [hw1'] at henter
 refine ⟨h+1,[{ target:=.collected h,args:=#[] }],w1,{ target:=.fn (.func gf) lb,args:=#[.func (.yield (h+1)) #[] #[]] },w1,gf,
  #[.func (.yield (h+1)) #[] #[]]++lb,w1,henter,?_,?_,?_,fun _ => h1,?_⟩
 ·simp only [resolve,hg]
  simp [go_sem]
 ·intro f' hf'
  simp [Target.leads] at hf'
  exact hf' ▸ hFg
 ·simp [invoke,go_sem,eg]
 refine (hseq (h+1) (fun pre W => I pre W∧Laid h (rec .ready none) W) (fun pre W => ∃ c,Ix c pre W∧Laid h (rec .done (some c)) W) w1 hb1
  (fun s X Y row hs hg' hr => ⟨hIb s X Y row hs.1 hg' hr,hs.2.on (by omega) hg' hr⟩)
  (fun s X Y row hs hg' hr => by
   obtain ⟨c,hc,hl⟩:=hs
   exact ⟨c,hIxb c s X Y row hc hg' hr,hl.on (by omega) hg' hr⟩) ?_ ⟨hI1,hlaid⟩).mono ?_
 ·rintro pre x W ⟨hi,hl⟩ hlen
  have hy:=run_yield (P:=P) (args:=encs x) hl.1 (by rw [hrec];exact hps x)
  rw [hrec] at hy
  have hbeg:=run_beginRound (P:=P) hl.1 (by rw [hrec])
  have e1:({ rec .ready none with state:=.busy }:Loop)=rec .busy none:=by rw [hrec]
  rw [e1] at hbeg
  refine ⟨fn,_,assign,body,hy,roundIn_of_wpIn hfn (hassign _ x W _ ⟨_,hbeg,?_⟩)⟩
  subst hh
  refine wpIn_mono (hbody _ pre x _ (hI.putObj _ hi (by omega) hl.1 rfl) hlen) fun e a3 W3 hp => ?_
  exact round_end (Kp:=Kp) hst rfl hKt hKb hI hIx (hKb _ _ _ _ (by omega) hl.1 rfl rfl) (hl.put _) e a3 W3 hp
 ·rintro e W2 ⟨⟨v,rfl⟩,(⟨xs,hS,hi,hl⟩|⟨pre,hSp,c,hi,hl⟩)⟩
  ·have he:=run_endLoop (P:=P) hl.1 (by rw [hrec];simp)
   refine ⟨_,_,he,?_⟩
   have e1:(rec .ready none).pending=none:=by rw [hrec]
   rw [e1]
   exact hdone h xs _ (Nat.le_refl _) hS (hI.putObj _ hi (by omega) hl.1 rfl) (hl.put _).2
  ·have he:=run_endLoop (P:=P) hl.1 (by rw [hrec];simp)
   refine ⟨_,_,he,?_⟩
   have e1:(rec .done (some c)).pending=some c:=by rw [hrec]
   rw [e1]
   exact hstop h c pre _ (Nat.le_refl _) hSp ((hIx c).putObj _ hi (by omega) hl.1 rfl) (hl.put _).2
end Go.Proofs.YtjiidlkkkednoaaGreatDoor.Q
end
section
namespace Go.Proofs.YtjiidlkkkednoaaGreatDoor.Q
open Go.RowKit Go.Shelf Go.Proofs.YtjiidlkkkednoaaGreatDoorW.PrintWords
attribute [local go_sem] Oper.semAt_some
def ofL (l:List UInt8):ByteArray:=⟨l.toArray⟩
theorem ofL_data (l:List UInt8):(ofL l).data.toList=l:=by simp [ofL]
theorem extract_front (s:ByteArray) (i:Nat):s.extract 0 i=ofL (s.data.toList.take i):=by
 obtain ⟨⟨l⟩⟩:=s
 apply ByteArray.ext
 simp [ofL,ByteArray.data_extract]
theorem extract_back (s:ByteArray) (i:Nat):s.extract i s.size=ofL (s.data.toList.drop i):=by
 obtain ⟨⟨l⟩⟩:=s
 apply ByteArray.ext
 have e:(ByteArray.mk ⟨l⟩).size=l.length:=rfl
 rw [e]
 simp [ofL,ByteArray.data_extract]
 exact List.take_of_length_le (by simp)
def lists (l:List ByteArray):List (List UInt8):=l.map fun x => x.data.toList
theorem lists_snoc (l:List ByteArray) (x:ByteArray):lists (l++[x])=lists l++[x.data.toList]:=by simp [lists]
def Comes (s:List UInt8) (pre:List ByteArray) (x:ByteArray):Prop:=∃ qs,lists pre++x.data.toList :: qs=pieces s
def restLen (b:Nat) (w:World):Nat:=match w.cell? ⟨b,0,none⟩ with|some (.string r) => r.size|_ => 0
theorem restLen_eq {b:Nat} {w:World} {r:ByteArray} (h:Blk w b 9 #[.string r]):restLen b w=r.size:=by
 have h0:=h.cell 0
 simp only [restLen,h0]
 rfl
set_option maxRecDepth 100000 in
set_option maxHeartbeats 2000000 in
theorem split_in (F:Fence) (n:Nat) (hf:F.fn 99) (hi:F.fn 97) (hro:F.round=none) (hn:1≤n)
  (hidx:∀ (r:ByteArray) (w:World),CallsIn F (n - 1) Tryz.prog 97 #[.string r,.string ⟨#[10]⟩] w fun e w' => e=.returned (.int .i64 (Lib.indexByte r.data.toList 10))∧w'=w)
  (l bs bp bk:Nat) (s:ByteArray) (hs:s.size≤140737488351232) (J Jx:List ByteArray→World→Prop) (hJ:AbidesAt bs J) (hJx:AbidesAt bs Jx)
  (hY:∀ pre x W,J pre W→Comes s.data.toList pre x→YieldAt F (n - 1) Tryz.prog l #[.string x] W fun e W' =>
   (e=.returned (.bool true)∧J (pre++[x]) W'∧(W'.heap[bs]?=W.heap[bs]?∧W'.heap[bp]?=W.heap[bp]?∧W'.heap[bk]?=W.heap[bk]?))∨(e=.returned (.bool false)∧Jx (pre++[x]) W'))
  (hne:bs≠bp∧bs≠bk)
  (W:World) (h1:Blk W bs 9 #[.string s]) (h2:Blk W bp 9 #[.string ⟨#[10]⟩]) (h3:Blk W bk 3 #[.int .i64 1]) (h0:J [] W) :
  CallsIn F n Tryz.prog 99 #[.func (.yield l) #[] #[],.pointer (some ⟨bp,0,none⟩),.pointer (some ⟨bs,0,none⟩),.pointer (some ⟨bk,0,none⟩)] W fun e W' => (∃ v,e=.returned v) ∧
   ((∃ ys,lists ys=pieces s.data.toList∧J ys W')∨(∃ pre,True∧Jx pre W')):=by
 have c1:=h1.cell 0
 have c2:=h2.cell 0
 have c3:=h3.cell 0
 refine callsIn_of_wp Tryz.func99 rfl hf ?_ hro
 simp only [Tryz.ntmps99,List.size_toArray,List.length_cons,List.length_nil,Nat.reduceAdd,Nat.reduceSub,Array.replicate_succ,Array.replicate_zero,List.push_toArray,List.append_toArray,List.nil_append,List.cons_append]
 gi_wp2
 gi_loopw [7] (fun _ wr => ∃ (pre:List ByteArray) (r:ByteArray),lists pre++pieces r.data.toList=pieces s.data.toList∧r.size≤s.size∧Blk wr bs 9 #[.string r]∧Blk wr bp 9 #[.string ⟨#[10]⟩]∧Blk wr bk 3 #[.int .i64 1]∧J pre wr) (fun _ wr => restLen bs wr)
 case atStart => exact ⟨[],s,rfl,Nat.le_refl _,h1,h2,h3,h0⟩
 case round =>
  obtain ⟨pre,r,hp,hz,b1,b2,b3,hj⟩:=hrel
  have c1:=b1.cell 0
  have c2:=b2.cell 0
  have c3:=b3.cell 0
  rcases pieces_index r.data.toList with ⟨hi1,hp1⟩|⟨i,hi1,hi2,hp1⟩
  ·obtain ⟨fn,tmps,assign,body,hy,hR⟩:=hY pre r wr hj ⟨[],by rw [← hp,hp1]⟩
   rw [hp1] at hp
   gi_wp2_with (gi_at_call 97;refine (hidx _ _).mono ?_;rintro e w' ⟨rfl,rfl⟩;rw [hi1])
   refine hR.mono ?_
   rintro e W' (⟨rfl,hJ',hk⟩|⟨rfl,hJx'⟩)
   ·gi_wp2
    go_end0
    exact ⟨⟨_,rfl⟩,.inl ⟨pre++[r],by rw [lists_snoc];exact hp,hJ'⟩⟩
   ·gi_wp2
    go_end0
    exact ⟨⟨_,rfl⟩,.inr ⟨pre++[r],trivial,hJx'⟩⟩
  ·have hrl:r.data.toList.length=r.size:=by simp
   have hpx:lists pre++(r.extract 0 (i+1)).data.toList :: pieces (r.data.toList.drop (i+1))=pieces s.data.toList:=by
    rw [extract_front,ofL_data,← hp1]
    exact hp
   obtain ⟨fn,tmps,assign,body,hy,hR⟩:=hY pre (r.extract 0 (i+1)) wr hj ⟨_,hpx⟩
   have hw:IntKind.i64.wrap ((i:Int)+1)=((i+1:Nat):Int):=by rw [IntWalk.i64_in _ ⟨by omega,by omega⟩];rfl
   have hb:(0:Int)≤((i+1:Nat):Int)∧((i+1:Nat):Int)≤(r.size:Int):=⟨by omega,by omega⟩
   gi_wp2_with (gi_at_call 97;refine (hidx _ _).mono ?_;rintro e w' ⟨rfl,rfl⟩;rw [hi1])
   refine hR.mono ?_
   rintro e W' (⟨rfl,hJ',hk1,hk2,hk3⟩|⟨rfl,hJx'⟩)
   ·have b1':Blk W' bs 9 #[.string r]:=hk1.trans b1
    have b2':Blk W' bp 9 #[.string ⟨#[10]⟩]:=hk2.trans b2
    have b3':Blk W' bk 3 #[.int .i64 1]:=hk3.trans b3
    have d1:=b1'.cell 0
    have d2:=b2'.cell 0
    have g1:=b1'.unfrozen 0
    gi_wp2
    go_roundw
    case rel =>
     refine ⟨pre++[r.extract 0 (i+1)],r.extract (i+1) r.size,?_,?_,b1'.put 0 _,b2'.far (fun e => hne.1 e.symm) _,b3'.far (fun e => hne.2 e.symm) _,?_⟩
     ·rw [lists_snoc,List.append_assoc,extract_back,ofL_data]
      exact hpx
     ·rw [ByteArray.size_extract];omega
     ·exact hJ _ _ _ (some bs) hJ' (grownBy_setCell' _ _ _) (fun r e => by cases e;rfl)
    case measure =>
     rw [restLen_eq b1,restLen_eq (b1'.put 0 _)]
     rw [ByteArray.size_extract]
     omega
   ·gi_wp2
    refine bodyPost_ret (results_none rfl _ _ _) rfl ?_
    exact ⟨⟨_,rfl⟩,.inr ⟨pre++[r.extract 0 (i+1)],trivial,hJx'⟩⟩
theorem split_seq (F:Fence) (n:Nat) (hf:F.fn 99) (hi:F.fn 97) (hro:F.round=none) (hn:1≤n)
  (hidx:∀ (r:ByteArray) (w:World),CallsIn F (n - 1) Tryz.prog 97 #[.string r,.string ⟨#[10]⟩] w fun e w' => e=.returned (.int .i64 (Lib.indexByte r.data.toList 10))∧w'=w)
  (bs bp bk:Nat) (s:ByteArray) (hs:s.size≤140737488351232) (hne:bs≠bp∧bs≠bk) (w:World)
  (h1:Blk w bs 9 #[.string s]) (h2:Blk w bp 9 #[.string ⟨#[10]⟩]) (h3:Blk w bk 3 #[.int .i64 1]) :
  SeqOn F n Tryz.prog 99 #[.pointer (some ⟨bp,0,none⟩),.pointer (some ⟨bs,0,none⟩),.pointer (some ⟨bk,0,none⟩)] (fun x:ByteArray => #[.string x]) bs
   (fun A B => B.heap[bs]?=A.heap[bs]?∧B.heap[bp]?=A.heap[bp]?∧B.heap[bk]?=A.heap[bk]?) (fun ys => lists ys=pieces s.data.toList) (fun _ => True) (Comes s.data.toList) w :=
 fun l J Jx W hW hJ hJx hY h0 => split_in F n hf hi hro hn hidx l bs bp bk s hs J Jx hJ hJx hY hne W (h1.below hW) (h2.below hW) (h3.below hW) h0
end Go.Proofs.YtjiidlkkkednoaaGreatDoor.Q
end
section
namespace Go.Proofs.YtjiidlkkkednoaaGreatDoor.Q
open Go.RowKit Go.Shelf Go.Proofs.YtjiidlkkkednoaaGreatDoorW.PrintWords
theorem results_c {P:Program} {fn:Func} {p:Tmp} {ty:TypeId} (h:fn.results=#[.cell p ty]) (tmps:Array Value) (w:World) (g:Nat) (t:TypeId) (cs:Array Value) (fr:Nat × Nat) (d:TypeDesc)
  (hp:tmps.getD p undef=.pointer (some ⟨g,0,none⟩)) (hg:w.heap[g]?=some (.cells cs t fr))
  (hu:P.underlying ty=some d) (hd:(match d with|.struct _|.array _ _ => true|_ => false)=true) (hi:(P.info? ty).map (·.size)=some cs.size) :
  (results fn tmps).run P w=.ok (.agg cs) w:=by
 have hp':tmps[p]?.getD undef=.pointer (some ⟨g,0,none⟩):=by simpa using hp
 simp [results,h,hp',asAddr,run_loadVar_row w g t ty cs fr d hg hu hd hi]
theorem keepP {W:World} {P:Nat} {x0 x1 x2 x3:Value} (h:W.cell? ⟨P,0,none⟩=some x0∧W.cell? ⟨P,1,none⟩=some x1∧W.cell? ⟨P,2,none⟩=some x2∧W.cell? ⟨P,3,none⟩=some x3) (u0 u1 u2 u3:Value) :
  ((((W.setCell ⟨P+1,0,none⟩ u0).setCell ⟨P+1,1,none⟩ u1).setCell ⟨P+1,2,none⟩ u2).setCell ⟨P+1,3,none⟩ u3).cell? ⟨P,0,none⟩=some x0∧((((W.setCell ⟨P+1,0,none⟩ u0).setCell ⟨P+1,1,none⟩ u1).setCell ⟨P+1,2,none⟩ u2).setCell ⟨P+1,3,none⟩ u3).cell? ⟨P,1,none⟩=some x1∧((((W.setCell ⟨P+1,0,none⟩ u0).setCell ⟨P+1,1,none⟩ u1).setCell ⟨P+1,2,none⟩ u2).setCell ⟨P+1,3,none⟩ u3).cell? ⟨P,2,none⟩=some x2∧((((W.setCell ⟨P+1,0,none⟩ u0).setCell ⟨P+1,1,none⟩ u1).setCell ⟨P+1,2,none⟩ u2).setCell ⟨P+1,3,none⟩ u3).cell? ⟨P,3,none⟩=some x3:=by
 have e:((((W.setCell ⟨P+1,0,none⟩ u0).setCell ⟨P+1,1,none⟩ u1).setCell ⟨P+1,2,none⟩ u2).setCell ⟨P+1,3,none⟩ u3).heap[P]?=W.heap[P]?:=by
  rw [Below.heap_setCell _ _ _ _ (by simp),Below.heap_setCell _ _ _ _ (by simp),Below.heap_setCell _ _ _ _ (by simp),Below.heap_setCell _ _ _ _ (by simp)]
 have f:∀ i,((((W.setCell ⟨P+1,0,none⟩ u0).setCell ⟨P+1,1,none⟩ u1).setCell ⟨P+1,2,none⟩ u2).setCell ⟨P+1,3,none⟩ u3).cell? ⟨P,i,none⟩=W.cell? ⟨P,i,none⟩:=fun i => by simp only [World.cell?,e]
 rw [f,f,f,f]
 exact h
theorem hasA_slice {w:World} {base:Nat} {v:Value} {l:List S45} (h:HasA w base v l):∃ A n c,v=.slice A n c:=by
 rcases h with ⟨rfl,_⟩|⟨g,c,z,rfl,_⟩
 ·exact ⟨_,_,_,rfl⟩
 ·exact ⟨_,_,_,rfl⟩
theorem hasB_slice {w:World} {base:Nat} {v:Value} {l:List S48} (h:HasB w base v l):∃ A n c,v=.slice A n c:=by
 rcases h with ⟨rfl,_⟩|⟨g,c,z,rfl,_⟩
 ·exact ⟨_,_,_,rfl⟩
 ·exact ⟨_,_,_,rfl⟩
set_option maxHeartbeats 4000000 in
set_option maxRecDepth 100000 in
theorem norm_calls (w:World) {OkA:S45→Prop} {cfA:S45→S45→Int} {OkB:S48→Prop} {cfB:S48→S48→Int}
  (hCA:CmpA w OkA cfA) (hCB:CmpB w OkB cfB) (mo:ByteArray) (A1 A2 A3:Option Addr) (c1 c2 c3:Nat) (l1 l2:List S45) (l3:List S48)
  (r1:Kd.C k45 w A1 l1.length l1) (h1:l1.length≤c1) (n1:l1.length≤20) (o1:∀ x ∈ l1,OkA x)
  (r2:Kd.C k45 w A2 l2.length l2) (h2:l2.length≤c2) (n2:l2.length≤20) (o2:∀ x ∈ l2,OkA x)
  (r3:Kd.C k48 w A3 l3.length l3) (h3:l3.length≤c3) (n3:l3.length≤20) (o3:∀ x ∈ l3,OkB x) :
  Calls Tryz.prog 18 #[.agg #[.string mo,.slice A1 l1.length c1,.slice A2 l2.length c2,.slice A3 l3.length c3]] w fun e w' =>
   ∃ v1 v2 v3,e=.returned (.agg #[.string mo,v1,v2,v3])∧HasA w' w.heap.size v1 (normA cfA l1)∧HasA w' w.heap.size v2 (normA cfA l2)∧HasB w' w.heap.size v3 (normB cfB l3)∧Below w.heap.size w w':=by
 have F1:Hid (∀ W,Below w.heap.size w W→Calls Tryz.prog 46 #[.slice A1 l1.length c1,.func (.func 41) #[] #[]] W fun e w' => ∃ v,e=.returned v∧HasA w' W.heap.size v (normA cfA l1)∧Below W.heap.size W w') :=
  Lib.hid fun W hb => sortA_calls W (hCA.on hb) A1 c1 l1 (Kd.C_below r1 hb) h1 n1 o1
 have F2:Hid (∀ W,Below w.heap.size w W→Calls Tryz.prog 46 #[.slice A2 l2.length c2,.func (.func 41) #[] #[]] W fun e w' => ∃ v,e=.returned v∧HasA w' W.heap.size v (normA cfA l2)∧Below W.heap.size W w') :=
  Lib.hid fun W hb => sortA_calls W (hCA.on hb) A2 c2 l2 (Kd.C_below r2 hb) h2 n2 o2
 have F3:Hid (∀ W,Below w.heap.size w W→Calls Tryz.prog 47 #[.slice A3 l3.length c3,.func (.func 48) #[] #[]] W fun e w' => ∃ v,e=.returned v∧HasB w' W.heap.size v (normB cfB l3)∧Below W.heap.size W w') :=
  Lib.hid fun W hb => sortB_calls W (hCB.on hb) A3 c3 l3 (Kd.C_below r3 hb) h3 n3 o3
 clear hCA hCB r1 r2 r3 o1 o2 o3
 generalize l1.length=m1 at *
 generalize l2.length=m2 at *
 generalize l3.length=m3 at *
 have hu:=Tryz.underlying27
 go_enter Tryz.func18,Tryz.ntmps18
 go_wp2_with (fail)
 generalize hW:(w.alloc _).alloc _=W0
 have hb0:Below w.heap.size w W0:=by rw [← hW];exact ((Below.refl _ w).alloc (Nat.le_refl _) _).alloc (by simp) _
 have hz0:Blk W0 (w.heap.size+1) 27 #[.string ⟨#[]⟩,.slice none 0 0,.slice none 0 0,.slice none 0 0]:=by
  rw [← hW]
  have:=Blk.new (w.alloc (.cells #[.string mo,.slice A1 m1 c1,.slice A2 m2 c2,.slice A3 m3 c3] 27)) 27 #[.string ⟨#[]⟩,.slice none 0 0,.slice none 0 0,.slice none 0 0]
  rwa [World.size_alloc] at this
 have hp0:Blk W0 w.heap.size 27 #[.string mo,.slice A1 m1 c1,.slice A2 m2 c2,.slice A3 m3 c3]:=by rw [← hW];exact (Blk.new w _ _).alloc _
 have k0:=hp0.cell 0
 have k1:=hp0.cell 1
 have k2:=hp0.cell 2
 have k3:=hp0.cell 3
 have HB0:=Lib.hid hb0
 have HZ0:=Lib.hid hz0
 clear hb0 hz0 hp0 hW
 generalize hP:w.heap.size=P at *
 go_region_held3 (fun w' => w'.cell? ⟨P,0,none⟩=some (.string mo)∧w'.cell? ⟨P,1,none⟩=some (.slice A1 m1 c1)∧w'.cell? ⟨P,2,none⟩=some (.slice A2 m2 c2)∧w'.cell? ⟨P,3,none⟩=some (.slice A3 m3 c3))
  (first|exact hkk|exact keepP hkk _ _ _ _|exact ⟨k0,k1,k2,k3⟩)
  (first
   | (go_at_call 46;((with_reducible refine (F1.out _ HB0.out.drew).mono ?_));rintro e w1 ⟨v1,rfl,hv,hbk⟩;obtain ⟨a1,m1',d1,rfl⟩:=hasA_slice hv;have Hv1:=Lib.hid hv;have HBw1:=Lib.hid (below_then HB0.out.drew (by rw [← hP];exact HB0.out.drew.size) hbk);have HKw1:=Lib.hid hbk;have hkk:w1.cell? ⟨P,0,none⟩=some (.string mo)∧w1.cell? ⟨P,1,none⟩=some (.slice A1 m1 c1)∧w1.cell? ⟨P,2,none⟩=some (.slice A2 m2 c2)∧w1.cell? ⟨P,3,none⟩=some (.slice A3 m3 c3):=⟨pw_cell_below hbk k0,pw_cell_below hbk k1,pw_cell_below hbk k2,pw_cell_below hbk k3⟩;have HKKw1:=Lib.hid hkk)
   | (go_at_call 46;((with_reducible refine (F2.out _ HBw1.out).mono ?_));rintro e w2 ⟨v2,rfl,hv,hbk⟩;obtain ⟨a2,m2',d2,rfl⟩:=hasA_slice hv;have Hv2:=Lib.hid hv;have HBw2:=Lib.hid (below_then HBw1.out (by rw [← hP];exact HBw1.out.size) hbk);have HKw2:=Lib.hid hbk;have hkk:w2.cell? ⟨P,0,none⟩=some (.string mo)∧w2.cell? ⟨P,1,none⟩=some (.slice A1 m1 c1)∧w2.cell? ⟨P,2,none⟩=some (.slice A2 m2 c2)∧w2.cell? ⟨P,3,none⟩=some (.slice A3 m3 c3):=⟨pw_cell_below hbk HKKw1.out.1,pw_cell_below hbk HKKw1.out.2.1,pw_cell_below hbk HKKw1.out.2.2.1,pw_cell_below hbk HKKw1.out.2.2.2⟩;have HKKw2:=Lib.hid hkk)
   | (go_at_call 47;((with_reducible refine (F3.out _ HBw2.out).mono ?_));rintro e w3 ⟨v3,rfl,hv,hbk⟩;obtain ⟨a3,m3',d3,rfl⟩:=hasB_slice hv;have Hv3:=Lib.hid hv;have HBw3:=Lib.hid (below_then HBw2.out (by rw [← hP];exact HBw2.out.size) hbk);have HKw3:=Lib.hid hbk;have hkk:w3.cell? ⟨P,0,none⟩=some (.string mo)∧w3.cell? ⟨P,1,none⟩=some (.slice A1 m1 c1)∧w3.cell? ⟨P,2,none⟩=some (.slice A2 m2 c2)∧w3.cell? ⟨P,3,none⟩=some (.slice A3 m3 c3):=⟨pw_cell_below hbk HKKw2.out.1,pw_cell_below hbk HKKw2.out.2.1,pw_cell_below hbk HKKw2.out.2.2.1,pw_cell_below hbk HKKw2.out.2.2.2⟩;have HKKw3:=Lib.hid hkk;have hz:=((HZ0.out.drew.below HKw1.out).below HKw2.out).below hbk;have y0:=hz.cell 0;have y1:=hz.cell 1;have y2:=hz.cell 2;have y3:=hz.cell 3;have u0:=hz.unfrozen 0;have u1:=hz.unfrozen 1;have u2:=hz.unfrozen 2;have u3:=hz.unfrozen 3;have HZ3:=Lib.hid hz;clear hz))
 all_goals go_wp2_with (fail)
 all_goals (
  have hblk:=(((HZ3.out.put 0 (.string mo)).put 1 (.slice a1 m1' d1)).put 2 (.slice a2 m2' d2)).put 3 (.slice a3 m3' d3)
  refine bodyPost_ret (results_c rfl _ _ (P+1) 27 #[.string mo,.slice a1 m1' d1,.slice a2 m2' d2,.slice a3 m3' d3] (0,0) _ rfl hblk hu rfl (by kernel_rfl)) rfl ?_
  have hlt:P+1<W0.heap.size:=HZ0.out.lt
  have s1:W0.heap.size≤w1.heap.size:=HKw1.out.size
  have s2:w1.heap.size≤w2.heap.size:=HKw2.out.size
  have g1:=((((((Hv1.out.below HKw2.out).below HKw3.out).put (q:=P+1) (i:=0) (by show _<W0.heap.size;omega) (.string mo)).put (q:=P+1) (i:=1) (by show _<W0.heap.size;omega) (.slice a1 m1' d1)).put (q:=P+1) (i:=2) (by show _<W0.heap.size;omega) (.slice a2 m2' d2)).put (q:=P+1) (i:=3) (by show _<W0.heap.size;omega) (.slice a3 m3' d3)).lower (base':=P) (by show _≤W0.heap.size;omega)
  have g2:=(((((Hv2.out.below HKw3.out).put (q:=P+1) (i:=0) (by omega) (.string mo)).put (q:=P+1) (i:=1) (by omega) (.slice a1 m1' d1)).put (q:=P+1) (i:=2) (by omega) (.slice a2 m2' d2)).put (q:=P+1) (i:=3) (by omega) (.slice a3 m3' d3)).lower (base':=P) (by omega)
  have g3:=((((Hv3.out.put (q:=P+1) (i:=0) (by omega) (.string mo)).put (q:=P+1) (i:=1) (by omega) (.slice a1 m1' d1)).put (q:=P+1) (i:=2) (by omega) (.slice a2 m2' d2)).put (q:=P+1) (i:=3) (by omega) (.slice a3 m3' d3)).lower (base':=P) (by omega)
  have hq:P≤P+1:=Nat.le_succ _
  subst hP
  exact ⟨_,_,_,rfl,g1,g2,g3,(((HBw3.out.setCell (p:=⟨_,0,none⟩) hq (.string mo)).setCell (p:=⟨_,1,none⟩) hq (.slice a1 m1' d1)).setCell (p:=⟨_,2,none⟩) hq (.slice a2 m2' d2)).setCell (p:=⟨_,3,none⟩) hq (.slice a3 m3' d3)⟩)
end Go.Proofs.YtjiidlkkkednoaaGreatDoor.Q
end
