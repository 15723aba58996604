import Derived.RangeFuncFrom
set_option linter.unusedVariables false
set_option linter.unusedSimpArgs false
namespace Go.Proofs.YtjdjljgbfpkbdaaGreatDoor.Q
open Go Go.RowKit
def AbidesAt {β:Type} (b:Nat) (J:β→World→Prop):Prop :=
 ∀ s X Y row,J s X→X.grownBy Y row→(∀ r,row=some r→r=b)→J s Y
def SeqOn {α:Type} (F:Fence) (n:Nat) (P:Program) (g:Nat) (lb:Array Value) (encs:α→Array Value) (b:Nat) (Kp:World→World→Prop) (S Sp:List α→Prop) (G:List α→α→Prop) (w:World):Prop :=
 ∀ (l:Nat) (J Jx:List α→World→Prop) (W:World),Below w.heap.size w W→AbidesAt b J→AbidesAt b Jx →
  (∀ pre x X,J pre X→G pre x→YieldAt F (n - 1) P l (encs x) X fun e Y =>
   (e=.returned (.bool true)∧J (pre++[x]) Y∧Kp X Y)∨(e=.returned (.bool false)∧Jx (pre++[x]) Y)) →
  J [] W →
  CallsIn F n P g (#[.func (.yield l) #[] #[]]++lb) W fun e Y => (∃ v,e=.returned v)∧((∃ xs,S xs∧J xs Y)∨∃ pre,Sp pre∧Jx pre Y)
def Laid (h:Nat) (r:Loop) (W:World):Prop:=W.heap[h+1]?=some (.loop r)∧W.heap[h]?=some (.deferred (some []))
theorem Laid.lt {h:Nat} {r:Loop} {W:World} (k:Laid h r W):h+1<W.heap.size:=(Array.getElem?_eq_some_iff.1 k.1).1
theorem Laid.on {h b:Nat} {r:Loop} {X Y:World} {row:Option Nat} (k:Laid h r X) (hb:b<h) (hg:X.grownBy Y row) (hr:∀ i,row=some i→i=b):Laid h r Y:=by
 have hl:=k.lt
 have ne:∀ j,b<j→some j≠row:=fun j hj e => by have:=hr j e.symm;omega
 exact ⟨(hg.block _ hl (ne _ (by omega))).trans k.1,(hg.block _ (by omega) (ne _ (by omega))).trans k.2⟩
theorem Laid.put {h:Nat} {r:Loop} {W:World} (k:Laid h r W) (r':Loop):Laid h r' (W.putObj (h+1) (.loop r')) :=
 ⟨World.putObj_heap_same k.lt,(World.putObj_heap_other (by omega)).trans k.2⟩
theorem Laid.kept {h:Nat} {r:Loop} {W W':World} (k:Laid h r W) (hk:KeepsOthers W W'):Laid h r W':=⟨hk.same _ _ k.1 rfl,hk.same _ _ k.2 rfl⟩
variable {F:Fence} {n:Nat} {P:Program}
theorem round_end {α:Type} {h:Nat} {rec:LoopState→Option Code→Loop} (hst:∀ s p s' p',{ rec s p with state:=s',pending:=p' }=rec s' p')
  {w:World} (hh:h=w.heap.size) {Kp:World→World→Prop} (hKt:∀ {A B C:World},Kp A B→Kp B C→Kp A C)
  (hKb:∀ (W:World) (l:Nat) (o o':Obj),w.heap.size≤l→W.heap[l]?=some o→o.isCells=false→o.isWalk=false→Kp W (W.putObj l o'))
  {I:List α→World→Prop} {Ix:Code→List α→World→Prop} (hI:OwnFrom w.heap.size I) (hIx:∀ c,OwnFrom w.heap.size (Ix c)) {xs:List α} {W W2:World} (hk:Kp W W2) (hl:Laid h (rec .busy none) W2)
  (e:Exit) (a:Act) (W3:World) (hp:ownPostK Kp I Ix xs W2 e a W3) :
  roundPost P (h+1) (fun e Y => (e=.returned (.bool true)∧(I xs Y∧Laid h (rec .ready none) Y)∧Kp W Y)∨(e=.returned (.bool false)∧∃ c,Ix c xs Y∧Laid h (rec .done (some c)) Y)) e a W3:=by
 have turn:∀ (j:Option Code),KeepsOthers W2 W3→Laid h (rec .busy none) W3 ∧
   (Instr.endRound (h+1) j).run P W3=.ok (.bool j.isNone) (W3.putObj (h+1) (.loop (rec (if j.isNone then .ready else .done) j))):=fun j ho => by
  have h3:=hl.kept ho
  have:=run_endRound (P:=P) j h3.1
  rw [hst] at this
  exact ⟨h3,this⟩
 cases e with
 | normal =>
  obtain ⟨ho,hk3,hi⟩:=hp
  obtain ⟨h3,hr⟩:=turn none ho
  exact ⟨_,_,hr,.inl ⟨rfl,⟨hI.putObj _ hi (by omega) h3.1 rfl,h3.put _⟩,hKt (hKt hk hk3) (hKb _ _ _ _ (by omega) h3.1 rfl rfl)⟩⟩
 | ret =>
  obtain ⟨ho,hi⟩:=hp
  obtain ⟨h3,hr⟩:=turn (some .ret) ho
  exact ⟨_,_,hr,.inr ⟨rfl,_,(hIx _).putObj _ hi (by omega) h3.1 rfl,h3.put _⟩⟩
 | exit id =>
  obtain ⟨ho,hi⟩:=hp
  obtain ⟨h3,hr⟩:=turn (some (.exit id)) ho
  exact ⟨_,_,hr,.inr ⟨rfl,_,(hIx _).putObj _ hi (by omega) h3.1 rfl,h3.put _⟩⟩
 | goto t =>
  obtain ⟨ho,hi⟩:=hp
  obtain ⟨h3,hr⟩:=turn (some (.goto t)) ho
  exact ⟨_,_,hr,.inr ⟨rfl,_,(hIx _).putObj _ hi (by omega) h3.1 rfl,h3.put _⟩⟩
 | panic ch => exact hp.elim
 | outgrown => exact hp.elim
theorem wpIn_rangeFunc_on {α:Type} {g:Operand} {ps:Array Tmp} {assign body:Code} {Q:Exit→Act→World→Prop} {a:Act} {w:World}
  (hro:F.round=none) (h1:1≤n) {gf:Nat} {lb:Array Value} (hg:a.eval g=.func (.func gf) #[] lb) (hFg:F.fn gf) (eg:∀ args w,(callFunc gf args).run P w=.ok (.enter gf args) w)
  {encs:α→Array Value} {b:Nat} {Kp:World→World→Prop} {S Sp:List α→Prop} {G:List α→α→Prop} {w0:World} (hseq:SeqOn F (n - 1) P gf lb encs b Kp S Sp G w0) (hb:b<w.heap.size)
  (hKt:∀ {A B C:World},Kp A B→Kp B C→Kp A C) (hKb:∀ (W:World) (l:Nat) (o o':Obj),w.heap.size≤l→W.heap[l]?=some o→o.isCells=false→o.isWalk=false→Kp W (W.putObj l o')) (hb0:Below w0.heap.size w0 w) (hps:∀ x,(encs x).size=ps.size)
  (I:List α→World→Prop) (Ix:Code→List α→World→Prop) (hI:OwnFrom w.heap.size I) (hIx:∀ c,OwnFrom w.heap.size (Ix c)) (hIb:AbidesAt b I) (hIxb:∀ c,AbidesAt b (Ix c)) (h0:I [] w) (a₁:α→Act)
  (hassign:∀ (l:Nat) (x:α) (W:World) (K:Act→World→Prop),K (a₁ x) W →
   assign.wpIn (F.inRound l) (n - 1 - 1) P (Exit.then K (fun _ _ _ => False)) { tmps:=(ps.zip (encs x)).foldl (fun t (p,v) => t.setIfInBounds p v) a.tmps,defers:=[] } W)
  (hbody:∀ (l:Nat) (pre:List α) (x:α) (W:World),I pre W→G pre x→body.wpIn (F.inRound l) (n - 1 - 1) P (ownPostK Kp I Ix (pre++[x]) W) (a₁ x) W)
  (hdone:∀ (D:Nat) (xs:List α) (W:World),w.heap.size≤D→S xs→I xs W→W.heap[D]?=some (.deferred (some []))→Q .normal { a with defers:={ target:=.collected D,args:=#[] } :: a.defers } W)
  (hstop:∀ (D:Nat) (c:Code) (pre:List α) (W:World),w.heap.size≤D→Sp pre→Ix c pre W→W.heap[D]?=some (.deferred (some []))→c.wpIn F n P Q { a with defers:={ target:=.collected D,args:=#[] } :: a.defers } W) :
  (Code.rangeFunc g ps assign body).wpIn F n P Q a w:=by
 refine wpIn_rangeFunc fun fn hfn => ?_
 rw [hro]
 generalize hh:w.heap.size=h at *
 obtain ⟨rec,hrec⟩:∃ rec:LoopState→Option Code→Loop,rec=fun s p => { state:=s,pending:=p,fn,tmps:=a.tmps,params:=ps,assign,body,defers:=h }:=⟨_,rfl⟩
 have hst:∀ s p s' p',{ rec s p with state:=s',pending:=p' }=rec s' p':=fun s p s' p' => by rw [hrec]
 obtain ⟨w1,hw1⟩:∃ w1,(w.alloc (.deferred (some []))).alloc (.loop (rec .ready none))=w1:=⟨_,rfl⟩
 have hz1:w1.heap.size=h+2:=by rw [← hw1,World.size_alloc,World.size_alloc,hh]
 have hlaid:Laid h (rec .ready none) w1:=by
  subst hh
  rw [← hw1]
  refine ⟨?_,?_⟩
  ·have:=World.alloc_heap_new (w.alloc (.deferred (some []))) (.loop (rec .ready none))
   rwa [World.size_alloc] at this
  ·exact (Below.heap_alloc _ _ _ (by simp)).trans (World.alloc_heap_new w _)
 have hI1:I [] w1:=by rw [← hw1];exact hI.alloc _ (hI.alloc _ h0)
 have hb1:Below w0.heap.size w0 w1:=by
  rw [← hw1]
  exact hb0.trans ((((Below.refl _ w).alloc (Nat.le_refl _) _).alloc (by simp) _).mono hb0.size)
 have henter:=run_enterLoop_outer (P:=P) (w:=w) fn a.tmps ps assign body
 rw [hh] at henter
 have hw1':=hw1
 rw [hrec] at hw1'
 rw [hw1'] at henter
 refine ⟨h+1,[{ target:=.collected h,args:=#[] }],w1,{ target:=.fn (.func gf) lb,args:=#[.func (.yield (h+1)) #[] #[]] },w1,gf,
  #[.func (.yield (h+1)) #[] #[]]++lb,w1,henter,?_,?_,?_,fun _ => h1,?_⟩
 ·simp only [resolve,hg]
  simp [go_sem]
 ·intro f' hf'
  simp [Target.leads] at hf'
  exact hf' ▸ hFg
 ·simp [invoke,go_sem,eg]
 refine (hseq (h+1) (fun pre W => I pre W∧Laid h (rec .ready none) W) (fun pre W => ∃ c,Ix c pre W∧Laid h (rec .done (some c)) W) w1 hb1
  (fun s X Y row hs hg' hr => ⟨hIb s X Y row hs.1 hg' hr,hs.2.on (by omega) hg' hr⟩)
  (fun s X Y row hs hg' hr => by
   obtain ⟨c,hc,hl⟩:=hs
   exact ⟨c,hIxb c s X Y row hc hg' hr,hl.on (by omega) hg' hr⟩) ?_ ⟨hI1,hlaid⟩).mono ?_
 ·rintro pre x W ⟨hi,hl⟩ hlen
  have hy:=run_yield (P:=P) (args:=encs x) hl.1 (by rw [hrec];exact hps x)
  rw [hrec] at hy
  have hbeg:=run_beginRound (P:=P) hl.1 (by rw [hrec])
  have e1:({ rec .ready none with state:=.busy }:Loop)=rec .busy none:=by rw [hrec]
  rw [e1] at hbeg
  refine ⟨fn,_,assign,body,hy,roundIn_of_wpIn hfn (hassign _ x W _ ⟨_,hbeg,?_⟩)⟩
  subst hh
  refine wpIn_mono (hbody _ pre x _ (hI.putObj _ hi (by omega) hl.1 rfl) hlen) fun e a3 W3 hp => ?_
  exact round_end (Kp:=Kp) hst rfl hKt hKb hI hIx (hKb _ _ _ _ (by omega) hl.1 rfl rfl) (hl.put _) e a3 W3 hp
 ·rintro e W2 ⟨⟨v,rfl⟩,(⟨xs,hS,hi,hl⟩|⟨pre,hSp,c,hi,hl⟩)⟩
  ·have he:=run_endLoop (P:=P) hl.1 (by rw [hrec];simp)
   refine ⟨_,_,he,?_⟩
   have e1:(rec .ready none).pending=none:=by rw [hrec]
   rw [e1]
   exact hdone h xs _ (Nat.le_refl _) hS (hI.putObj _ hi (by omega) hl.1 rfl) (hl.put _).2
  ·have he:=run_endLoop (P:=P) hl.1 (by rw [hrec];simp)
   refine ⟨_,_,he,?_⟩
   have e1:(rec .done (some c)).pending=some c:=by rw [hrec]
   rw [e1]
   exact hstop h c pre _ (Nat.le_refl _) hSp ((hIx c).putObj _ hi (by omega) hl.1 rfl) (hl.put _).2
end Go.Proofs.YtjdjljgbfpkbdaaGreatDoor.Q
