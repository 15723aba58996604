import Derived.Test.YtjiidlkkkednoaaGreatDoorZMadd
import Derived.Test.YtjiidlkkkednoaaGreatDoorZMnog
import Derived.RangeFuncNested
import Derived.RegionIn
import Derived.Sort.CutIn
set_option linter.unusedVariables false
set_option linter.unusedSimpArgs false
namespace Go.Proofs.YtjiidlkkkednoaaGreatDoor.Q
open Go.RowKit Go.Shelf Go.Proofs.YtjiidlkkkednoaaGreatDoorW.PrintWords
theorem add_any (w:World) (base mb q c:Nat) (st:MS) (l:List (List UInt8)) (hM:Man w base mb st) (hbm:mb<base) (hbs:base≤w.heap.size) (hl:StrsAt w q l) (hz:∀ x ∈ l,x.length≤900000) (hn:l.length≤900000)
  (hr:st.q.length≤100000∧st.x.length≤100000∧st.s.length≤100000) (hG:GL w) :
  Calls Tryz.prog 36 #[.pointer (some ⟨mb,0,none⟩),.slice (some ⟨q,0,none⟩) l.length c] w (addPost w base mb st l):=by
 match l,hl,hz,hn with
 | [],_,_,_ => exact add_short w base mb q c st [] hM (by decide)
 | [_],_,_,_ => exact add_short w base mb q c st [_] hM (by simp)
 | [_,_],_,_,_ => exact add_short w base mb q c st [_,_] hM (by simp)
 | x0 :: x1 :: x2 :: r,hl,hz,hn => exact add_calls w base mb q c st x0 x1 x2 r hM hbm hbs hl hz (by simp at hn;omega) hr hG
theorem Man.move {X Y:World} {base mb:Nat} {st:MS} {row:Option Nat} (h:Man X base mb st) (hg:X.grownBy Y row) (hp:∀ q,row=some q→q≠mb∧(base≤q→∃ o:Obj,X.heap[q]?=some o∧o.isCells=false)):Man Y base mb st:=by
 obtain ⟨v1,v2,v3,hb,h1,h2,h3,h4⟩:=h
 have hown:∀ {t:TypeId} {n size:Nat} {v:Value} {xs:List Value},X.ownsRow base t size v n xs→Y.ownsRow base t size v n xs:=fun h => own_move h (fun k hk => by
  obtain ⟨cells,hc⟩:=own_typed h k hk
  exact hg.block k (Array.getElem?_eq_some_iff.1 hc).1 (fun e => by
   obtain ⟨o,ho,hn⟩:=(hp k e.symm).2 (own_base h k hk)
   rw [hc] at ho
   obtain rfl:=Option.some.inj ho
   cases hn))
 exact ⟨v1,v2,v3,(hg.block mb (Blk.lt hb) (fun e => (hp mb e.symm).1 rfl)).trans hb,hown h1,hown h2,hown h3,h4⟩
theorem Man.cells {X:World} {base mb:Nat} {st:MS} (h:Man X base mb st):∃ cs t,Blk X mb t cs:=by
 obtain ⟨v1,v2,v3,hb,_⟩:=h
 exact ⟨_,_,hb⟩
def zeroM:Array Value:=#[.string ⟨#[]⟩,.slice none 0 0,.slice none 0 0,.slice none 0 0]
structure PE (B:Nat) (s:ByteArray) (wh:Nat) (bg:Bool) (st:MS) (W:World):Prop where
 box:Blk W B 9 #[.string s]
 res:Blk W (B+1) 27 zeroM
 pl:Blk W (B+2) 31 #[.int .i64 0,.int .i64 0]
 er:Blk W (B+3) 32 #[.int .i64 0]
 man:Man W (B+10) (B+4) st
 at_:Blk W (B+5) 3 #[.int .i64 wh]
 beg:Blk W (B+6) 4 #[.bool bg]
 sep:Blk W (B+8) 9 #[.string ⟨#[10]⟩]
 one:Blk W (B+9) 3 #[.int .i64 1]
 size:B+10≤W.heap.size
def SeqM (B:Nat) (A C:World):Prop:=C.heap[B+7]?=A.heap[B+7]?∧C.heap[B+8]?=A.heap[B+8]?∧C.heap[B+9]?=A.heap[B+9]?
theorem SeqM.trans {B:Nat} {W W1 W2:World} (h:SeqM B W W1) (k:SeqM B W1 W2):SeqM B W W2:=⟨k.1.trans h.1,k.2.1.trans h.2.1,k.2.2.trans h.2.2⟩
variable {B:Nat} {s:ByteArray} {wh:Nat} {bg:Bool} {st:MS} {W W2:World}
theorem PE.move {row:Option Nat} (h:PE B s wh bg st W) (hg:W.grownBy W2 row) (hr:∀ q,row=some q→q=B+7∨(B+10≤q∧∃ o:Obj,W.heap[q]?=some o∧o.isCells=false)):PE B s wh bg st W2:=by
 have hb:∀ {k:Nat} {t:TypeId} {cs:Array Value},k≠B+7→k<B+10→Blk W k t cs→Blk W2 k t cs:=fun h5 h8 hk => (hg.block _ (Blk.lt hk) (fun e => by
  rcases hr _ e.symm with h|⟨h,_⟩ <;> omega)).trans hk
 refine ⟨hb (by omega) (by omega) h.box,hb (by omega) (by omega) h.res,hb (by omega) (by omega) h.pl,hb (by omega) (by omega) h.er,h.man.move hg (fun q hq => ?_),hb (by omega) (by omega) h.at_,hb (by omega) (by omega) h.beg,hb (by omega) (by omega) h.sep,hb (by omega) (by omega) h.one,Nat.le_trans h.size hg.size⟩
 rcases hr q hq with h1|⟨h1,ho⟩
 ·exact ⟨by omega,fun h => by omega⟩
 ·exact ⟨by omega,fun _ => ho⟩
theorem PE.below (h:PE B s wh bg st W) (hb:Below W.heap.size W W2):PE B s wh bg st W2 :=
 ⟨h.box.below hb,h.res.below hb,h.pl.below hb,h.er.below hb,h.man.below hb,h.at_.below hb,h.beg.below hb,h.sep.below hb,h.one.below hb,Nat.le_trans h.size hb.size⟩
theorem SeqM.below (hz:B+10≤W.heap.size) (hb:Below W.heap.size W W2):SeqM B W W2:=⟨hb.block _ (by omega),hb.block _ (by omega),hb.block _ (by omega)⟩
theorem keepsM_below (hb:Below W.heap.size W W2):KeepsOthers W W2:=⟨hb.size,fun k o hk _ => (hb.block k (Array.getElem?_eq_some_iff.1 hk).1).trans hk⟩
theorem keepsM_fr {base mb:Nat} (hf:Fr (ManS W base mb) W W2) (hm:∃ cs t,Blk W mb t cs):KeepsOthers W W2 :=
 ⟨hf.size,fun k o hk ho => (hf.block k (Array.getElem?_eq_some_iff.1 hk).1 (fun hd => by
  rcases hd with rfl|⟨_,cs',t',_,hc⟩
  ·obtain ⟨cs,t,hm⟩:=hm
   unfold Blk at hm
   rw [hm] at hk
   obtain rfl:=Option.some.inj hk
   cases ho
  ·rw [hc] at hk
   obtain rfl:=Option.some.inj hk
   cases ho)).trans hk⟩
theorem PE.fr {st2:MS} (h:PE B s wh bg st W) (hf:Fr (ManS W (B+10) (B+4)) W W2) (hm:Man W2 (B+10) (B+4) st2):PE B s wh bg st2 W2:=by
 have hn:∀ k,k≠B+4→k<B+10→¬ ManS W (B+10) (B+4) k:=fun k h1 h2 hd => by
  rcases hd with h|⟨h,_⟩ <;> omega
 exact ⟨h.box.fr hf (hn _ (by omega) (by omega)),h.res.fr hf (hn _ (by omega) (by omega)),h.pl.fr hf (hn _ (by omega) (by omega)),h.er.fr hf (hn _ (by omega) (by omega)),hm,h.at_.fr hf (hn _ (by omega) (by omega)),h.beg.fr hf (hn _ (by omega) (by omega)),h.sep.fr hf (hn _ (by omega) (by omega)),h.one.fr hf (hn _ (by omega) (by omega)),Nat.le_trans h.size hf.size⟩
theorem SeqM.fr (hz:B+10≤W.heap.size) (hf:Fr (ManS W (B+10) (B+4)) W W2):SeqM B W W2:=by
 have hn:∀ k,k≠B+4→k<B+10→¬ ManS W (B+10) (B+4) k:=fun k h1 h2 hd => by
  rcases hd with h|⟨h,_⟩ <;> omega
 exact ⟨hf.block _ (by omega) (hn _ (by omega) (by omega)),hf.block _ (by omega) (hn _ (by omega) (by omega)),hf.block _ (by omega) (hn _ (by omega) (by omega))⟩
theorem manS_le {base mb:Nat} (hb:B≤base) (hm:B≤mb) (k:Nat) (h:ManS W base mb k):B≤k:=by
 rcases h with h|⟨h,_⟩ <;> omega
theorem Man.far {base mb:Nat} (h:Man W base mb st) {q i:Nat} (hq:q≠mb) (hqb:q<base) (u:Value):Man (W.setCell ⟨q,i,none⟩ u) base mb st:=by
 obtain ⟨v1,v2,v3,hb,h1,h2,h3,h4⟩:=h
 exact ⟨v1,v2,v3,hb.far (p:=⟨q,i,none⟩) (fun e => hq e.symm) u,own_setCell h1 (fun e => by have:=own_base h1 q e.symm;omega) u,own_setCell h2 (fun e => by have:=own_base h2 q e.symm;omega) u,own_setCell h3 (fun e => by have:=own_base h3 q e.symm;omega) u,h4⟩
theorem PE.setAt (h:PE B s wh bg st W) (w2:Nat):PE B s w2 bg st (W.setCell ⟨B+5,0,none⟩ (.int .i64 (w2:Int))) :=
 ⟨h.box.far (by simp) _,h.res.far (by simp) _,h.pl.far (by simp) _,h.er.far (by simp) _,h.man.far (by omega) (by omega) _,h.at_.put 0 _,h.beg.far (by simp) _,h.sep.far (by simp) _,h.one.far (by simp) _,by have:=h.size;simpa [World.setCell] using this⟩
theorem PE.setBeg (h:PE B s wh bg st W) (b2:Bool):PE B s wh b2 st (W.setCell ⟨B+6,0,none⟩ (.bool b2)) :=
 ⟨h.box.far (by simp) _,h.res.far (by simp) _,h.pl.far (by simp) _,h.er.far (by simp) _,h.man.far (by omega) (by omega) _,h.at_.far (by simp) _,h.beg.put 0 _,h.sep.far (by simp) _,h.one.far (by simp) _,by have:=h.size;simpa [World.setCell] using this⟩
theorem PE.setMo (h:PE B s wh bg st W) (mo:List UInt8) (b2:Bool):PE B s wh bg { st with begun:=b2,mo:=mo } (W.setCell ⟨B+4,0,none⟩ (.string (bs mo))):=by
 obtain ⟨v1,v2,v3,hb,h1,h2,h3,h4⟩:=h.man
 refine ⟨h.box.far (by simp) _,h.res.far (by simp) _,h.pl.far (by simp) _,h.er.far (by simp) _,⟨v1,v2,v3,hb.put 0 _,own_setCell h1 (fun e => by have:=own_base h1 (B+4) e.symm;omega) _,own_setCell h2 (fun e => by have:=own_base h2 (B+4) e.symm;omega) _,own_setCell h3 (fun e => by have:=own_base h3 (B+4) e.symm;omega) _,h4⟩,h.at_.far (by simp) _,h.beg.far (by simp) _,h.sep.far (by simp) _,h.one.far (by simp) _,by have:=h.size;simpa [World.setCell] using this⟩
theorem SeqM.set {q i:Nat} (hq:q<B+7) (u:Value):SeqM B W (W.setCell ⟨q,i,none⟩ u):=⟨Below.heap_setCell _ _ _ _ (by simp;omega),Below.heap_setCell _ _ _ _ (by simp;omega),Below.heap_setCell _ _ _ _ (by simp;omega)⟩
theorem results_ccs {P:Program} {fn:Func} {p q r:Tmp} {ty tq tr:TypeId} (h:fn.results=#[.cell p ty,.cell q tq,.cell r tr]) (tmps:Array Value) (w:World) (g1 g2 g3:Nat) (t1 t2:TypeId) (cs1 cs2:Array Value) (d1 d2:TypeDesc) (v:Value)
  (hp1:tmps.getD p undef=.pointer (some ⟨g1,0,none⟩)) (hg1:w.heap[g1]?=some (.cells cs1 t1 (0,0))) (hu1:P.underlying ty=some d1) (hd1:(match d1 with|.struct _|.array _ _ => true|_ => false)=true) (hi1:(P.info? ty).map (·.size)=some cs1.size)
  (hp2:tmps.getD q undef=.pointer (some ⟨g2,0,none⟩)) (hg2:w.heap[g2]?=some (.cells cs2 t2 (0,0))) (hu2:P.underlying tq=some d2) (hd2:(match d2 with|.struct _|.array _ _ => true|_ => false)=true) (hi2:(P.info? tq).map (·.size)=some cs2.size)
  (hp3:tmps.getD r undef=.pointer (some ⟨g3,0,none⟩)) (h3:(loadVar tr ⟨g3,0,none⟩).run P w=.ok v w) :
  (results fn tmps).run P w=.ok (.tuple #[.agg cs1,.agg cs2,v]) w:=by
 have e1:tmps[p]?.getD undef=.pointer (some ⟨g1,0,none⟩):=by simpa using hp1
 have e2:tmps[q]?.getD undef=.pointer (some ⟨g2,0,none⟩):=by simpa using hp2
 have e3:tmps[r]?.getD undef=.pointer (some ⟨g3,0,none⟩):=by simpa using hp3
 simp [results,h,e1,e2,e3,asAddr,run_loadVar_row w g1 t1 ty cs1 (0,0) d1 hg1 hu1 hd1 hi1,run_loadVar_row w g2 t2 tq cs2 (0,0) d2 hg2 hu2 hd2 hi2,h3]
theorem load_errno (w:World) (g:Nat) (e:Int) (h:Blk w g 32 #[.int .i64 e]):(loadVar 32 ⟨g,0,none⟩).run Tryz.prog w=.ok (.int .i64 e) w:=by
 have h0:=h.cell 0
 have hu:=run_underlying Tryz.underlying32
 simp [go_sem,hu,h0]
end Go.Proofs.YtjiidlkkkednoaaGreatDoor.Q
