import Derived.Test.YtjdjljgbfpkbdaaGreatDoorZDd
import Derived.Test.YtjdjljgbfpkbdaaGreatDoorZDit
import Derived.Test.YtjdjljgbfpkbdaaGreatDoorZCutg
import Derived.RangeFuncNested
import Derived.RegionIn
import Derived.Sort.CutIn
set_option linter.unusedVariables false
set_option linter.unusedSimpArgs false
namespace Go.Proofs.YtjdjljgbfpkbdaaGreatDoor.Q
open Go.RowKit Go.Shelf Go.Proofs.YtjdjljgbfpkbdaaGreatDoorW.PrintWords
attribute [local go_sem] Oper.semAt_some
section
variable (w:World)
set_option maxHeartbeats 1000000 in
theorem rows_clone (base:Nat) (lv:Value) (l:List Lk) (h:Ls w base lv l) (hn:l.length≤1000) :
    Calls Tryz.prog 32 #[lv] w fun e w' => ∃ v,e=.returned v∧Ls w' w.heap.size v l∧Below w.heap.size w w':=by
  have qn:∀ (w:World) (a:Option Addr) (n c n' c':Nat),(binOp .eql 25 (.slice a n c) (.slice none n' c')).run Tryz.prog w=.ok (.bool a.isNone) w:=fun w a n c n' c' => Lib.run_eql_slice_nil w _ _ a n c n' c' Tryz.underlying25
  obtain ⟨h1,h2⟩:=h
  rcases h2 with ⟨rfl,h2⟩|⟨q,cap,cs,rfl,hb,hh,hle,hcap,hs,ht⟩
  · have:l=[]:=List.eq_nil_of_length_eq_zero h2
    subst this
    clear h1 h2
    go_enter Tryz.func32,Tryz.ntmps32
    go_wp2_with (fail)
    go_ret
    exact ⟨_,rfl,own_nil _ _ _ 5,Below.refl _ _⟩
  · have HC:Hid (∀ j u,(lkCells l)[j]?=some u→w.cell? ⟨q,j,none⟩=some u):=Lib.hid (by
      intro j u hj
      rw [← ht,List.getElem?_take] at hj
      split at hj
      · simp only [World.cell?,hh]
        simpa using hj
      · cases hj)
    clear h1 hh hs ht
    obtain ⟨i0,hi,hz0,hz1,hz2⟩:=info_parts info39
    go_enter Tryz.func32,Tryz.ntmps32
    go_wp2_with (at_builtin;refine wpList_append_own _ rfl _ _ 25 rfl w.heap.size 43 i0 (.agg #[(.string ⟨#[]⟩),(.string ⟨#[]⟩),(.string ⟨#[]⟩),(.string ⟨#[]⟩),(.string ⟨#[]⟩)]) 5 80 Tryz.underlying25 hi hz0 hz1 hz2 rfl (by decide) _ _ _ rfl (World.ownsRow_made w #[] 0 (Nat.le_refl _) (Nat.zero_le _) rfl) ⟨q,0,none⟩ l.length cap (lkCells l) rfl ?qc1 ?qc2 ?qc3 ?qc4 ?qc5 ?qc6 ?_)
    case qc1 => exact lkCells_length l
    case qc2 =>
      intro j u hj
      rw [add_plain]
      exact Lib.cell?_alloc_some _ (HC.out j u hj)
    case qc3 =>
      intro u hu
      obtain ⟨x,_,hx⟩:=List.mem_flatMap.1 hu
      simp only [Lk.cells,List.mem_cons,List.not_mem_nil,or_false] at hx
      rcases hx with rfl|rfl|rfl|rfl|rfl <;> rfl
    case qc4 => unfold maxLen;omega
    case qc5 => omega
    case qc6 => simp
    intro v' w1 hown hgrow hnil
    go_wp2
    go_ret
    refine ⟨v',rfl,by unfold Ls;simpa using hown,?_⟩
    exact ((Below.refl _ w).alloc (Nat.le_refl _) _).grown hgrow (by simp) (by intro k hk;simp [Value.ownBlock] at hk;omega)
end
def placeV (s:ByteArray) (wh:Nat):Value:=.agg #[.int .i64 (place (s.data.toList.take wh)).1,.int .i64 (place (s.data.toList.take wh)).2]
def locksDV (s:ByteArray) (v:Value):Value :=
  .tuple #[v,if (locksD s.data.toList).2.2=0 then .agg #[.int .i64 0,.int .i64 0] else placeV s (locksD s.data.toList).2.1,.int .i64 (locksD s.data.toList).2.2]
theorem results_tct {P:Program} {fn:Func} {p u v:Tmp} {ty:TypeId} (h:fn.results=#[.tmp u,.cell p ty,.tmp v]) (tmps:Array Value) (w:World) (g:Nat) (t:TypeId) (cs:Array Value) (fr:Nat × Nat) (d:TypeDesc)
    (hp:tmps.getD p undef=.pointer (some ⟨g,0,none⟩)) (hg:w.heap[g]?=some (.cells cs t fr))
    (hu:P.underlying ty=some d) (hd:(match d with|.struct _|.array _ _ => true|_ => false)=true) (hi:(P.info? ty).map (·.size)=some cs.size) :
    (results fn tmps).run P w=.ok (.tuple #[tmps.getD u undef,.agg cs,tmps.getD v undef]) w:=by
  have hp':tmps[p]?.getD undef=.pointer (some ⟨g,0,none⟩):=by simpa using hp
  simp [results,h,hp',asAddr,run_loadVar_row w g t ty cs fr d hg hu hd hi]
def LocksPost (w:World) (s:ByteArray) (e:Ending) (w':World):Prop:=∃ v,e=.returned (locksDV s v)∧Ls w' w.heap.size v (locksD s.data.toList).1∧Below w.heap.size w w'
theorem place_facts {w0 w w':World} {p g bx D:Nat} {lv hv:Value} {wh e x y:Int} {o:Obj} (hb:Below w.heap.size w w') (he:w.heap=w0.heap) (h1:w.os=w0.os) (h2:w.tape=w0.tape) (h3:w.output=w0.output) (h:Rd w0 p wh e lv hv) (hp:Blk w0 g 29 #[.int .i64 x,.int .i64 y])
    (hbx:Blk w0 bx 58 #[.pointer (some ⟨p,0,none⟩)]) (hD:w0.heap[D]?=some o) :
    w'.cell? ⟨p,1,none⟩=some (.int .i64 e)∧w'.cell? ⟨p,0,none⟩=some (.int .i64 wh)∧w'.cell? ⟨bx,0,none⟩=some (.pointer (some ⟨p,0,none⟩))∧w'.cell? ⟨g,0,none⟩=some (.int .i64 x)∧w'.cell? ⟨g,1,none⟩=some (.int .i64 y)∧w'.frozen? ⟨g,0,none⟩=false∧w'.frozen? ⟨g,1,none⟩=false∧Hid (Blk w' g 29 #[.int .i64 x,.int .i64 y])∧Hid (Below w0.heap.size w0 w')∧Hid (w'.heap[D]?=some o):=by
  have hb0:Below w0.heap.size w0 w':=by
    rw [← he]
    exact ⟨hb.os.trans h1,hb.tape.trans h2,hb.output.trans h3,by rw [← he];exact hb.size,fun k hk => by rw [← he];exact hb.block k hk⟩
  have hr:=Blk.below h hb0
  have hg:=hp.below hb0
  have hx:=hbx.below hb0
  exact ⟨hr.cell 1,hr.cell 0,hx.cell 0,hg.cell 0,hg.cell 1,hg.unfrozen 0,hg.unfrozen 1,Lib.hid hg,Lib.hid hb0,Lib.hid ((hb0.block D (Array.getElem?_eq_some_iff.1 hD).1).trans hD)⟩
def NoPanic (Q:Exit→Act→World→Prop):Exit→Act→World→Prop
  | .panic _,_,_ => False
  | e,a,w => Q e a w
theorem noPanic_le {Q:Exit→Act→World→Prop} {e:Exit} {a:Act} {w:World} (h:NoPanic Q e a w):Q e a w:=by
  cases e with
  | panic _ => exact h.elim
  | _ => exact h
theorem wpIn_nopanic {F:Fence} {n:Nat} {P:Program} {Q:Exit→Act→World→Prop} {c:Code} {a:Act} {w:World} (h:c.wpIn F n P (NoPanic Q) a w):c.wpIn F n P Q a w:=wpIn_mono h fun _ _ _ hq => noPanic_le hq
theorem noPanic_normal {Q:Exit→Act→World→Prop} {a:Act} {w:World} (h:Q .normal a w):NoPanic Q .normal a w:=h
theorem own_lower {w:World} {base base' n size:Nat} {e:TypeId} {v:Value} {xs:List Value} (h:w.ownsRow base e size v n xs) (hb:base'≤base):w.ownsRow base' e size v n xs:=by
  obtain ⟨h1,h2⟩:=h
  refine ⟨h1,?_⟩
  rcases h2 with h2|⟨q,cap,cs,he,hb',rest⟩
  · exact .inl h2
  · exact .inr ⟨q,cap,cs,he,Nat.le_trans hb hb',rest⟩
theorem locks_bad {w W wp:World} {s:ByteArray} {B D wh:Nat} {e:Int} {o:Obj} (hlo:locksD s.data.toList=([],wh,e)) (hne:e≠0) (hB:B=w.heap.size) (hD:B+8≤D) (h1:Below B w W) (h2:Below W.heap.size W wp) (hd:wp.heap[D]?=some o) (x y:Value) :
    LocksPost w s (.returned (.tuple #[.slice none 0 0,.agg #[.int .i64 (place (s.data.toList.take wh)).1,.int .i64 (place (s.data.toList.take wh)).2],.int .i64 e])) (((wp.setCell ⟨B,0,none⟩ x).setCell ⟨B,1,none⟩ y).putObj D (.deferred none)):=by
  have hDz:=(Array.getElem?_eq_some_iff.1 hd).1
  refine ⟨.slice none 0 0,?_,?_,?_⟩
  · unfold locksDV placeV
    rw [hlo]
    simp only [if_neg hne]
  · rw [hlo]
    exact own_nil _ _ _ 5
  · subst hB
    have hz:w.heap.size≤W.heap.size:=h1.size
    have hb:=below_then h1 hz h2
    have hb2:=(hb.setCell (p:=⟨w.heap.size,0,none⟩) (Nat.le_refl _) x).setCell (p:=⟨w.heap.size,1,none⟩) (Nat.le_refl _) y
    exact hb2.grown (grownBy_putObj' _ D (.deferred none)) hb2.size (fun q hq => by cases hq;omega)
theorem locks_good {w W wp:World} {s:ByteArray} {B D:Nat} {la:List Lk} {v:Value} {cs:Array Value} (hlo:locksD s.data.toList=(la,0,0)) (hB:B=w.heap.size) (hD:B+8≤D) (h1:Below B w W) (h2:Below W.heap.size W wp) (hl:Ls wp W.heap.size v la) (hz:B+8≤W.heap.size)
    (hp:Blk wp B 29 cs) (hd:wp.heap[D]?=some (.deferred (some []))) (x y:Value) :
    LocksPost w s (.returned (.tuple #[v,.agg #[.int .i64 0,.int .i64 0],.int .i64 0])) (((wp.setCell ⟨B,0,none⟩ x).setCell ⟨B,1,none⟩ y).putObj D (.deferred none)):=by
  have hDz:=(Array.getElem?_eq_some_iff.1 hd).1
  refine ⟨v,?_,?_,?_⟩
  · unfold locksDV
    rw [hlo]
    rfl
  · rw [hlo]
    have hk:∀ k,v.ownBlock=some k→(((wp.setCell ⟨B,0,none⟩ x).setCell ⟨B,1,none⟩ y).putObj D (.deferred none)).heap[k]?=wp.heap[k]?:=fun k hk => by
      have hb:=own_base hl k hk
      obtain ⟨cells,hc⟩:=own_typed hl k hk
      have hkD:k≠D:=by
        rintro rfl
        rw [hc] at hd
        cases hd
      exact (World.putObj_heap_other hkD).trans ((Below.heap_setCell _ _ _ _ (by simp;omega)).trans (Below.heap_setCell _ _ _ _ (by simp;omega)))
    have h3:=own_move hl hk
    subst hB
    exact own_lower h3 (by omega)
  · subst hB
    have hz:w.heap.size≤W.heap.size:=h1.size
    have hb:=below_then h1 hz h2
    have hb2:=(hb.setCell (p:=⟨w.heap.size,0,none⟩) (Nat.le_refl _) x).setCell (p:=⟨w.heap.size,1,none⟩) (Nat.le_refl _) y
    exact hb2.grown (grownBy_putObj' _ D (.deferred none)) hb2.size (fun q hq => by cases hq;omega)
theorem locksD_eq (s:List UInt8) (h:s.length≤8000):locksD s=match (linesD s (pieces s)).r with
    | .bad wh e => ([],wh,e)
    | .ok l _ => if endedE l=0 then (l,0,0) else ([],s.length,endedE l):=by
  unfold locksD
  rw [if_neg (by omega)]
  rfl
section
variable (w:World) (s:ByteArray)
set_option maxHeartbeats 1000000 in
theorem locks_long (hs:s.size≤140737488351232) (hl:8000<s.size) :
    Calls Tryz.prog 11 #[.string s] w (LocksPost w s):=by
  have he:locksD s.data.toList=([],0,2):=by unfold locksD;rw [if_pos (by simpa using hl)]
  have HV:∀ v,locksDV s v=.tuple #[v,placeV s 0,.int .i64 2]:=fun v => by unfold locksDV;rw [he];rfl
  have HV:=Lib.hid HV
  have HE:=Lib.hid he
  clear he
  go_enter Tryz.func11,Tryz.ntmps11
  go_wp2_with (fail)
  refine (place_calls _ s 0 (Nat.zero_le _) hs).mono ?_
  rintro e w1 ⟨rfl,hb1⟩
  have hk:=(Blk.new w 29 #[.int .i64 0,.int .i64 0]).below hb1
  have k0:=hk.cell 0
  have k1:=hk.cell 1
  have f0:=hk.unfrozen 0
  have f1:=hk.unfrozen 1
  have HK:=Lib.hid hk
  have HB:=Lib.hid hb1
  clear hk hb1
  go_wp2_with (fail)
  (try rw [Exit.noGoto_ret])
  refine bodyPost_ret (results_tct rfl _ _ w.heap.size 29 #[.int .i64 (place []).1,.int .i64 (place []).2] (0,0) _ rfl ((HK.out.put 0 (.int .i64 (place []).1)).put 1 (.int .i64 (place []).2)) Tryz.underlying29 rfl (by kernel_rfl)) rfl ?_
  refine ⟨.slice none 0 0,by rw [HV.out];rfl,by rw [HE.out];exact own_nil _ _ _ 5,?_⟩
  exact (below_alloc1 HB.out).trans (((Fr.refl (fun k => k=w.heap.size) w1).put (p:=⟨w.heap.size,0,none⟩) (.inl rfl) _ |>.put (p:=⟨w.heap.size,1,none⟩) (.inl rfl) _).below (by have:=HB.out.size;simp at this;omega) (fun k hk => by rw [hk];exact Nat.le_refl _))
set_option maxHeartbeats 400000 in
theorem wrong_sz (w:World) (p:Nat) (wh:Int) (lv hv:Value) (h:Rd w p wh 0 lv hv) (a x:Int) :
    Calls Tryz.prog 26 #[.pointer (some ⟨p,0,none⟩),.int .i64 a,.int .i64 x] w fun e w' => e=.returned (.tuple #[])∧Rd w' p a x lv hv∧Fr (·=p) w w'∧w'.heap.size=w.heap.size:=by
  have h0:=h.cell 0
  have h1:=h.cell 1
  have f0:=h.unfrozen 0
  have f1:=h.unfrozen 1
  have H:=Lib.hid h
  clear h
  go_enter Tryz.func26,Tryz.ntmps26
  go_wp2
  go_end0
  exact ⟨rfl,(H.out.put 0 _).put 1 _,((Fr.refl (·=p) w).put (.inl rfl) _).put (.inl rfl) _,by simp [World.setCell]⟩
theorem Blk.new3 (w:World) (o o2:Obj) (t:TypeId) (cs:Array Value):Blk (((w.alloc o).alloc o2).alloc (.cells cs t)) (w.heap.size+2) t cs:=by
  have h:=Blk.new ((w.alloc o).alloc o2) t cs
  have e:((w.alloc o).alloc o2).heap.size=w.heap.size+2:=by simp
  rwa [e] at h
theorem seq_calls (s:ByteArray) (w:World) :
    Calls Tryz.prog 27 #[.string s,.string ⟨#[10]⟩] w fun e w' => e=.returned (.func (.func 84) #[] #[.pointer (some ⟨w.heap.size+1,0,none⟩),.pointer (some ⟨w.heap.size,0,none⟩),.pointer (some ⟨w.heap.size+2,0,none⟩)])
      ∧ w'=((w.alloc (.cells #[.string s] 9)).alloc (.cells #[.string ⟨#[10]⟩] 9)).alloc (.cells #[.int .i64 1] 3):=by
  go_enter Tryz.func27,Tryz.ntmps27
  go_wp2
  go_ret
  exact ⟨rfl,rfl⟩
structure DEnv (B:Nat) (st:DSt) (W:World):Prop where
  place:Blk W B 29 #[.int .i64 0,.int .i64 0]
  box:Blk W (B+2) 58 #[.pointer (some ⟨B+1,0,none⟩)]
  frm:Blk W (B+3) 3 #[.int .i64 st.frm]
  begun:Blk W (B+4) 4 #[.bool st.begun]
  sep:Blk W (B+6) 9 #[.string ⟨#[10]⟩]
  one:Blk W (B+7) 3 #[.int .i64 1]
  res:HoldsD W (B+8) (B+1) st.r
  size:B+8≤W.heap.size
theorem HoldsD.move {A C:World} {base p:Nat} {r:DRes} {row:Option Nat} (h:HoldsD A base p r) (hg:A.grownBy C row) (hp:∀ q,row=some q→q≠p∧(base≤q→¬ ∃ cs t,A.heap[q]?=some (.cells cs t (0,0)))):HoldsD C base p r:=by
  have hrd:∀ {wh e:Int} {lv hv:Value},Rd A p wh e lv hv→Rd C p wh e lv hv:=fun h => (hg.block p (Blk.lt h) (fun e => (hp p e.symm).1 rfl)).trans h
  have hown:∀ {t:TypeId} {n size:Nat} {v:Value} {xs:List Value},A.ownsRow base t size v n xs→C.ownsRow base t size v n xs:=fun h => own_move h (fun k hk => by
    obtain ⟨cells,hc⟩:=own_typed h k hk
    exact hg.block k (Array.getElem?_eq_some_iff.1 hc).1 (fun e => (hp k e.symm).2 (own_base h k hk) ⟨cells,_,hc⟩))
  cases r with
  | bad wh e =>
    obtain ⟨h1,lv,hv,h2⟩:=h
    exact ⟨h1,lv,hv,hrd h2⟩
  | ok l has =>
    obtain ⟨lv,hv,wh,h1,h2,h3⟩:=h
    exact ⟨lv,hv,wh,hrd h1,hown h2,hown h3⟩
theorem HoldsD.cells {A:World} {base p:Nat} {r:DRes} (h:HoldsD A base p r):∃ cs,Blk A p 62 cs:=by
  cases r with
  | bad wh e =>
    obtain ⟨h1,lv,hv,h2⟩:=h
    exact ⟨_,h2⟩
  | ok l has =>
    obtain ⟨lv,hv,wh,h1,h2,h3⟩:=h
    exact ⟨_,h1⟩
theorem DEnv.move {A C:World} {B:Nat} {st:DSt} {row:Option Nat} (h:DEnv B st A) (hg:A.grownBy C row) (hr:∀ q,row=some q→q=B+5∨(B+8≤q∧∃ o:Obj,A.heap[q]?=some o∧o.isCells=false)):DEnv B st C:=by
  have hb:∀ {k:Nat} {t:TypeId} {cs:Array Value},k≠B+5→k<B+8→Blk A k t cs→Blk C k t cs:=fun h5 h8 hk => (hg.block _ (Blk.lt hk) (fun e => by
    rcases hr _ e.symm with h|⟨h,_⟩ <;> omega)).trans hk
  refine ⟨hb (by omega) (by omega) h.place,hb (by omega) (by omega) h.box,hb (by omega) (by omega) h.frm,hb (by omega) (by omega) h.begun,hb (by omega) (by omega) h.sep,hb (by omega) (by omega) h.one,h.res.move hg (fun q hq => ?_),Nat.le_trans h.size hg.size⟩
  rcases hr q hq with h1|⟨h1,o,h2,h3⟩
  · exact ⟨by omega,fun h => by omega⟩
  · refine ⟨by omega,fun _ => ?_⟩
    rintro ⟨cs,t,hc⟩
    rw [hc] at h2
    obtain rfl:=Option.some.inj h2
    cases h3
theorem keeps_fr {W W2:World} {base p:Nat} {t:TypeId} {cs:Array Value} (h:Fr (DS W base p) W W2) (hp:Blk W p t cs):KeepsOthers W W2 :=
  ⟨h.size,fun k o hk ho => (h.block k (Array.getElem?_eq_some_iff.1 hk).1 (fun hd => by
    rcases hd with rfl|⟨_,cs',t',hc⟩
    · unfold Blk at hp
      rw [hp] at hk
      obtain rfl:=Option.some.inj hk
      cases ho
    · rw [hc] at hk
      obtain rfl:=Option.some.inj hk
      cases ho)).trans hk⟩
def SeqKeep (B:Nat) (A C:World):Prop:=C.heap[B+5]?=A.heap[B+5]?∧C.heap[B+6]?=A.heap[B+6]?∧C.heap[B+7]?=A.heap[B+7]?
def LoopI (w:World) (B:Nat) (s:List UInt8) (pre:List ByteArray) (W:World):Prop:=DEnv B (linesD s (lists pre)) W∧Below B w W
theorem env_frm {B:Nat} {frm:Nat} {begun:Bool} {r:DRes} {W:World} (h:DEnv B ⟨frm,begun,r⟩ W) (f2:Nat):DEnv B ⟨f2,begun,r⟩ (W.setCell ⟨B+3,0,none⟩ (.int .i64 f2)) :=
  ⟨h.place.far (by simp) _,h.box.far (by simp) _,h.frm.put 0 _,h.begun.far (by simp) _,h.sep.far (by simp) _,h.one.far (by simp) _,
    h.res.move (row:=some (B+3)) (grownBy_setCell' _ _ _) (fun q hq => by cases hq;exact ⟨by omega,fun h => by omega⟩),by have:=h.size;simpa [World.setCell] using this⟩
theorem env_begun {B:Nat} {frm:Nat} {begun:Bool} {r:DRes} {W:World} (h:DEnv B ⟨frm,begun,r⟩ W) (b2:Bool):DEnv B ⟨frm,b2,r⟩ (W.setCell ⟨B+4,0,none⟩ (.bool b2)) :=
  ⟨h.place.far (by simp) _,h.box.far (by simp) _,h.frm.far (by simp) _,h.begun.put 0 _,h.sep.far (by simp) _,h.one.far (by simp) _,
    h.res.move (row:=some (B+4)) (grownBy_setCell' _ _ _) (fun q hq => by cases hq;exact ⟨by omega,fun h => by omega⟩),by have:=h.size;simpa [World.setCell] using this⟩
theorem env_fr {B:Nat} {frm:Nat} {begun:Bool} {r r2:DRes} {W W2:World} (h:DEnv B ⟨frm,begun,r⟩ W) (hf:Fr (DS W (B+8) (B+1)) W W2) (hr:HoldsD W2 (B+8) (B+1) r2):DEnv B ⟨frm,begun,r2⟩ W2:=by
  have hn:∀ k,k≠B+1→k<B+8→¬ DS W (B+8) (B+1) k:=fun k h1 h2 hd => by
    rcases hd with h|⟨h,_⟩ <;> omega
  exact ⟨h.place.fr hf (hn _ (by omega) (by omega)),h.box.fr hf (hn _ (by omega) (by omega)),h.frm.fr hf (hn _ (by omega) (by omega)),h.begun.fr hf (hn _ (by omega) (by omega)),h.sep.fr hf (hn _ (by omega) (by omega)),h.one.fr hf (hn _ (by omega) (by omega)),hr,Nat.le_trans h.size hf.size⟩
theorem seq_fr {B:Nat} {W W2:World} (hz:B+8≤W.heap.size) (hf:Fr (DS W (B+8) (B+1)) W W2):SeqKeep B W W2:=by
  have hn:∀ k,k≠B+1→k<B+8→¬ DS W (B+8) (B+1) k:=fun k h1 h2 hd => by
    rcases hd with h|⟨h,_⟩ <;> omega
  exact ⟨hf.block _ (by omega) (hn _ (by omega) (by omega)),hf.block _ (by omega) (hn _ (by omega) (by omega)),hf.block _ (by omega) (hn _ (by omega) (by omega))⟩
theorem seq_trans {B:Nat} {W W1 W2:World} (h:SeqKeep B W W1) (k:SeqKeep B W1 W2):SeqKeep B W W2:=⟨k.1.trans h.1,k.2.1.trans h.2.1,k.2.2.trans h.2.2⟩
def RoundPost (B:Nat) (w:World) (st:DSt) (W:World):Exit→Act→World→Prop
  | .normal,_,W' => KeepsOthers W W'∧SeqKeep B W W'∧DEnv B st W'∧Below B w W'
  | _,_,_ => False
theorem HoldsD.alloc {A:World} {base p:Nat} {r:DRes} (h:HoldsD A base p r) (o:Obj):HoldsD (A.alloc o) base p r :=
  h.move (row:=none) (World.grownBy_alloc A o none) (fun q hq => by cases hq)
theorem loop_start {w wc:World} {B:Nat} {s:ByteArray} (hsz:wc.heap.size=B+3) (hr:HoldsD wc (B+8) (B+1) (Q.start s.data.toList).r) (hpl:Blk wc B 29 #[.int .i64 0,.int .i64 0])
    (hbx:Blk wc (B+2) 58 #[.pointer (some ⟨B+1,0,none⟩)]) (hbl:Below B w wc) :
    DEnv B (linesD s.data.toList (lists [])) (((((wc.alloc (.cells #[.int .i64 0] 3)).alloc (.cells #[.bool false] 4)).alloc (.cells #[.string s] 9)).alloc (.cells #[.string ⟨#[10]⟩] 9)).alloc (.cells #[.int .i64 1] 3)) ∧
    Blk (((((wc.alloc (.cells #[.int .i64 0] 3)).alloc (.cells #[.bool false] 4)).alloc (.cells #[.string s] 9)).alloc (.cells #[.string ⟨#[10]⟩] 9)).alloc (.cells #[.int .i64 1] 3)) (B+5) 9 #[.string s] ∧
    Below B w (((((wc.alloc (.cells #[.int .i64 0] 3)).alloc (.cells #[.bool false] 4)).alloc (.cells #[.string s] 9)).alloc (.cells #[.string ⟨#[10]⟩] 9)).alloc (.cells #[.int .i64 1] 3)) ∧
    (((((wc.alloc (.cells #[.int .i64 0] 3)).alloc (.cells #[.bool false] 4)).alloc (.cells #[.string s] 9)).alloc (.cells #[.string ⟨#[10]⟩] 9)).alloc (.cells #[.int .i64 1] 3)).heap.size=B+8:=by
  have n3:=Blk.new wc 3 #[.int .i64 0]
  have n4:=Blk.new (wc.alloc (.cells #[.int .i64 0] 3)) 4 #[.bool false]
  have n5:=Blk.new ((wc.alloc (.cells #[.int .i64 0] 3)).alloc (.cells #[.bool false] 4)) 9 #[.string s]
  have n6:=Blk.new (((wc.alloc (.cells #[.int .i64 0] 3)).alloc (.cells #[.bool false] 4)).alloc (.cells #[.string s] 9)) 9 #[.string ⟨#[10]⟩]
  have n7:=Blk.new ((((wc.alloc (.cells #[.int .i64 0] 3)).alloc (.cells #[.bool false] 4)).alloc (.cells #[.string s] 9)).alloc (.cells #[.string ⟨#[10]⟩] 9)) 3 #[.int .i64 1]
  simp only [World.size_alloc,hsz,Nat.add_assoc,Nat.reduceAdd] at n3 n4 n5 n6 n7
  refine ⟨⟨((((hpl.alloc _).alloc _).alloc _).alloc _).alloc _,((((hbx.alloc _).alloc _).alloc _).alloc _).alloc _,(((n3.alloc _).alloc _).alloc _).alloc _,((n4.alloc _).alloc _).alloc _,n6.alloc _,n7,((((hr.alloc _).alloc _).alloc _).alloc _).alloc _,by simp [hsz]⟩,(n5.alloc _).alloc _,?_,by simp [hsz]⟩
  exact ((((hbl.alloc (by omega) _).alloc (by simp;omega) _).alloc (by simp;omega) _).alloc (by simp;omega) _).alloc (by simp;omega) _
set_option maxHeartbeats 6000000 in
set_option maxRecDepth 100000 in
theorem locks_short (hs:s.size≤8000) (hG:GL w) :
    Calls Tryz.prog 11 #[.string s] w (LocksPost w s):=by
  have HBAD:=fun w => Lib.hid (bad_calls s w hs)
  have HG:=Lib.hid hG
  clear hG
  obtain ⟨B,hB⟩:∃ B,B=w.heap.size:=⟨_,rfl⟩
  have HB:=Lib.hid hB
  clear hB
  have hn5:1≤5:=by decide
  refine (callsIn_wide (n:=6)).1 ?_
  refine callsIn_of_wp_marks Tryz.func11 rfl trivial ?_ rfl
  simp only [Tryz.ntmps11,List.size_toArray,List.length_cons,List.length_nil,Nat.reduceAdd,Nat.reduceSub,Array.replicate_succ,Array.replicate_zero,List.push_toArray,List.append_toArray,List.nil_append,List.cons_append]
  gi_wp2
  refine ⟨trivial,callsIn_wide.2 ((HBAD _).out.mono ?_)⟩
  rintro e w1 ⟨rfl,n1,rfl⟩
  have hB:=HB.out
  have hz:(((w.alloc (.cells #[.int .i64 0,.int .i64 0] 29)).alloc (.cells #[.int .i64 0,.int .i64 0,.slice none 0 0,.slice none 0 0] 62)).alloc (.cells #[.pointer (some ⟨w.heap.size+1,0,none⟩)] 58)).heap.size=w.heap.size+3:=by simp
  have f1:Blk (((w.alloc (.cells #[.int .i64 0,.int .i64 0] 29)).alloc (.cells #[.int .i64 0,.int .i64 0,.slice none 0 0,.slice none 0 0] 62)).alloc (.cells #[.pointer (some ⟨w.heap.size+1,0,none⟩)] 58)) w.heap.size 29 #[.int .i64 0,.int .i64 0]:=((Blk.new w _ _).alloc _).alloc _
  have f2:Blk (((w.alloc (.cells #[.int .i64 0,.int .i64 0] 29)).alloc (.cells #[.int .i64 0,.int .i64 0,.slice none 0 0,.slice none 0 0] 62)).alloc (.cells #[.pointer (some ⟨w.heap.size+1,0,none⟩)] 58)) (w.heap.size+1) 62 #[.int .i64 0,.int .i64 0,.slice none 0 0,.slice none 0 0]:=(Blk.new2 w _ _ _).alloc _
  have f3:Blk (((w.alloc (.cells #[.int .i64 0,.int .i64 0] 29)).alloc (.cells #[.int .i64 0,.int .i64 0,.slice none 0 0,.slice none 0 0] 62)).alloc (.cells #[.pointer (some ⟨w.heap.size+1,0,none⟩)] 58)) (w.heap.size+2) 58 #[.pointer (some ⟨w.heap.size+1,0,none⟩)]:=Blk.new3 w _ _ _ _
  have f4:Below w.heap.size w (((w.alloc (.cells #[.int .i64 0,.int .i64 0] 29)).alloc (.cells #[.int .i64 0,.int .i64 0,.slice none 0 0,.slice none 0 0] 62)).alloc (.cells #[.pointer (some ⟨w.heap.size+1,0,none⟩)] 58)):=(((Fr.refl (fun _ => False) w).alloc _).alloc _).alloc _ |>.below (Nat.le_refl _) (fun _ h => h.elim)
  generalize (((w.alloc (.cells #[.int .i64 0,.int .i64 0] 29)).alloc (.cells #[.int .i64 0,.int .i64 0,.slice none 0 0,.slice none 0 0] 62)).alloc (.cells #[.pointer (some ⟨w.heap.size+1,0,none⟩)] 58))=w2 at *
  rw [← hB] at *
  replace hz:(w2.drewN n1).heap.size=B+3:=hz
  replace f1:Blk (w2.drewN n1) _ _ _:=f1
  replace f2:Rd (w2.drewN n1) _ _ _ _ _:=f2
  replace f3:Blk (w2.drewN n1) _ _ _:=f3
  replace f4:Below _ _ (w2.drewN n1):=⟨f4.os,f4.tape,f4.output,f4.size,f4.block⟩
  generalize w2.drewN n1=w3 at *
  have c3:=f3.cell 0
  have F1:=Lib.hid f1
  have F2:=Lib.hid f2
  have F3:=Lib.hid f3
  have F4:=Lib.hid f4
  have HZ:=Lib.hid hz
  clear f1 f2 f3 f4 hz
  gi_upto_if 23 with fail
  simp only [Nat.add_assoc,Nat.reduceAdd]
  obtain ⟨bi,hbi⟩:∃ bi,badI s.data.toList=bi:=⟨_,rfl⟩
  rw [hbi]
  gi_cut [] from 15 (fun wx => HoldsD wx (B+8) (B+1) (Q.start s.data.toList).r∧Blk wx B 29 #[.int .i64 0,.int .i64 0]∧Blk wx (B+2) 58 #[.pointer (some ⟨B+1,0,none⟩)]∧Below B w wx∧wx.heap.size=B+3)
  case first =>
    cases hbad:badAt s.data.toList with
    | none =>
      have hi:¬ 0≤bi:=by rw [← hbi];unfold badI;rw [hbad];decide
      have hst:(Q.start s.data.toList).r=.ok [] []:=by unfold Q.start;rw [hbad]
      clear hbi
      gi_wp2
      gi_meet
      rw [hst]
      exact ⟨⟨_,_,_,F2.out,own_nil _ _ _ 5,own_nil _ _ _ 1⟩,F1.out,F3.out,F4.out,HZ.out⟩
    | some k =>
      have hk:bi=(k:Int):=by rw [← hbi];unfold badI;rw [hbad]
      have hi:0≤bi:=by omega
      have HK:=Lib.hid hk
      clear hk
      have hst:(Q.start s.data.toList).r=.bad k 1:=by unfold Q.start;rw [hbad]
      clear hbi
      gi_wp2
      refine ⟨trivial,callsIn_wide.2 ((wrong_sz w3 (B+1) 0 _ _ F2.out bi 1).mono ?_)⟩
      rintro e w4 ⟨rfl,h4,hf4,hz4⟩
      have HZ4:=Lib.hid hz4
      clear hz4
      have H4:=Lib.hid h4
      have HF4:=Lib.hid hf4
      clear h4 hf4
      gi_wp2
      gi_meet
      rw [hst]
      rw [HK.out] at H4
      exact ⟨⟨by decide,_,_,H4.out⟩,F1.out.fr HF4.out (by omega),F3.out.fr HF4.out (by omega),F4.out.trans (HF4.out.below (by have:=HZ.out;omega) (fun k hk => by omega)),HZ4.out.trans HZ.out⟩
  case rest =>
    obtain ⟨hr,hpl,hbx,hbl,hsz⟩:=hcut
    clear F1 F2 F3 F4 HZ
    gi_wp2
    refine ⟨trivial,callsIn_wide.2 ((seq_calls s _).mono ?_)⟩
    rintro e w4 ⟨rfl,hw4⟩
    have hz5:((wc.alloc (.cells #[.int .i64 0] 3)).alloc (.cells #[.bool false] 4)).heap.size=B+5:=by simp [hsz]
    rw [hz5]
    gi_wp2
    simp only [Nat.add_assoc,Nat.reduceAdd]
    obtain ⟨hE0,hs5,hB0,hz0⟩:=loop_start (w:=w) (s:=s) hsz hr hpl hbx hbl
    generalize ((((wc.alloc (.cells #[.int .i64 0] 3)).alloc (.cells #[.bool false] 4)).alloc (.cells #[.string s] 9)).alloc (.cells #[.string ⟨#[10]⟩] 9)).alloc (.cells #[.int .i64 1] 3)=W0 at *
    clear hw4 hz5 hr hpl hbx hbl hsz
    refine wpIn_rangeFunc_on rfl (by decide) (gf:=84) (lb:=#[.pointer (some ⟨B+6,0,none⟩),.pointer (some ⟨B+5,0,none⟩),.pointer (some ⟨B+7,0,none⟩)]) rfl trivial (enters_of Tryz.func84 (by kernel_rfl) rfl)
      (split_seq Fence.wide 5 trivial trivial rfl (by decide) (fun r w => callsIn_wide.2 (Tryz.strings_Index_one r 10 w)) (B+5) (B+6) (B+7) s (by omega) ⟨by omega,by omega⟩ W0 hs5 hE0.sep hE0.one)
      (by omega) (fun h k => ⟨k.1.trans h.1,k.2.1.trans h.2.1,k.2.2.trans h.2.2⟩) (fun W l o o' hl _ _ _ => ⟨World.putObj_heap_other (by omega),World.putObj_heap_other (by omega),World.putObj_heap_other (by omega)⟩) (Below.refl _ _) (fun _ => rfl)
      (LoopI w B s.data.toList) (fun _ _ _ => False)
      (fun pre X Y row h hg hrow => ⟨h.1.move hg (fun q hq => .inr ⟨by have:=(hrow q hq).1;omega,(hrow q hq).2⟩),h.2.grown hg (by have:=h.1.size;omega) (fun q hq => by have:=(hrow q hq).1;omega)⟩)
      (fun _ _ _ _ _ h _ _ => h)
      (fun pre X Y row h hg hrow => ⟨h.1.move hg (fun q hq => .inl (hrow q hq)),h.2.grown hg (by have:=h.1.size;omega) (fun q hq => by have:=hrow q hq;omega)⟩)
      (fun _ _ _ _ _ h _ _ => h)
      ⟨hE0,hB0⟩
      (fun x => { tmps:=#[.string s,undef,.slice none 0 0,.pointer (some ⟨B,0,none⟩),.int .i64 0,.pointer (some ⟨B+2,0,none⟩),.int .i64 bi,.pointer (some ⟨B+3,0,none⟩),.pointer (some ⟨B+4,0,none⟩),.string x,undef,undef,undef,.string s,.int .i64 s.size,u15,u16,u17,u18,u19,u20,u21,u22,u23,u24,u25,u26,u27,u28,.string s,.func (.func 84) #[] #[.pointer (some ⟨B+6,0,none⟩),.pointer (some ⟨B+5,0,none⟩),.pointer (some ⟨B+7,0,none⟩)],.string x,u32,u33,u34,u35,u36,u37,u38,u39,u40,u41,u42,u43,u44,u45,u46,u47,u48,u49,u50,u51,u52,u53,u54,u55,u56,u57,u58,u59,u60,u61,u62,u63,u64,u65,u66,u67,u68,u69,u70,u71,u72,u73,u74,u75,u76,u77,u78,u79,u80,u81,u82,u83,u84,u85,u86,u87,u88,u89,u90,u91,u92,u93,u94,u95,u96,u97,u98,u99,u100,u101,u102,u103,u104,u105,u106,u107,u108,u109,u110,u111],defers:=[] }) ?assign ?body ?done ?stop
    case assign =>
      intro l x W K hK
      gi_wp2
      exact hK
    case stop =>
      rintro D c pre W _ _ h _
      exact h.elim
    case body =>
      rintro l pre x W ⟨he,hbW⟩ ⟨qs,hq⟩
      have hinv:=lines_inv s.data.toList (lists pre) (x.data.toList :: qs) hq
      have hnext:linesD s.data.toList (lists (pre++[x]))=stepD (linesD s.data.toList (lists pre)) x.data.toList:=by rw [lists_snoc,lines_snoc]
      have hxl:x.data.toList.length=x.size:=by simp
      have hsl:s.data.toList.length=s.size:=by simp
      have hlen:(linesD s.data.toList (lists pre)).frm+x.size≤s.size:=by
        have e:=congrArg List.length (pieces_flat s.data.toList)
        rw [← hq] at e
        simp only [List.flatten_append,List.length_append,List.flatten_cons] at e
        rw [hinv.2]
        omega
      have hplen:pre.length≤8001:=by
        have e:=pieces_len s.data.toList
        rw [← hq] at e
        simp only [List.length_append,List.length_cons,lists,List.length_map] at e
        omega
      have hdi:=hinv.1
      rw [hsl] at hdi
      have HNX:=Lib.hid hnext
      clear hinv hnext hq
      refine wpIn_mono (Q:=RoundPost B w (stepD (linesD s.data.toList (lists pre)) x.data.toList) W) ?_ (fun e a W' h => by
        cases e with
        | normal => exact ⟨h.1,h.2.1,by rw [HNX.out];exact h.2.2.1,h.2.2.2⟩
        | _ => exact h.elim)
      clear HNX
      have hll:(lists pre).length=pre.length:=by simp [lists]
      rw [hll] at hdi
      generalize linesD s.data.toList (lists pre)=st at *
      obtain ⟨frm,begun,r⟩:=st
      simp only at hlen hdi
      have HT1:=fun w => Lib.hid (show Calls Tryz.prog 28 #[.string x,.string ⟨#[10]⟩] w fun e w' => e=.returned (.string (ofL (wholeL x.data.toList)))∧w'=w from Tryz.strings_TrimSuffix x ⟨#[10]⟩ w (by omega))
      have HT2:=fun w => Lib.hid (show Calls Tryz.prog 29 #[.string (ofL (wholeL x.data.toList)),.string ⟨#[32]⟩] w fun e w' => e=.returned (.string (ofL (wordL x.data.toList)))∧w'=w from Tryz.strings_TrimLeft_one (ofL (wholeL x.data.toList)) 32 (by decide) w)
      have hwl:=word_len x.data.toList
      have hhl:=whole_len x.data.toList
      obtain ⟨st2,hst2⟩:∃ y,y=stepD ⟨frm,begun,r⟩ x.data.toList:=⟨_,rfl⟩
      rw [← hst2]
      unfold stepD at hst2
      simp only at hst2
      rw [hxl] at hst2 hhl
      have HST:=Lib.hid hst2
      clear hst2
      generalize wholeL x.data.toList=whole at *
      generalize wordL x.data.toList=word at *
      have cf:=he.frm.cell 0
      have uf:=he.frm.unfrozen 0
      have i1:IntKind.i64.wrap ((frm:Int)+(whole.length:Int))=((frm+whole.length:Nat):Int):=by rw [IntWalk.i64_in _ ⟨by omega,by omega⟩];omega
      have i2:IntKind.i64.wrap (((frm+whole.length:Nat):Int) - (word.length:Int))=((frm+(whole.length - word.length):Nat):Int):=by rw [IntWalk.i64_in _ ⟨by omega,by omega⟩];omega
      have i3:IntKind.i64.wrap ((frm:Int)+(x.size:Int))=((frm+x.size:Nat):Int):=by rw [IntWalk.i64_in _ ⟨by omega,by omega⟩];omega
      have z1:(ofL whole).size=whole.length:=rfl
      have z2:(ofL word).size=word.length:=rfl
      have hat:frm+(whole.length - word.length)≤s.size:=by omega
      obtain ⟨at_,hat_⟩:∃ y,y=frm+(whole.length - word.length):=⟨_,rfl⟩
      rw [← hat_] at i2 HST hat
      obtain ⟨f2,hf2⟩:∃ y,y=frm+x.size:=⟨_,rfl⟩
      rw [← hf2] at i3 HST
      obtain ⟨f1,hf1⟩:∃ y,y=frm+whole.length:=⟨_,rfl⟩
      rw [← hf1] at i1 i2
      have HE:=Lib.hid he
      have HBW:=Lib.hid hbW
      have HDI:=Lib.hid hdi
      clear he hbW hdi hat_ hf1 hf2
      gi_wp2
      refine ⟨trivial,(CallsIn.inRound l (callsIn_wide.2 (HT1 _).out)).mono ?_⟩
      rintro e w1 ⟨rfl,hw1⟩
      rw [hw1]
      clear w1 hw1
      gi_wp2
      refine ⟨trivial,(CallsIn.inRound l (callsIn_wide.2 (HT2 _).out)).mono ?_⟩
      rintro e w1 ⟨rfl,hw1⟩
      rw [hw1]
      clear w1 hw1 HT1 HT2
      gi_upto_region 17 with fail
      have HE1:=Lib.hid (env_frm HE.out f2)
      have HK1:=Lib.hid (KeepsOthers.setCell W ⟨B+3,0,none⟩ (.int .i64 f2))
      have HS1:=Lib.hid (show SeqKeep B W (W.setCell ⟨B+3,0,none⟩ (.int .i64 f2)) from ⟨Below.heap_setCell _ _ _ _ (by simp),Below.heap_setCell _ _ _ _ (by simp),Below.heap_setCell _ _ _ _ (by simp)⟩)
      have HB1:=Lib.hid (HBW.out.setCell (p:=⟨B+3,0,none⟩) (by simp) (.int .i64 f2))
      generalize W.setCell ⟨B+3,0,none⟩ (.int .i64 f2)=W1 at *
      clear HE HBW cf uf
      have cr:=HE1.out.box.cell 0
      cases r with
      | bad wh e =>
        simp only at HST
        obtain ⟨hne,lv,hv,hrd⟩:=HE1.out.res
        have k1:=hrd.cell 1
        have hb:(e != 0)=true:=by simpa using hne
        clear hrd hne
        gi_wp2
        rw [HST.out]
        exact ⟨HK1.out,HS1.out,HE1.out,HB1.out⟩
      | ok la has =>
        obtain ⟨lv,hv,wh,hrd,hls,hhs⟩:=HE1.out.res
        have k1:=hrd.cell 1
        simp only at HST
        clear hrd hls hhs
        cases word with
        | nil =>
          have hwe:(ofL []).toList.isEmpty=true:=by rw [Lib.toList_data];rfl
          rw [if_pos (.inl rfl)] at HST
          gi_wp2
          rw [HST.out]
          exact ⟨HK1.out,HS1.out,HE1.out,HB1.out⟩
        | cons b t =>
          have hwe:(ofL (b :: t)).toList.isEmpty=false:=by rw [Lib.toList_data];rfl
          have hw0:(0:Int)<((ofL (b :: t)).size:Int):=by rw [z2];simp
          have hwb:(ofL (b :: t))[0]'(by rw [z2];simp)=b:=rfl
          have hbx:(((ofL (b :: t))[0]'(by rw [z2];simp)).toNat:Int)=(b.toNat:Int):=by rw [hwb]
          by_cases h35:b=35
          · subst h35
            rw [if_pos (.inr rfl)] at HST
            clear hbx hwb
            have hbx:(((ofL (35 :: t))[0]'(by rw [z2];simp)).toNat:Int)=35:=rfl
            gi_wp2
            rw [HST.out]
            exact ⟨HK1.out,HS1.out,HE1.out,HB1.out⟩
          · have hb35':¬ (b.toNat:Int)=35:=fun e => h35 (by apply UInt8.toNat.inj;have h10:(35:UInt8).toNat=35:=rfl;omega)
            have hb35:((b.toNat:Int) == 35)=false:=by simpa using hb35'
            rw [if_neg (by simp [h35])] at HST
            have cb:=HE1.out.begun.cell 0
            cases begun with
            | true =>
              rw [if_pos rfl] at HST
              have HLN:=Lib.hid (line_calls W1 (B+8) (B+1) (ofL whole) at_ la has HE1.out.res HE1.out.size (by rw [z1];omega) HDI.out.1 (by have:=HDI.out.2;omega) (HG.out.below HB1.out (by have:=HG.out.lt;have:=HB.out;omega)))
              rw [ofL_data] at HLN
              gi_wp2
              refine ⟨trivial,(CallsIn.inRound l (callsIn_wide.2 HLN.out)).mono ?_⟩
              rintro e W2 ⟨rfl,hres,hfr⟩
              have HR2:=Lib.hid hres
              have HF2:=Lib.hid hfr
              clear hres hfr HLN
              gi_wp2
              rw [HST.out]
              obtain ⟨cs,hcs⟩:=HE1.out.res.cells
              exact ⟨HK1.out.trans (keeps_fr HF2.out hcs),seq_trans HS1.out (seq_fr HE1.out.size HF2.out),env_fr HE1.out HF2.out HR2.out,HB1.out.trans (HF2.out.below (by have:=HE1.out.size;omega) (fun k hk => by rcases hk with h|⟨h,_⟩ <;> omega))⟩
            | false =>
              rw [if_neg (by simp)] at HST
              have ub:=HE1.out.begun.unfrozen 0
              obtain ⟨b2,hb2⟩:∃ b2,((ofL whole).toList == [108,111,99,107,115,58])=b2:=⟨_,rfl⟩
              have hb2':(whole=locksWordL)↔b2=true:=by
                rw [← hb2,Lib.toList_data,ofL_data,beq_iff_eq]
                exact Iff.rfl
              have HB2:=Lib.hid hb2'
              have HE2:=Lib.hid (env_begun HE1.out b2)
              have HK2:=Lib.hid (HK1.out.trans (KeepsOthers.setCell W1 ⟨B+4,0,none⟩ (.bool b2)))
              have HS2:=Lib.hid (seq_trans HS1.out (show SeqKeep B W1 (W1.setCell ⟨B+4,0,none⟩ (.bool b2)) from ⟨Below.heap_setCell _ _ _ _ (by simp),Below.heap_setCell _ _ _ _ (by simp),Below.heap_setCell _ _ _ _ (by simp)⟩))
              have HB3:=Lib.hid (HB1.out.setCell (p:=⟨B+4,0,none⟩) (by simp) (.bool b2))
              have cb2:=HE2.out.begun.cell 0
              have cr2:=HE2.out.box.cell 0
              clear hb2'
              cases b2 with
              | true =>
                rw [if_pos (HB2.out.2 rfl)] at HST
                gi_wp2
                rw [HST.out]
                exact ⟨HK2.out,HS2.out,HE2.out,HB3.out⟩
              | false =>
                rw [if_neg (fun h => absurd (HB2.out.1 h) (by simp))] at HST
                gi_wp2
                obtain ⟨lv2,hv2,wh2,hrd2,_,_⟩:=HE2.out.res
                refine ⟨trivial,(CallsIn.inRound l (callsIn_wide.2 (wrong_set _ (B+1) wh2 lv2 hv2 hrd2 at_ 1))).mono ?_⟩
                rintro e W2 ⟨rfl,h4,hf4⟩
                have HF2:=Lib.hid (fr_ds_p (base:=B+8) hf4)
                have H4:=Lib.hid h4
                have HRD:=Lib.hid hrd2
                clear h4 hf4 hrd2
                gi_wp2
                rw [HST.out]
                exact ⟨HK2.out.trans (keeps_fr HF2.out HRD.out),seq_trans HS2.out (seq_fr HE2.out.size HF2.out),env_fr HE2.out HF2.out ⟨by decide,_,_,H4.out⟩,HB3.out.trans (HF2.out.below (by have:=HE2.out.size;omega) (fun k hk => by rcases hk with h|⟨h,_⟩ <;> omega))⟩
    case done =>
      rintro D xs W hD hS ⟨he,hbW⟩ hK
      rw [hS] at he
      have hinv:=(lines_inv s.data.toList (pieces s.data.toList) [] (by simp)).1
      have hsl:s.data.toList.length=s.size:=by simp
      rw [hsl] at hinv
      have HLO:=Lib.hid (locksD_eq s.data.toList (by omega))
      generalize linesD s.data.toList (pieces s.data.toList)=st at *
      obtain ⟨frm,begun,r⟩:=st
      simp only at hinv HLO
      have hDB:B+8≤D:=by omega
      have cr:=he.box.cell 0
      have HE:=Lib.hid he
      have HBW:=Lib.hid hbW
      have HKD:=Lib.hid hK
      have HDI:=Lib.hid hinv
      clear hbW hK hinv hS hE0 hs5 hB0 hz0 hD
      cases r with
      | bad wh e =>
        obtain ⟨hne,lv,hv,hrd⟩:=he.res
        have k1:=hrd.cell 1
        have k0:=hrd.cell 0
        have hb:(e == 0)=false:=by simpa using hne
        have hb2:(e != 0)=true:=by simpa using hne
        have HRD:=Lib.hid hrd
        have HNE:=Lib.hid hne
        clear he hrd
        gi_wp2
        have hmx:Tryz.prog.follows .mixedOrders=true:=by kernel_rfl
        refine wpIn_nopanic ?_
        gi_region_with_o (refine ⟨trivial,?_⟩;gi_at_call 24;refine (callsIn_wide.2 (place_calls _ s wh HDI.out.1 (by omega))).mono ?_;rintro e' wp ⟨rfl,hbp⟩;obtain ⟨k1p,k0p,cbp,kp0,kp1,fp0,fp1,HKP,HBP,HDP⟩:=place_facts (w0:=W) hbp rfl rfl rfl rfl HRD.out HE.out.place HE.out.box HKD.out)
        all_goals refine noPanic_normal ?_
        all_goals gi_wp2
        all_goals refine ⟨by simp,.inl ⟨_,_,rfl,run_takeDeferred (((KeepsOthers.setCell _ _ _).trans (KeepsOthers.setCell _ _ _)).same D _ HDP.out rfl),?_⟩⟩
        all_goals refine ⟨_,results_tct rfl _ _ B 29 #[.int .i64 (place (List.take wh s.data.toList)).1,.int .i64 (place (List.take wh s.data.toList)).2] (0,0) _ rfl ((World.putObj_heap_other (by omega)).trans ((HKP.out.put 0 (.int .i64 (place (List.take wh s.data.toList)).1)).put 1 (.int .i64 (place (List.take wh s.data.toList)).2))) Tryz.underlying29 rfl (by kernel_rfl),?_⟩
        all_goals exact locks_bad HLO.out HNE.out HB.out hDB HBW.out HBP.out HDP.out _ _
      | ok la has =>
        obtain ⟨lv,hv,wh,hrd,hls,hhs⟩:=he.res
        obtain ⟨A,cc,rfl⟩:=own_slice hls
        have k1:=hrd.cell 1
        have HEN:=Lib.hid (ended_calls W (B+1) (.slice A la.length cc) hv wh s.size (B+8) la hrd hls HDI.out.1)
        have HRD:=Lib.hid hrd
        have HLS:=Lib.hid hls
        clear he hrd hls hhs
        gi_wp2
        refine ⟨trivial,callsIn_wide.2 (HEN.out.mono ?_)⟩
        rintro e W2 ⟨rfl,hr2,hf2⟩
        have cr2:=(HE.out.box.fr hf2 (by omega)).cell 0
        have k21:=hr2.cell 1
        have k22:=hr2.cell 2
        have HPL:=Lib.hid (HE.out.place.fr hf2 (by omega))
        have HBX:=Lib.hid (HE.out.box.fr hf2 (by omega))
        have HLS2:=Lib.hid (HLS.out.keep hf2 (HRD.out.other (by decide)))
        have HKD2:=Lib.hid ((hf2.block D (Array.getElem?_eq_some_iff.1 HKD.out).1 (by omega)).trans HKD.out)
        have HBW2:=Lib.hid (HBW.out.trans (hf2.below (by have:=HE.out.size;omega) (fun k hk => by omega)))
        have HR2:=Lib.hid hr2
        have HSZ:=Lib.hid (Nat.le_trans HE.out.size hf2.size)
        clear hr2 hf2 HEN
        by_cases hE:endedE la=0
        · have HLO2:=Lib.hid (HLO.out.trans (if_pos hE))
          rw [hE] at k21
          have HRC:=Lib.hid (rows_clone W2 (B+8) (.slice A la.length cc) la HLS2.out (by have:=HDI.out.1;omega))
          gi_wp2
          refine ⟨trivial,callsIn_wide.2 (HRC.out.mono ?_)⟩
          rintro e W3 ⟨v,rfl,hl3,hb3⟩
          have hk3:=HPL.out.below hb3
          have kp0:=hk3.cell 0
          have kp1:=hk3.cell 1
          have fp0:=hk3.unfrozen 0
          have fp1:=hk3.unfrozen 1
          have HL3:=Lib.hid hl3
          have HB3:=Lib.hid hb3
          have HK3:=Lib.hid hk3
          have HKD3:=Lib.hid ((hb3.block D (Array.getElem?_eq_some_iff.1 HKD2.out).1).trans HKD2.out)
          clear hl3 hb3 hk3 HRC
          gi_wp2
          refine ⟨by simp,.inl ⟨_,_,rfl,run_takeDeferred (((KeepsOthers.setCell _ _ _).trans (KeepsOthers.setCell _ _ _)).same D _ HKD3.out rfl),?_⟩⟩
          refine ⟨_,results_tct rfl _ _ B 29 #[.int .i64 0,.int .i64 0] (0,0) _ rfl ((World.putObj_heap_other (by omega)).trans ((HK3.out.put 0 (.int .i64 0)).put 1 (.int .i64 0))) Tryz.underlying29 rfl (by kernel_rfl),?_⟩
          exact locks_good HLO2.out HB.out hDB HBW2.out HB3.out HL3.out HSZ.out HK3.out HKD3.out _ _
        · have HLO2:=Lib.hid (HLO.out.trans (if_neg hE))
          have HNE:=Lib.hid hE
          have hb:(endedE la == 0)=false:=by simpa using hE
          have hb2:(endedE la != 0)=true:=by simpa using hE
          generalize hEE:endedE la=E at *
          have hR2':Rd W2 (B+1) (s.size:Nat) E (.slice A la.length cc) hv:=by
            have:=HR2.out
            rw [if_neg hE] at this
            exact this
          have k20:=hR2'.cell 0
          have HRD2:=Lib.hid hR2'
          clear hR2' HR2 hE hEE
          gi_wp2
          have hmx:Tryz.prog.follows .mixedOrders=true:=by kernel_rfl
          refine wpIn_nopanic ?_
          gi_region_with_o (refine ⟨trivial,?_⟩;gi_at_call 24;refine (callsIn_wide.2 (place_calls _ s s.size (Nat.le_refl _) (by omega))).mono ?_;rintro e' wp ⟨rfl,hbp⟩;obtain ⟨k1p,k0p,cbp,kp0,kp1,fp0,fp1,HKP,HBP,HDP⟩:=place_facts (w0:=W2) hbp rfl rfl rfl rfl HRD2.out HPL.out HBX.out HKD2.out)
          all_goals refine noPanic_normal ?_
          all_goals gi_wp2
          all_goals refine ⟨by simp,.inl ⟨_,_,rfl,run_takeDeferred (((KeepsOthers.setCell _ _ _).trans (KeepsOthers.setCell _ _ _)).same D _ HDP.out rfl),?_⟩⟩
          all_goals refine ⟨_,results_tct rfl _ _ B 29 #[.int .i64 (place (List.take s.size s.data.toList)).1,.int .i64 (place (List.take s.size s.data.toList)).2] (0,0) _ rfl ((World.putObj_heap_other (by omega)).trans ((HKP.out.put 0 (.int .i64 (place (List.take s.size s.data.toList)).1)).put 1 (.int .i64 (place (List.take s.size s.data.toList)).2))) Tryz.underlying29 rfl (by kernel_rfl),?_⟩
          all_goals exact locks_bad HLO2.out HNE.out HB.out hDB HBW2.out HBP.out HDP.out _ _
theorem Blk.below' {w0 w w':World} {g:Nat} {t:TypeId} {cs:Array Value} (h:Blk w0 g t cs) (e:w.heap=w0.heap) (hb:Below w.heap.size w w'):Blk w' g t cs:=by
  have h':Blk w g t cs:=by unfold Blk at h ⊢;rw [e];exact h
  exact h'.below hb
end
end Go.Proofs.YtjdjljgbfpkbdaaGreatDoor.Q
