import Derived.Test.YtjiidlkkkednoaaGreatDoorZMsiAg
import Derived.Test.YtjiidlkkkednoaaGreatDoorZMsoAg
import Derived.Test.YtjiidlkkkednoaaGreatDoorZMsoBg
import Derived.Deep.RegionLaw
set_option linter.unusedVariables false
set_option linter.unusedSimpArgs false
namespace Go.Proofs.YtjiidlkkkednoaaGreatDoor.Q
open Go.RowKit Go.Shelf Go.Proofs.YtjiidlkkkednoaaGreatDoorW.PrintWords
def Man (W:World) (base mb:Nat) (st:MS):Prop:=∃ v1 v2 v3,Blk W mb 27 #[.string (bs st.mo),v1,v2,v3]∧W.ownsRow base 45 5 v1 st.q.length (flatR encA st.q)∧W.ownsRow base 45 5 v2 st.x.length (flatR encA st.x)∧W.ownsRow base 48 6 v3 st.s.length (flatR encB st.s)∧(∀ k,v1.ownBlock=some k→v2.ownBlock≠some k)
def ManS (W:World) (base mb k:Nat):Prop:=k=mb∨base≤k∧∃ cs t,(t=45∨t=48)∧W.heap[k]?=some (.cells cs t (0,0))
theorem Man.blk {W:World} {base mb:Nat} {st:MS} (h:Man W base mb st):∃ cs,Blk W mb 27 cs:=by
 obtain ⟨v1,v2,v3,h,_⟩:=h
 exact ⟨_,h⟩
theorem Man.below {W W':World} {base mb:Nat} {st:MS} (h:Man W base mb st) (hb:Below W.heap.size W W'):Man W' base mb st:=by
 obtain ⟨v1,v2,v3,h,h1,h2,h3,h4⟩:=h
 exact ⟨v1,v2,v3,h.below hb,pw_own_below h1 hb,pw_own_below h2 hb,pw_own_below h3 hb,h4⟩
theorem keep5 {w w':World} {a0 a1 a2 a3 a4:Addr} {x0 x1 x2 x3 x4:Value} (h0:w.cell? a0=some x0) (h1:w.cell? a1=some x1) (h2:w.cell? a2=some x2) (h3:w.cell? a3=some x3) (h4:w.cell? a4=some x4) (hb:Below w.heap.size w w') :
  w'.cell? a0=some x0∧w'.cell? a1=some x1∧w'.cell? a2=some x2∧w'.cell? a3=some x3∧w'.cell? a4=some x4 :=
 ⟨pw_cell_below hb h0,pw_cell_below hb h1,pw_cell_below hb h2,pw_cell_below hb h3,pw_cell_below hb h4⟩
theorem drawn_cell {w w':World} {a:Addr} {v:Value} (hd:Drawn0 w w') (h:w.cell? a=some v):w'.cell? a=some v:=by
 obtain ⟨n,rfl⟩:=hd
 exact h
theorem drawn_belowM {w W W':World} {B:Nat} (h:Below B w W) (hd:Drawn0 W W'):Below B w W':=by
 obtain ⟨n,rfl⟩:=hd
 exact below_drewR h n
theorem drawn_blk {w w':World} {g:Nat} {t:TypeId} {cs:Array Value} (h:Blk w g t cs) (hd:Drawn0 w w'):Blk w' g t cs:=by
 obtain ⟨n,rfl⟩:=hd
 exact h
theorem man_q {w2 W w3:World} {base mb g cap:Nat} {st:MS} {v1 v2 v3:Value} (x:S45) (hmb:Blk w2 mb 27 #[.string (bs st.mo),v1,v2,v3])
  (o1:w2.ownsRow base 45 5 v1 st.q.length (flatR encA st.q)) (o2:w2.ownsRow base 45 5 v2 st.x.length (flatR encA st.x)) (o3:w2.ownsRow base 48 6 v3 st.s.length (flatR encB st.s)) (hd:∀ k,v1.ownBlock=some k→v2.ownBlock≠some k)
  (hW:Below w2.heap.size w2 W) (hbm:mb<base) (hbs:base≤w2.heap.size) (hown:w3.ownsRow base 45 5 (.slice (some ⟨g,0,none⟩) (st.q.length+1) cap) (st.q.length+1) (flatR encA st.q++encA x)) (hg:W.grownBy w3 v1.ownBlock) (hat:v1.ownBlock=some g∨g=W.heap.size) :
  Man (w3.setCell ⟨mb,1,none⟩ (.slice (some ⟨g,0,none⟩) (st.q.length+1) cap)) base mb { st with q:=st.q++[x] }∧Fr (ManS w2 base mb) w2 (w3.setCell ⟨mb,1,none⟩ (.slice (some ⟨g,0,none⟩) (st.q.length+1) cap)):=by
 have hne:∀ k,k<base→some k≠v1.ownBlock:=fun k hk e => by
  have:=own_base o1 k e.symm
  omega
 have hm3:Blk w3 mb _ _:=blk_grown (hmb.below hW) hg (hne mb hbm)
 have hl:(st.q++[x]).length=st.q.length+1:=by simp
 have hf:flatR encA (st.q++[x])=flatR encA st.q++encA x:=by rw [flatR_append];simp [flatR]
 have hmove:∀ {t:TypeId} {n size:Nat} {v:Value} {xs:List Value},w2.ownsRow base t size v n xs→(∀ k,v.ownBlock=some k→v1.ownBlock≠some k)→(w3.setCell ⟨mb,1,none⟩ (.slice (some ⟨g,0,none⟩) (st.q.length+1) cap)).ownsRow base t size v n xs:=fun h hk => by
  have h1:=own_move (pw_own_below h hW) (w1:=w3) (fun k he => hg.block k (Nat.lt_of_lt_of_le (by obtain ⟨cells,hc⟩:=own_typed h k he;exact (Array.getElem?_eq_some_iff.1 hc).1) hW.size) (fun e => hk k he e.symm))
  exact own_setCell h1 (fun e => by have:=own_base h mb e.symm;omega) _
 have hself:=own_setCell hown (p:=⟨mb,1,none⟩) (fun e => by have:=own_base hown mb e.symm;omega) (.slice (some ⟨g,0,none⟩) (st.q.length+1) cap)
 have n2:∀ k,v2.ownBlock=some k→v1.ownBlock≠some k:=fun k h e => hd k e h
 have n3:∀ k,v3.ownBlock=some k→v1.ownBlock≠some k:=fun k h e => by
  obtain ⟨c1,e1⟩:=own_typed o3 k h
  obtain ⟨c2,e2⟩:=own_typed o1 k e
  rw [e1] at e2
  injection e2 with e2
  injection e2 with _ e2
  exact absurd e2 (by decide)
 have hfr:∀ k,k<w2.heap.size→some g=some k→v1.ownBlock=some k:=fun k hk e => by
  injection e with e
  rcases hat with h|h
  ·rw [h,e]
  ·have:=hW.size
   omega
 refine ⟨⟨.slice (some ⟨g,0,none⟩) (st.q.length+1) cap,v2,v3,?_,(by show World.ownsRow _ _ _ _ _ (st.q++[x]).length (flatR encA (st.q++[x]));rw [hl,hf];exact hself),hmove o2 n2,hmove o3 n3,fun k h e => hd k (hfr k (by obtain ⟨cells,hc⟩:=own_typed o2 k e;exact (Array.getElem?_eq_some_iff.1 hc).1) h) e⟩,?_⟩
 ·have:=hm3.put 1 (.slice (some ⟨g,0,none⟩) (st.q.length+1) cap)
  exact this
 ·have h1:Fr (ManS w2 base mb) w2 W:=Fr.of_below hW
  have h2:Fr (ManS w2 base mb) w2 w3:=h1.grown hg (fun k hk => .inl (.inr ⟨own_base o1 k hk,by
   obtain ⟨cells,hc⟩:=own_typed o1 k hk
   exact ⟨cells,_,.inl rfl,hc⟩⟩))
  exact h2.put (p:=⟨mb,1,none⟩) (.inl (.inl rfl)) _
theorem man_x {w2 W w3:World} {base mb g cap:Nat} {st:MS} {v1 v2 v3:Value} (x:S45) (hmb:Blk w2 mb 27 #[.string (bs st.mo),v1,v2,v3])
  (o1:w2.ownsRow base 45 5 v1 st.q.length (flatR encA st.q)) (o2:w2.ownsRow base 45 5 v2 st.x.length (flatR encA st.x)) (o3:w2.ownsRow base 48 6 v3 st.s.length (flatR encB st.s)) (hd:∀ k,v1.ownBlock=some k→v2.ownBlock≠some k)
  (hW:Below w2.heap.size w2 W) (hbm:mb<base) (hbs:base≤w2.heap.size) (hown:w3.ownsRow base 45 5 (.slice (some ⟨g,0,none⟩) (st.x.length+1) cap) (st.x.length+1) (flatR encA st.x++encA x)) (hg:W.grownBy w3 v2.ownBlock) (hat:v2.ownBlock=some g∨g=W.heap.size) :
  Man (w3.setCell ⟨mb,2,none⟩ (.slice (some ⟨g,0,none⟩) (st.x.length+1) cap)) base mb { st with x:=st.x++[x] }∧Fr (ManS w2 base mb) w2 (w3.setCell ⟨mb,2,none⟩ (.slice (some ⟨g,0,none⟩) (st.x.length+1) cap)):=by
 have hne:∀ k,k<base→some k≠v2.ownBlock:=fun k hk e => by
  have:=own_base o2 k e.symm
  omega
 have hm3:Blk w3 mb _ _:=blk_grown (hmb.below hW) hg (hne mb hbm)
 have hl:(st.x++[x]).length=st.x.length+1:=by simp
 have hf:flatR encA (st.x++[x])=flatR encA st.x++encA x:=by rw [flatR_append];simp [flatR]
 have hmove:∀ {t:TypeId} {n size:Nat} {v:Value} {xs:List Value},w2.ownsRow base t size v n xs→(∀ k,v.ownBlock=some k→v2.ownBlock≠some k)→(w3.setCell ⟨mb,2,none⟩ (.slice (some ⟨g,0,none⟩) (st.x.length+1) cap)).ownsRow base t size v n xs:=fun h hk => by
  have h1:=own_move (pw_own_below h hW) (w1:=w3) (fun k he => hg.block k (Nat.lt_of_lt_of_le (by obtain ⟨cells,hc⟩:=own_typed h k he;exact (Array.getElem?_eq_some_iff.1 hc).1) hW.size) (fun e => hk k he e.symm))
  exact own_setCell h1 (fun e => by have:=own_base h mb e.symm;omega) _
 have hself:=own_setCell hown (p:=⟨mb,2,none⟩) (fun e => by have:=own_base hown mb e.symm;omega) (.slice (some ⟨g,0,none⟩) (st.x.length+1) cap)
 have n1:∀ k,v1.ownBlock=some k→v2.ownBlock≠some k:=hd
 have n3:∀ k,v3.ownBlock=some k→v2.ownBlock≠some k:=fun k h e => by
  obtain ⟨c1,e1⟩:=own_typed o3 k h
  obtain ⟨c2,e2⟩:=own_typed o2 k e
  rw [e1] at e2
  injection e2 with e2
  injection e2 with _ e2
  exact absurd e2 (by decide)
 have hfr:∀ k,k<w2.heap.size→some g=some k→v2.ownBlock=some k:=fun k hk e => by
  injection e with e
  rcases hat with h|h
  ·rw [h,e]
  ·have:=hW.size
   omega
 refine ⟨⟨v1,.slice (some ⟨g,0,none⟩) (st.x.length+1) cap,v3,?_,hmove o1 n1,(by show World.ownsRow _ _ _ _ _ (st.x++[x]).length (flatR encA (st.x++[x]));rw [hl,hf];exact hself),hmove o3 n3,fun k h e => hd k h (hfr k (by obtain ⟨cells,hc⟩:=own_typed o1 k h;exact (Array.getElem?_eq_some_iff.1 hc).1) e)⟩,?_⟩
 ·have:=hm3.put 2 (.slice (some ⟨g,0,none⟩) (st.x.length+1) cap)
  exact this
 ·have h1:Fr (ManS w2 base mb) w2 W:=Fr.of_below hW
  have h2:Fr (ManS w2 base mb) w2 w3:=h1.grown hg (fun k hk => .inl (.inr ⟨own_base o2 k hk,by
   obtain ⟨cells,hc⟩:=own_typed o2 k hk
   exact ⟨cells,_,.inl rfl,hc⟩⟩))
  exact h2.put (p:=⟨mb,2,none⟩) (.inl (.inl rfl)) _
theorem man_s {w2 W w3:World} {base mb g cap:Nat} {st:MS} {v1 v2 v3:Value} (x:S48) (hmb:Blk w2 mb 27 #[.string (bs st.mo),v1,v2,v3])
  (o1:w2.ownsRow base 45 5 v1 st.q.length (flatR encA st.q)) (o2:w2.ownsRow base 45 5 v2 st.x.length (flatR encA st.x)) (o3:w2.ownsRow base 48 6 v3 st.s.length (flatR encB st.s)) (hd:∀ k,v1.ownBlock=some k→v2.ownBlock≠some k)
  (hW:Below w2.heap.size w2 W) (hbm:mb<base) (hbs:base≤w2.heap.size) (hown:w3.ownsRow base 48 6 (.slice (some ⟨g,0,none⟩) (st.s.length+1) cap) (st.s.length+1) (flatR encB st.s++encB x)) (hg:W.grownBy w3 v3.ownBlock) (hat:v3.ownBlock=some g∨g=W.heap.size) :
  Man (w3.setCell ⟨mb,3,none⟩ (.slice (some ⟨g,0,none⟩) (st.s.length+1) cap)) base mb { st with s:=st.s++[x] }∧Fr (ManS w2 base mb) w2 (w3.setCell ⟨mb,3,none⟩ (.slice (some ⟨g,0,none⟩) (st.s.length+1) cap)):=by
 have hne:∀ k,k<base→some k≠v3.ownBlock:=fun k hk e => by
  have:=own_base o3 k e.symm
  omega
 have hm3:Blk w3 mb _ _:=blk_grown (hmb.below hW) hg (hne mb hbm)
 have hl:(st.s++[x]).length=st.s.length+1:=by simp
 have hf:flatR encB (st.s++[x])=flatR encB st.s++encB x:=by rw [flatR_append];simp [flatR]
 have hmove:∀ {t:TypeId} {n size:Nat} {v:Value} {xs:List Value},w2.ownsRow base t size v n xs→(∀ k,v.ownBlock=some k→v3.ownBlock≠some k)→(w3.setCell ⟨mb,3,none⟩ (.slice (some ⟨g,0,none⟩) (st.s.length+1) cap)).ownsRow base t size v n xs:=fun h hk => by
  have h1:=own_move (pw_own_below h hW) (w1:=w3) (fun k he => hg.block k (Nat.lt_of_lt_of_le (by obtain ⟨cells,hc⟩:=own_typed h k he;exact (Array.getElem?_eq_some_iff.1 hc).1) hW.size) (fun e => hk k he e.symm))
  exact own_setCell h1 (fun e => by have:=own_base h mb e.symm;omega) _
 have hself:=own_setCell hown (p:=⟨mb,3,none⟩) (fun e => by have:=own_base hown mb e.symm;omega) (.slice (some ⟨g,0,none⟩) (st.s.length+1) cap)
 have n1:∀ k,v1.ownBlock=some k→v3.ownBlock≠some k:=fun k h e => by
  obtain ⟨c1,e1⟩:=own_typed o1 k h
  obtain ⟨c2,e2⟩:=own_typed o3 k e
  rw [e1] at e2
  injection e2 with e2
  injection e2 with _ e2
  exact absurd e2 (by decide)
 have n2:∀ k,v2.ownBlock=some k→v3.ownBlock≠some k:=fun k h e => by
  obtain ⟨c1,e1⟩:=own_typed o2 k h
  obtain ⟨c2,e2⟩:=own_typed o3 k e
  rw [e1] at e2
  injection e2 with e2
  injection e2 with _ e2
  exact absurd e2 (by decide)
 have hfr:∀ k,k<w2.heap.size→some g=some k→v3.ownBlock=some k:=fun k hk e => by
  injection e with e
  rcases hat with h|h
  ·rw [h,e]
  ·have:=hW.size
   omega
 refine ⟨⟨v1,v2,.slice (some ⟨g,0,none⟩) (st.s.length+1) cap,?_,hmove o1 n1,hmove o2 n2,(by show World.ownsRow _ _ _ _ _ (st.s++[x]).length (flatR encB (st.s++[x]));rw [hl,hf];exact hself),hd⟩,?_⟩
 ·have:=hm3.put 3 (.slice (some ⟨g,0,none⟩) (st.s.length+1) cap)
  exact this
 ·have h1:Fr (ManS w2 base mb) w2 W:=Fr.of_below hW
  have h2:Fr (ManS w2 base mb) w2 w3:=h1.grown hg (fun k hk => .inl (.inr ⟨own_base o3 k hk,by
   obtain ⟨cells,hc⟩:=own_typed o3 k hk
   exact ⟨cells,_,.inr rfl,hc⟩⟩))
  exact h2.put (p:=⟨mb,3,none⟩) (.inl (.inl rfl)) _
theorem encA_each (x:S45):∀ u ∈ encA x,u.oneCell'=true:=by
 intro u hu
 simp only [encA,List.mem_cons,List.not_mem_nil,or_false] at hu
 rcases hu with rfl|rfl|rfl|rfl|rfl <;> rfl
theorem encB_each (x:S48):∀ u ∈ encB x,u.oneCell'=true:=by
 intro u hu
 simp only [encB,List.mem_cons,List.not_mem_nil,or_false] at hu
 rcases hu with rfl|rfl|rfl|rfl|rfl|rfl <;> rfl
theorem manS_back {w W:World} {base mb:Nat} (hb:Below w.heap.size w W) (k:Nat) (h:ManS W base mb k):ManS w base mb k∨w.heap.size≤k:=by
 rcases Nat.lt_or_ge k w.heap.size with hk|hk
 ·rcases h with h|⟨h1,cs,t,ht,h2⟩
  ·exact .inl (.inl h)
  ·exact .inl (.inr ⟨h1,cs,t,ht,by rw [← hb.block k hk];exact h2⟩)
 ·exact .inr hk
def addPost (w:World) (base mb:Nat) (st:MS) (l:List (List UInt8)) (e:Ending) (w':World):Prop :=
 e=.returned (.bool (addM st l).isSome)∧Man w' base mb ((addM st l).getD st)∧Fr (ManS w base mb) w w'
set_option maxHeartbeats 4000000 in
set_option maxRecDepth 100000 in
theorem add_short (w:World) (base mb q c:Nat) (st:MS) (l:List (List UInt8)) (hM:Man w base mb st) (h3:l.length<3) :
  Calls Tryz.prog 36 #[.pointer (some ⟨mb,0,none⟩),.slice (some ⟨q,0,none⟩) l.length c] w (addPost w base mb st l):=by
 have e:addM st l=none:=by unfold addM;rw [if_pos h3]
 have HE:=Lib.hid e
 have HM:=Lib.hid hM
 have hi:(l.length:Int)<3:=by omega
 clear e hM
 go_enter Tryz.func36,Tryz.ntmps36
 go_wp2_with (fail)
 go_ret
 unfold addPost
 rw [HE.out]
 exact ⟨rfl,HM.out,Fr.refl _ _⟩
set_option maxHeartbeats 4000000 in
set_option maxRecDepth 100000 in
theorem add_calls (w:World) (base mb q c:Nat) (st:MS) (x0 x1 x2:List UInt8) (r:List (List UInt8)) (hM:Man w base mb st) (hbm:mb<base) (hbs:base≤w.heap.size) (hl:StrsAt w q (x0 :: x1 :: x2 :: r)) (hz:∀ x ∈ (x0 :: x1 :: x2 :: r),x.length≤900000) (hn:r.length≤900000)
  (hr:st.q.length≤100000∧st.x.length≤100000∧st.s.length≤100000) (hG:GL w) :
  Calls Tryz.prog 36 #[.pointer (some ⟨mb,0,none⟩),.slice (some ⟨q,0,none⟩) (x0 :: x1 :: x2 :: r).length c] w (addPost w base mb st (x0 :: x1 :: x2 :: r)):=by
 obtain ⟨n,hn2⟩:∃ n,n=(x0 :: x1 :: x2 :: r).length:=⟨_,rfl⟩
 have hn3:n=r.length+3:=by rw [hn2];rfl
 rw [← hn2]
 obtain ⟨y,hy⟩:∃ y,y=(x0 :: x1 :: x2 :: r).getD (n - 1) []:=⟨_,rfl⟩
 have cy:w.cell? ⟨q,n - 1,none⟩=some (.string (bs y)):=by
  have:=hl (n - 1) (by omega)
  rw [this,hy]
  simp only [List.getD,List.getElem?_eq_getElem (show n - 1<(x0 :: x1 :: x2 :: r).length by omega),Option.getD_some]
 have c0:w.cell? ⟨q,0,none⟩=some (.string (bs x0)):=hl 0 (by simp)
 have c1:w.cell? ⟨q,1,none⟩=some (.string (bs x1)):=hl 1 (by simp)
 have c2w:w.cell? ⟨q,2,none⟩=some (.string (bs x2)):=hl 2 (by simp)
 have hyz:y.length≤900000:=by
  rw [hy]
  simp only [List.getD,List.getElem?_eq_getElem (show n - 1<(x0 :: x1 :: x2 :: r).length by omega),Option.getD_some]
  exact hz _ (List.getElem_mem _)
 have e1:IntKind.i64.wrap ((n:Int) - 1)=((n - 1:Nat):Int):=by rw [IntWalk.i64_in _ ⟨by omega,by omega⟩];omega
 have i1:¬ (n:Int)<3:=by omega
 have i2:(0:Int)≤((n - 1:Nat):Int):=by omega
 have i3:((n - 1:Nat):Int)<(n:Int):=by omega
 have i4:(1:Int)<(n:Int):=by omega
 obtain ⟨va,vb,vc,vp,vo,hvo⟩:∃ a b c p o,verOut (parseV y)=(a,b,c,p,o):=⟨_,_,_,_,_,rfl⟩
 have hpo:ver_Parse.f (bs y)=some (va,vb,vc,vp,vo):=by rw [← hvo];exact (by unfold ver_Parse.f;rw [if_pos (by rw [size_bs];omega),data_bs])
 have HA:Hid (addM st (x0 :: x1 :: x2 :: r)=match parseV y with
  | none => none
  | some v =>
   if rightL x1=true then
    if x0=requireW∧n=3 then some { st with q:=st.q++[reqM x1 v] }
    else if x0=excludeW∧n=3 then some { st with x:=st.x++[reqM x1 v] }
    else if x0=replaceW∧n=5∧x2=arrowW∧rightL ((x0 :: x1 :: x2 :: r).getD 3 [])=true then some { st with s:=st.s++[swapM x1 ((x0 :: x1 :: x2 :: r).getD 3 []) v] }
    else none
   else none):=Lib.hid (by
  unfold addM
  rw [if_neg (by omega),← hn2,← hy]
  rfl)
 have HP:=Lib.hid (ver_Parse.calls (bs y) va vb vc vp vo w hG hpo)
 have HV:=Lib.hid hvo
 have HM:=Lib.hid hM
 have HL:=Lib.hid hl
 have HG:=Lib.hid hG
 have HN3:=Lib.hid hn3
 clear hM hl hpo hy hn2 hn3 hvo
 go_enter Tryz.func36,Tryz.ntmps36
 go_wp2_with (fail)
 refine HP.out.mono ?_
 rintro e w1 ⟨rfl,hb1⟩
 have HB1:=Lib.hid hb1
 have k1:=pw_cell_below hb1 c1
 have k0:=pw_cell_below hb1 c0
 clear hb1
 go_upto_region 4 with (fail)
 have HB2:=Lib.hid (below_alloc HB1.out (.cells #[.int .i64 va,.int .i64 vb,.int .i64 vc,.string vp] 43))
 have n5:=Blk.new w1 43 #[.int .i64 va,.int .i64 vb,.int .i64 vc,.string vp]
 have c1:=pw_cell_below (below_alloc (Below.refl _ w1) (.cells #[.int .i64 va,.int .i64 vb,.int .i64 vc,.string vp] 43)) k1
 have k5:w1.heap.size<(w1.alloc (.cells #[.int .i64 va,.int .i64 vb,.int .i64 vc,.string vp] 43)).heap.size:=n5.lt
 have k6:w.heap.size≤w1.heap.size:=HB1.out.size
 generalize w1.heap.size=B5 at *
 generalize w1.alloc (.cells #[.int .i64 va,.int .i64 vb,.int .i64 vc,.string vp] 43)=W at *
 have N5:=Lib.hid n5
 have m0:=n5.cell 0
 have m1:=n5.cell 1
 have m2:=n5.cell 2
 have m3:=n5.cell 3
 clear n5 k1 k0
 go_region_held3 (fun w' => w'.cell? ⟨q,1,none⟩=some (.string (bs x1))∧w'.cell? ⟨B5,0,none⟩=some (.int .i64 va)∧w'.cell? ⟨B5,1,none⟩=some (.int .i64 vb)∧w'.cell? ⟨B5,2,none⟩=some (.int .i64 vc)∧w'.cell? ⟨B5,3,none⟩=some (.string vp))
  (first|exact ⟨c1,m0,m1,m2,m3⟩|exact keep5 c1 m0 m1 m2 m3 (by repeat (first|exact Below.refl _ _|refine below_drew1 ?_|refine below_alloc ?_ _|refine below_set ?_ (by simp))))
  (fail)
 have h7:=Blk.new W 45 #[.string (bs x1),.int .i64 va,.int .i64 vb,.int .i64 vc,.string vp]
 have HB7:=Lib.hid (below_drew1 (below_alloc HB2.out (.cells #[.string (bs x1),.int .i64 va,.int .i64 vb,.int .i64 vc,.string vp] 45)))
 have hN5:=(N5.out.alloc (.cells #[.string (bs x1),.int .i64 va,.int .i64 vb,.int .i64 vc,.string vp] 45)).drew
 replace h7:=h7.drew
 have hb7:w.heap.size≤W.heap.size:=HB2.out.size
 generalize W.heap.size=B7 at *
 generalize (W.alloc (.cells #[.string (bs x1),.int .i64 va,.int .i64 vb,.int .i64 vc,.string vp] 45)).drew=W7 at *
 have H7:=Lib.hid h7
 have H5:=Lib.hid hN5
 have HK7:=Lib.hid hb7
 have HC0:=Lib.hid c0
 have c1:=pw_cell_below HB7.out ‹w.cell? ⟨q,1,none⟩=_›
 clear m0 m1 m2 m3 N5 h7 hN5 hb7 k5 HB2 HB1
 have HR:∀ (x:List UInt8),x.length≤900000→∀ W,Hid (Calls Tryz.prog 35 #[.string (bs x)] W fun e w' => e=.returned (.bool (rightL x))∧Drawn0 W w'):=fun x hx W => Lib.hid (pright_calls x W (by omega))
 have HR1:=HR x1 (hz x1 (by simp))
 have HRR:=Lib.hid HR
 have HZ:=Lib.hid hz
 clear HR hz
 have hb0:((bs x0).toList == [114,101,113,117,105,114,101])=decide (x0=requireW):=by rw [toList_bs];unfold requireW;exact Bool.eq_iff_iff.2 (by simp)
 have hb1:((bs x0).toList == [101,120,99,108,117,100,101])=decide (x0=excludeW):=by rw [toList_bs];unfold excludeW;exact Bool.eq_iff_iff.2 (by simp)
 have hb2:((bs x0).toList == [114,101,112,108,97,99,101])=decide (x0=replaceW):=by rw [toList_bs];unfold replaceW;exact Bool.eq_iff_iff.2 (by simp)
 have hb4:((bs x2).toList == [61,62])=decide (x2=arrowW):=by rw [toList_bs];unfold arrowW;exact Bool.eq_iff_iff.2 (by simp)
 have h3:((n:Int) == 3)=decide (n=3):=Bool.eq_iff_iff.2 (by simp;omega)
 have h5:((n:Int) == 5)=decide (n=5):=Bool.eq_iff_iff.2 (by simp;omega)
 have c0:=pw_cell_below HB7.out HC0.out
 cases vo with
 | false =>
  have hpv:parseV y=none:=by
   cases hv:parseV y with
   | none => rfl
   | some v => have:=HV.out;rw [hv] at this;simp [verOut] at this
  have HA2:=Lib.hid (HA.out.trans (by rw [hpv]))
  clear HA hb0 hb1 hb2 hb4 h3 h5 HR1
  go_wp2_with (fail)
  go_ret
  unfold addPost
  rw [HA2.out]
  exact ⟨rfl,HM.out.below HB7.out,Fr.of_below HB7.out⟩
 | true =>
  obtain ⟨v,hpv,rfl,rfl,rfl,rfl⟩:∃ v,parseV y=some v∧va=v.a∧vb=v.b∧vc=v.c∧vp=bs v.p:=by
   cases hv:parseV y with
   | none => have:=HV.out;rw [hv] at this;simp [verOut] at this
   | some v =>
    have:=HV.out
    rw [hv] at this
    simp only [verOut,Prod.mk.injEq,and_true] at this
    exact ⟨v,rfl,this.1.symm,this.2.1.symm,this.2.2.1.symm,this.2.2.2.symm⟩
  have ha:=HA.out
  rw [hpv] at ha
  simp only at ha
  have HA2:=Lib.hid ha
  clear HA ha hpv HV HP
  cases hr1:rightL x1 with
  | false =>
   have ha:=HA2.out
   rw [if_neg (by simp [hr1])] at ha
   have HA:=Lib.hid ha
   rw [hr1] at HR1
   clear HA2 ha hb0 hb1 hb2 hb4 h3 h5 hr1
   go_wp2_with (go_at_call 35;refine (HR1 _).out.mono ?_;rintro e w2 ⟨rfl,nn,rfl⟩)
   go_ret
   unfold addPost
   rw [HA.out]
   exact ⟨rfl,HM.out.below (below_drewR HB7.out _),Fr.of_below (below_drewR HB7.out _)⟩
  | true =>
   have ha:=HA2.out
   rw [if_pos hr1] at ha
   have HA:=Lib.hid ha
   rw [hr1] at HR1
   clear HA2 ha hr1
   have c2:=pw_cell_below HB7.out c2w
   by_cases a0:x0=requireW
   ·rw [decide_eq_true a0] at hb0
    have a1:¬ x0=excludeW:=by rw [a0];decide
    have a2:¬ x0=replaceW:=by rw [a0];decide
    rw [decide_eq_false a1] at hb1
    rw [decide_eq_false a2] at hb2
    by_cases n3:n=3
    ·rw [decide_eq_true n3] at h3
     have HA3:=Lib.hid (HA.out.trans (if_pos ⟨a0,n3⟩))
     clear HA hb1 hb2 h5 n3 a0 a1 a2
     go_wp2_with (go_at_call 35;refine (HR1 _).out.mono ?_;rintro e w2 ⟨rfl,hd⟩;have d0:=drawn_cell hd c0;have d1:=drawn_cell hd c1;have d2:=drawn_cell hd c2;have HD:=Lib.hid hd;clear hd)
     have HB8:=Lib.hid (drawn_belowM HB7.out HD.out)
     have H8:=Lib.hid (drawn_blk H7.out HD.out)
     have H58:=Lib.hid (drawn_blk H5.out HD.out)
     clear HB7 H7 H5 HD c0 c1 c2 HR1 HRR HZ
     obtain ⟨v1,v2,v3,hmb,o1,o2,o3,hd⟩:=HM.out
     have hm8:=hmb.below HB8.out
     have z0:=hm8.cell 1
     have f1:=hm8.unfrozen 1
     have b0:=H8.out.cell 0
     have b1:=H8.out.cell 1
     have b2:=H8.out.cell 2
     have b3:=H8.out.cell 3
     have b4:=H8.out.cell 4
     have HM8:=Lib.hid hm8
     have zz0:∀ o,(w2.alloc o).cell? ⟨mb,1,none⟩=some v1:=fun o => pw_cell_below (below_alloc (Below.refl _ _) o) z0
     have HO1:=Lib.hid (pw_own_below o1 HB8.out)
     have HO2:=Lib.hid (pw_own_below o2 HB8.out)
     have HO3:=Lib.hid (pw_own_below o3 HB8.out)
     have HD:=Lib.hid hd
     have HS8:=Lib.hid HB8.out.size
     clear hmb hm8 o1 o2 o3 hd
     obtain ⟨i0,hi0,hz0,hz1,hz2⟩:=info_parts infoRA
     go_region_law (refine step_append_lies _ rfl (.tmp 50) (.tmp 52) 24 rfl base 45 i0 (.agg #[(.string ⟨#[]⟩),(.int .i64 0),(.int .i64 0),(.int .i64 0),(.string ⟨#[]⟩)]) 5 56 Tryz.underlying24 hi0 hz0 hz1 hz2 rfl (by decide) v1 st.q.length (flatR encA st.q) (by rfl) (pw_own_below HO1.out (by repeat (first|exact Below.refl _ _|refine below_drew1 ?_|refine below_alloc ?_ _))) ⟨w2.heap.size,0,none⟩ 1 1 (encA (reqM x1 v)) (by rfl) (by rfl) (World.news_of_block (cs:=(encA (reqM x1 v)).toArray) (heap_alloc_new _ _)) (encA_each _) (by decide) (by unfold maxLen;omega) (by omega) (by have:=HS8.out;simp;omega) _ rfl ?_;intro g cap w3 hown hg hat hlt;have hm3:Blk w3 mb _ _:=blk_grown (HM8.out.below (by repeat (first|exact Below.refl _ _|refine below_drew1 ?_|refine below_alloc ?_ _))) hg (fun e => by have:=own_base HO1.out mb e.symm;omega);have y0:=hm3.cell 1;have y1:=hm3.unfrozen 1;have HW1:=Lib.hid hown;have HW2:=Lib.hid hg;have HW3:=Lib.hid hat;clear hown hg hat hlt hm3)
     all_goals go_wp2_with (fail)
     all_goals go_ret
     all_goals (
      unfold addPost
      rw [HA3.out]
      have hh:=man_q (reqM x1 v) HM8.out HO1.out HO2.out HO3.out HD.out (by repeat (first|exact Below.refl _ _|refine below_drew1 ?_|refine below_alloc ?_ _)) hbm (Nat.le_trans hbs HS8.out) HW1.out HW2.out HW3.out
      exact ⟨rfl,hh.1,(Fr.of_below HB8.out).trans hh.2 (fun k hk => manS_back HB8.out k hk)⟩)
    ·rw [decide_eq_false n3] at h3
     have HA3:=Lib.hid (HA.out.trans ((if_neg (by simp [n3])).trans ((if_neg (by simp [a1])).trans (if_neg (by simp [a2])))))
     clear HA n3 a0 a1 a2
     go_wp2_with (go_at_call 35;refine (HR1 _).out.mono ?_;rintro e w2 ⟨rfl,hd⟩;have d0:=drawn_cell hd c0;have d1:=drawn_cell hd c1;have d2:=drawn_cell hd c2;have HD:=Lib.hid hd;clear hd)
     go_ret
     unfold addPost
     rw [HA3.out]
     exact ⟨rfl,HM.out.below (drawn_belowM HB7.out HD.out),Fr.of_below (drawn_belowM HB7.out HD.out)⟩
   ·rw [decide_eq_false a0] at hb0
    by_cases a1:x0=excludeW
    ·rw [decide_eq_true a1] at hb1
     have a2:¬ x0=replaceW:=by rw [a1];decide
     rw [decide_eq_false a2] at hb2
     by_cases n3:n=3
     ·rw [decide_eq_true n3] at h3
      have HA3:=Lib.hid (HA.out.trans ((if_neg (by simp [a0])).trans (if_pos ⟨a1,n3⟩)))
      clear HA hb2 h5 n3 a0 a1 a2
      go_wp2_with (go_at_call 35;refine (HR1 _).out.mono ?_;rintro e w2 ⟨rfl,hd⟩;have d0:=drawn_cell hd c0;have d1:=drawn_cell hd c1;have d2:=drawn_cell hd c2;have HD:=Lib.hid hd;clear hd)
      have HB8:=Lib.hid (drawn_belowM HB7.out HD.out)
      have H8:=Lib.hid (drawn_blk H7.out HD.out)
      have H58:=Lib.hid (drawn_blk H5.out HD.out)
      clear HB7 H7 H5 HD c0 c1 c2 HR1 HRR HZ
      obtain ⟨v1,v2,v3,hmb,o1,o2,o3,hd⟩:=HM.out
      have hm8:=hmb.below HB8.out
      have z0:=hm8.cell 2
      have f1:=hm8.unfrozen 2
      have b0:=H8.out.cell 0
      have b1:=H8.out.cell 1
      have b2:=H8.out.cell 2
      have b3:=H8.out.cell 3
      have b4:=H8.out.cell 4
      have HM8:=Lib.hid hm8
      have zz0:∀ o,(w2.alloc o).cell? ⟨mb,2,none⟩=some v2:=fun o => pw_cell_below (below_alloc (Below.refl _ _) o) z0
      have HO1:=Lib.hid (pw_own_below o1 HB8.out)
      have HO2:=Lib.hid (pw_own_below o2 HB8.out)
      have HO3:=Lib.hid (pw_own_below o3 HB8.out)
      have HD:=Lib.hid hd
      have HS8:=Lib.hid HB8.out.size
      clear hmb hm8 o1 o2 o3 hd
      obtain ⟨i0,hi0,hz0,hz1,hz2⟩:=info_parts infoRA
      go_region_law (refine step_append_lies _ rfl (.tmp 70) (.tmp 72) 24 rfl base 45 i0 (.agg #[(.string ⟨#[]⟩),(.int .i64 0),(.int .i64 0),(.int .i64 0),(.string ⟨#[]⟩)]) 5 56 Tryz.underlying24 hi0 hz0 hz1 hz2 rfl (by decide) v2 st.x.length (flatR encA st.x) (by rfl) (pw_own_below HO2.out (by repeat (first|exact Below.refl _ _|refine below_drew1 ?_|refine below_alloc ?_ _))) ⟨w2.heap.size,0,none⟩ 1 1 (encA (reqM x1 v)) (by rfl) (by rfl) (World.news_of_block (cs:=(encA (reqM x1 v)).toArray) (heap_alloc_new _ _)) (encA_each _) (by decide) (by unfold maxLen;omega) (by omega) (by have:=HS8.out;simp;omega) _ rfl ?_;intro g cap w3 hown hg hat hlt;have hm3:Blk w3 mb _ _:=blk_grown (HM8.out.below (by repeat (first|exact Below.refl _ _|refine below_drew1 ?_|refine below_alloc ?_ _))) hg (fun e => by have:=own_base HO2.out mb e.symm;omega);have y0:=hm3.cell 2;have y1:=hm3.unfrozen 2;have HW1:=Lib.hid hown;have HW2:=Lib.hid hg;have HW3:=Lib.hid hat;clear hown hg hat hlt hm3)
      all_goals go_wp2_with (fail)
      all_goals go_ret
      all_goals (
       unfold addPost
       rw [HA3.out]
       have hh:=man_x (reqM x1 v) HM8.out HO1.out HO2.out HO3.out HD.out (by repeat (first|exact Below.refl _ _|refine below_drew1 ?_|refine below_alloc ?_ _)) hbm (Nat.le_trans hbs HS8.out) HW1.out HW2.out HW3.out
       exact ⟨rfl,hh.1,(Fr.of_below HB8.out).trans hh.2 (fun k hk => manS_back HB8.out k hk)⟩)
     ·rw [decide_eq_false n3] at h3
      have HA3:=Lib.hid (HA.out.trans ((if_neg (by simp [a0])).trans ((if_neg (by simp [n3])).trans (if_neg (by simp [a2])))))
      clear HA n3 a0 a1 a2
      go_wp2_with (go_at_call 35;refine (HR1 _).out.mono ?_;rintro e w2 ⟨rfl,hd⟩;have d0:=drawn_cell hd c0;have d1:=drawn_cell hd c1;have d2:=drawn_cell hd c2;have HD:=Lib.hid hd;clear hd)
      go_ret
      unfold addPost
      rw [HA3.out]
      exact ⟨rfl,HM.out.below (drawn_belowM HB7.out HD.out),Fr.of_below (drawn_belowM HB7.out HD.out)⟩
    ·rw [decide_eq_false a1] at hb1
     by_cases a2:x0=replaceW
     ·rw [decide_eq_true a2] at hb2
      by_cases n5:n=5
      ·rw [decide_eq_true n5] at h5
       obtain ⟨x3,hx3⟩:∃ x3,(x0 :: x1 :: x2 :: r).getD 3 []=x3:=⟨_,rfl⟩
       have hn3:=HN3.out
       have c3w:w.cell? ⟨q,3,none⟩=some (.string (bs x3)):=by
        have:=HL.out 3 (by simp;omega)
        rw [this,← hx3]
        simp only [List.getD,List.getElem?_eq_getElem (show 3<(x0 :: x1 :: x2 :: r).length by simp;omega),Option.getD_some]
       have hx3z:x3.length≤900000:=by
        rw [← hx3]
        simp only [List.getD,List.getElem?_eq_getElem (show 3<(x0 :: x1 :: x2 :: r).length by simp;omega),Option.getD_some]
        exact HZ.out _ (List.getElem_mem _)
       have c3:=pw_cell_below HB7.out c3w
       have HR3:=HRR.out x3 hx3z
       rw [hx3] at HA
       have i9:(2:Int)<(n:Int):=by omega
       have i8:(3:Int)<(n:Int):=by omega
       clear hx3 hn3 c3w hx3z
       by_cases a4:x2=arrowW
       ·rw [decide_eq_true a4] at hb4
        cases hr3:rightL x3 with
        | false =>
         rw [hr3] at HR3
         have HA3:=Lib.hid (HA.out.trans ((if_neg (by simp [a0])).trans ((if_neg (by simp [a1])).trans (if_neg (by simp [hr3])))))
         clear HA n5 hr3 a0 a1 a2 a4
         go_wp2_with (first|(go_at_call_of 35 (Value.string (bs x1));refine (HR1 _).out.mono ?_;rintro e w2 ⟨rfl,hd⟩;have d0:=drawn_cell hd c0;have d1:=drawn_cell hd c1;have d2:=drawn_cell hd c2;have d3:=drawn_cell hd c3;have HD2:=Lib.hid hd;clear hd)|(go_at_call_of 35 (Value.string (bs x3));refine (HR3 _).out.mono ?_;rintro e w4 ⟨rfl,hd⟩;have e1:=drawn_cell hd d1;have e3:=drawn_cell hd d3;have HD:=Lib.hid (drawn_trans HD2.out hd);clear hd))
         go_ret
         unfold addPost
         rw [HA3.out]
         exact ⟨rfl,HM.out.below (drawn_belowM HB7.out HD.out),Fr.of_below (drawn_belowM HB7.out HD.out)⟩
        | true =>
         rw [hr3] at HR3
         have HA3:=Lib.hid (HA.out.trans ((if_neg (by simp [a0])).trans ((if_neg (by simp [a1])).trans (if_pos ⟨a2,n5,a4,hr3⟩))))
         clear HA h3 n5 hr3 a0 a1 a2 a4
         go_wp2_with (first|(go_at_call_of 35 (Value.string (bs x1));refine (HR1 _).out.mono ?_;rintro e w2 ⟨rfl,hd⟩;have d0:=drawn_cell hd c0;have d1:=drawn_cell hd c1;have d2:=drawn_cell hd c2;have d3:=drawn_cell hd c3;have HD2:=Lib.hid hd;clear hd)|(go_at_call_of 35 (Value.string (bs x3));refine (HR3 _).out.mono ?_;rintro e w4 ⟨rfl,hd⟩;have e1:=drawn_cell hd d1;have e3:=drawn_cell hd d3;have HD:=Lib.hid (drawn_trans HD2.out hd);clear hd))
         have HB8:=Lib.hid (drawn_belowM HB7.out HD.out)
         have H8:=Lib.hid (drawn_blk H7.out HD.out)
         have H58:=Lib.hid (drawn_blk H5.out HD.out)
         clear HB7 H7 H5 HD HD2 c0 c1 c2 c3 HR1 HR3 HRR HZ
         obtain ⟨v1,v2,v3,hmb,o1,o2,o3,hd⟩:=HM.out
         have hm8:=hmb.below HB8.out
         have z0:=hm8.cell 3
         have f1:=hm8.unfrozen 3
         have b0:=H58.out.cell 0
         have b1:=H58.out.cell 1
         have b2:=H58.out.cell 2
         have b3:=H58.out.cell 3
         have HM8:=Lib.hid hm8
         have zz0:∀ o,(w4.alloc o).cell? ⟨mb,3,none⟩=some v3:=fun o => pw_cell_below (below_alloc (Below.refl _ _) o) z0
         have HO1:=Lib.hid (pw_own_below o1 HB8.out)
         have HO2:=Lib.hid (pw_own_below o2 HB8.out)
         have HO3:=Lib.hid (pw_own_below o3 HB8.out)
         have HD:=Lib.hid hd
         have HS8:=Lib.hid HB8.out.size
         clear hmb hm8 o1 o2 o3 hd
         obtain ⟨i0,hi0,hz0,hz1,hz2⟩:=info_parts infoRB
         go_region_law (refine step_append_lies _ rfl (.tmp 102) (.tmp 111) 25 rfl base 48 i0 (.agg #[(.string ⟨#[]⟩),(.string ⟨#[]⟩),(.int .i64 0),(.int .i64 0),(.int .i64 0),(.string ⟨#[]⟩)]) 6 72 Tryz.underlying25 hi0 hz0 hz1 hz2 rfl (by decide) v3 st.s.length (flatR encB st.s) (by rfl) (pw_own_below HO3.out (by repeat (first|exact Below.refl _ _|refine below_drew1 ?_|refine below_alloc ?_ _))) ⟨w4.heap.size,0,none⟩ 1 1 (encB (swapM x1 x3 v)) (by rfl) (by rfl) (World.news_of_block (cs:=(encB (swapM x1 x3 v)).toArray) (heap_alloc_new _ _)) (encB_each _) (by decide) (by unfold maxLen;omega) (by omega) (by have:=HS8.out;simp;omega) _ rfl ?_;intro g cap w3 hown hg hat hlt;have hm3:Blk w3 mb _ _:=blk_grown (HM8.out.below (by repeat (first|exact Below.refl _ _|refine below_drew1 ?_|refine below_alloc ?_ _))) hg (fun e => by have:=own_base HO3.out mb e.symm;omega);have y0:=hm3.cell 3;have y1:=hm3.unfrozen 3;have HW1:=Lib.hid hown;have HW2:=Lib.hid hg;have HW3:=Lib.hid hat;clear hown hg hat hlt hm3)
         all_goals go_wp2_with (fail)
         all_goals go_ret
         all_goals (
          unfold addPost
          rw [HA3.out]
          have hh:=man_s (swapM x1 x3 v) HM8.out HO1.out HO2.out HO3.out HD.out (by repeat (first|exact Below.refl _ _|refine below_drew1 ?_|refine below_alloc ?_ _)) hbm (Nat.le_trans hbs HS8.out) HW1.out HW2.out HW3.out
          exact ⟨rfl,hh.1,(Fr.of_below HB8.out).trans hh.2 (fun k hk => manS_back HB8.out k hk)⟩)
       ·rw [decide_eq_false a4] at hb4
        have HA3:=Lib.hid (HA.out.trans ((if_neg (by simp [a0])).trans ((if_neg (by simp [a1])).trans (if_neg (by simp [a4])))))
        clear HA n5 HR3 a0 a1 a2 a4
        go_wp2_with (go_at_call 35;refine (HR1 _).out.mono ?_;rintro e w2 ⟨rfl,hd⟩;have d0:=drawn_cell hd c0;have d1:=drawn_cell hd c1;have d2:=drawn_cell hd c2;have HD:=Lib.hid hd;clear hd)
        go_ret
        unfold addPost
        rw [HA3.out]
        exact ⟨rfl,HM.out.below (drawn_belowM HB7.out HD.out),Fr.of_below (drawn_belowM HB7.out HD.out)⟩
      ·rw [decide_eq_false n5] at h5
       have HA3:=Lib.hid (HA.out.trans ((if_neg (by simp [a0])).trans ((if_neg (by simp [a1])).trans (if_neg (by simp [n5])))))
       clear HA n5 a0 a1 a2
       go_wp2_with (go_at_call 35;refine (HR1 _).out.mono ?_;rintro e w2 ⟨rfl,hd⟩;have d0:=drawn_cell hd c0;have d1:=drawn_cell hd c1;have d2:=drawn_cell hd c2;have HD:=Lib.hid hd;clear hd)
       go_ret
       unfold addPost
       rw [HA3.out]
       exact ⟨rfl,HM.out.below (drawn_belowM HB7.out HD.out),Fr.of_below (drawn_belowM HB7.out HD.out)⟩
     ·rw [decide_eq_false a2] at hb2
      have HA3:=Lib.hid (HA.out.trans ((if_neg (by simp [a0])).trans ((if_neg (by simp [a1])).trans (if_neg (by simp [a2])))))
      clear HA
      go_wp2_with (go_at_call 35;refine (HR1 _).out.mono ?_;rintro e w2 ⟨rfl,hd⟩;have d0:=drawn_cell hd c0;have d1:=drawn_cell hd c1;have d2:=drawn_cell hd c2;have HD:=Lib.hid hd;clear hd)
      go_ret
      unfold addPost
      rw [HA3.out]
      exact ⟨rfl,HM.out.below (drawn_belowM HB7.out HD.out),Fr.of_below (drawn_belowM HB7.out HD.out)⟩
end Go.Proofs.YtjiidlkkkednoaaGreatDoor.Q
