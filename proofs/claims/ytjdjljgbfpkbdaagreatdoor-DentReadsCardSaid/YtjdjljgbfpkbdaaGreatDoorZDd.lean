import Derived.Test.YtjdjljgbfpkbdaaGreatDoorZDcg
import Derived.ScopeJumps
import Derived.Lib.SliceRun
import Derived.Deep.Cut
import Derived.Deep.CutBlock
import Derived.Deep.CutRange
import Derived.Deep.RegionWith
import Derived.StillTailTactics
import Derived.BigRegion
set_option linter.unusedVariables false
set_option linter.unusedSimpArgs false
namespace Go.Proofs.YtjdjljgbfpkbdaaGreatDoor.Q
open Go.RowKit Go.Proofs.YtjdjljgbfpkbdaaGreatDoorW.PrintWords
def Hs (w:World) (base:Nat) (hv:Value) (has:List ByteArray):Prop:=w.ownsRow base 9 1 hv has.length (has.map Value.string)
def GoodD (w:World) (base p:Nat) (l:List Lk) (has:List ByteArray):Prop:=∃ lv hv wh,Rd w p wh 0 lv hv∧Ls w base lv l∧Hs w base hv has
def HoldsD (w:World) (base p:Nat):DRes→Prop
  | .bad wh e => e≠0∧∃ lv hv,Rd w p wh e lv hv
  | .ok l has => GoodD w base p l has
def DS (w:World) (base p k:Nat):Prop:=k=p∨base≤k∧∃ cs t,w.heap[k]?=some (.cells cs t (0,0))
theorem fr_ds {w w' w2:World} {base p:Nat} (h:Fr (DS w base p) w w') (k:Fr (DS w' base p) w' w2):Fr (DS w base p) w w2:=by
  refine ⟨k.os.trans h.os,k.tape.trans h.tape,k.output.trans h.output,Nat.le_trans h.size k.size,fun i hi hn => ?_⟩
  have e:=h.block i hi hn
  refine (k.block i (Nat.lt_of_lt_of_le hi h.size) (fun hk => hn ?_)).trans e
  rcases hk with rfl|⟨hb,cs,t,hc⟩
  · exact .inl rfl
  · exact .inr ⟨hb,cs,t,by rw [← e];exact hc⟩
theorem fr_ds_p {w w':World} {base p:Nat} (h:Fr (·=p) w w'):Fr (DS w base p) w w':=h.mono fun _ hk => .inl hk
theorem fr_ds_below {w w':World} {base p:Nat} (h:Below w.heap.size w w'):Fr (DS w base p) w w':=Fr.of_below h
theorem fr_ds_own {w w':World} {base p n size:Nat} {e:TypeId} {v:Value} {xs:List Value} (ho:w.ownsRow base e size v n xs) (hg:w.grownBy w' v.ownBlock):Fr (DS w base p) w w' :=
  (Fr.refl _ w).grown hg fun k hk => by
    obtain ⟨cells,hc⟩:=own_typed ho k hk
    exact .inl (.inr ⟨own_base ho k hk,cells,e,hc⟩)
theorem own_fr {w w':World} {base n size:Nat} {e:TypeId} {v:Value} {xs:List Value} {S:Nat→Prop} (h:w.ownsRow base e size v n xs) (hf:Fr S w w') (hS:∀ k cs,S k→w.heap[k]?≠some (.cells cs e (0,0))):w'.ownsRow base e size v n xs :=
  own_move h (fun k hk => by
    obtain ⟨cells,hc⟩:=own_typed h k hk
    exact hf.block k (Array.getElem?_eq_some_iff.1 hc).1 (fun hk' => hS k cells hk' hc))
theorem Blk.other {w:World} {p:Nat} {t:TypeId} {cs:Array Value} (h:Blk w p t cs) {t':TypeId} (ht:t≠t'):∀ k cs',k=p→w.heap[k]?≠some (.cells cs' t' (0,0)):=by
  rintro k cs' rfl hk
  unfold Blk at h
  rw [h] at hk
  injection hk with hk
  injection hk with _ hk
  exact ht hk
theorem Hs.keep {w w':World} {base:Nat} {hv:Value} {has:List ByteArray} {S:Nat→Prop} (h:Hs w base hv has) (hf:Fr S w w') (hS:∀ k cs,S k→w.heap[k]?≠some (.cells cs 9 (0,0))):Hs w' base hv has:=own_fr h hf hS
theorem Hs.below {w w':World} {base:Nat} {hv:Value} {has:List ByteArray} (h:Hs w base hv has) (hb:Below w.heap.size w w'):Hs w' base hv has:=pw_own_below h hb
theorem Ls.below {w w':World} {base:Nat} {lv:Value} {l:List Lk} (h:Ls w base lv l) (hb:Below w.heap.size w w'):Ls w' base lv l:=pw_own_below h hb
theorem infoS:(Tryz.prog.info? 9).map (fun i => (i.zero,i.size,i.bytes))=some (some (.string ⟨#[]⟩),1,16):=by kernel_rfl
def lineSel (x:List UInt8) (l:List Lk):Option (ByteArray × List UInt8) :=
  if Lib.hasPrefix x [45,32]=true then pairL (x.drop 2) else if Lib.hasPrefix x [32,32]=true∧l≠[] then pairL (x.drop 2) else none
theorem lineSel_len {x:List UInt8} {l:List Lk} {k:ByteArray} {v:List UInt8} (hx:x.length≤8000) (h:lineSel x l=some (k,v)):v.length≤8000∧Lib.containsS names k=true:=by
  have e:(x.drop 2).length≤8000:=by rw [List.length_drop];omega
  unfold lineSel at h
  split at h
  · have:=pairL_len h
    exact ⟨by omega,this.2⟩
  · split at h
    · have:=pairL_len h
      exact ⟨by omega,this.2⟩
    · cases h
def line2 (x:List UInt8) (l:List Lk):List Lk:=if Lib.hasPrefix x [45,32]=true then l++[Lk.zero] else l
def has2 (x:List UInt8) (has:List ByteArray):List ByteArray:=if Lib.hasPrefix x [45,32]=true then [] else has
def err2 (x:List UInt8) (l:List Lk):Int:=if Lib.hasPrefix x [45,32]=true then beginE l else 0
theorem lineD_none {x:List UInt8} {a:Nat} {l:List Lk} {has:List ByteArray} (h:lineSel x l=none):lineD x a l has=.bad a 1:=by
  unfold lineSel at h
  unfold lineD
  split
  · rename_i h1
    rw [if_pos h1] at h
    rw [h]
  · rename_i h1
    rw [if_neg h1] at h
    split
    · rename_i h2
      rw [if_pos h2] at h
      rw [h]
    · rfl
theorem lineD_some {x:List UInt8} {a:Nat} {l:List Lk} {has:List ByteArray} {k:ByteArray} {v:List UInt8} (h:lineSel x l=some (k,v)) :
    lineD x a l has=if err2 x l=0 then fieldD a (line2 x l) (has2 x has) k v else .bad a (err2 x l):=by
  unfold lineSel at h
  unfold lineD err2 line2 has2
  by_cases h1:Lib.hasPrefix x [45,32]=true
  · rw [if_pos h1] at h
    rw [if_pos h1,if_pos h1,if_pos h1,if_pos h1,h]
  · rw [if_neg h1] at h
    rw [if_neg h1,if_neg h1,if_neg h1,if_neg h1,if_pos rfl]
    by_cases h2:Lib.hasPrefix x [32,32]=true∧l≠[]
    · rw [if_pos h2] at h
      rw [if_pos h2,h]
    · rw [if_neg h2] at h
      cases h
theorem blk_own {w w1:World} {p base n size:Nat} {t e:TypeId} {cs:Array Value} {v:Value} {xs:List Value} (h:Blk w p t cs) (ho:w.ownsRow base e size v n xs) (hg:w.grownBy w1 v.ownBlock) (ht:t≠e):Blk w1 p t cs :=
  blk_grown h hg (fun hk => by
    obtain ⟨cells,hc⟩:=own_typed ho p hk.symm
    exact h.other ht p cells rfl hc)
theorem own_own {w w1:World} {base n size base2 n2 size2:Nat} {e e2:TypeId} {v v2:Value} {xs xs2:List Value} (h:w.ownsRow base e size v n xs) (ho:w.ownsRow base2 e2 size2 v2 n2 xs2) (hg:w.grownBy w1 v2.ownBlock) (ht:e≠e2):w1.ownsRow base e size v n xs :=
  own_move h (fun k hk => by
    obtain ⟨cells,hc⟩:=own_typed h k hk
    refine hg.block k (Array.getElem?_eq_some_iff.1 hc).1 (fun hk2 => ?_)
    obtain ⟨cells2,hc2⟩:=own_typed ho k hk2.symm
    rw [hc] at hc2
    injection hc2 with hc2
    injection hc2 with _ hc2
    exact ht hc2)
theorem has_call {w:World} {base:Nat} {hv:Value} {has:List ByteArray} (h:Hs w base hv has) (hn:has.length≤9000) (k:ByteArray) :
    Calls Tryz.prog 59 #[hv,.string k] w fun e w' => e=.returned (.bool (Lib.containsS has k))∧w'=w:=by
  obtain ⟨h1,h2⟩:=h
  rcases h2 with ⟨rfl,h2⟩|⟨q,cap,cs,rfl,hb,hh,hle,hcap,hs,ht⟩
  · have:has=[]:=List.eq_nil_of_length_eq_zero h2
    subst this
    exact Tryz.slices_Contains_string_empty none 0 k w
  · have h3:=Tryz.slices_Contains_string q 0 has.length cap has k w (Nat.le_refl _) (by omega) (by
      intro j hj
      have e:(cs.toList.take (has.length * 1))[j]?=some (.string has[j]):=by
        rw [ht,List.getElem?_map,List.getElem?_eq_getElem hj]
        rfl
      rw [List.getElem?_take,if_pos (by omega),Array.getElem?_toList] at e
      simp only [World.cell?,hh,Nat.zero_add]
      rw [e]
      simp [List.getD_eq_getElem?_getD,List.getElem?_eq_getElem hj])
    rw [List.take_of_length_le (Nat.le_refl _)] at h3
    exact h3
theorem key_cell {w:World} {b2 q o:Nat} (h:Blk w b2 54 #[.pointer (some ⟨q,o,none⟩),.pointer (some ⟨q,o+1,none⟩),.pointer (some ⟨q,o+2,none⟩),.pointer (some ⟨q,o+3,none⟩),.pointer (some ⟨q,o+4,none⟩)])
    (k:Nat) (hk:k<5):w.cell? ⟨b2,k,none⟩=some (.pointer (some ⟨q,o+k,none⟩)):=by
  rw [h.cell k]
  rcases k with _|_|_|_|_|k
  all_goals first|rfl|omega
theorem Ls.last {w:World} {base q c:Nat} {l:List Lk} {x:Lk} (h:Ls w base (.slice (some ⟨q,0,none⟩) (l.length+1) c) (l++[x])) (k:Nat) (hk:k<5) :
    ∃ v,w.cell? ⟨q,l.length * 5+k,none⟩=some v∧w.frozen? ⟨q,l.length * 5+k,none⟩=false:=by
  obtain ⟨q',c',he,at_⟩:=h.at_ (by simp)
  injection he with he1 he2 he3
  injection he1 with he1
  injection he1 with he1
  subst he1
  have h1:=at_.cell l.length k (by simp) hk
  have h2:k<((l++[x])[l.length]'(by simp)).cells.length:=hk
  rw [List.getElem?_eq_getElem h2] at h1
  obtain ⟨cs,hcs,_⟩:=at_.blk
  exact ⟨_,h1,by simp [World.frozen?,hcs]⟩
def KeysAt (w w':World) (q o b1 b2:Nat):Prop :=
  w.heap.size≤b1∧w.heap.size≤b2∧b1≠b2
    ∧ Blk w' b1 9 #[.string wordRoot,.string wordVersion,.string wordRev,.string wordWithin,.string wordSource]
    ∧ Blk w' b2 54 #[.pointer (some ⟨q,o,none⟩),.pointer (some ⟨q,o+1,none⟩),.pointer (some ⟨q,o+2,none⟩),.pointer (some ⟨q,o+3,none⟩),.pointer (some ⟨q,o+4,none⟩)]
    ∧ Below w.heap.size w w'
theorem idx_lt (x:ByteArray) (h:¬ Lib.idxOfS names x<0):∃ k:Nat,k<5∧Lib.idxOfS names x=k:=by
  have e:Lib.idxOfS names x=if wordRoot=x then 0 else if wordVersion=x then 1 else if wordRev=x then 2 else if wordWithin=x then 3 else if wordSource=x then 4 else -1:=rfl
  rw [e] at h ⊢
  by_cases h0:wordRoot=x
  · exact ⟨0,by omega,by rw [if_pos h0];rfl⟩
  rw [if_neg h0] at h ⊢
  by_cases h1:wordVersion=x
  · exact ⟨1,by omega,by rw [if_pos h1];rfl⟩
  rw [if_neg h1] at h ⊢
  by_cases h2:wordRev=x
  · exact ⟨2,by omega,by rw [if_pos h2];rfl⟩
  rw [if_neg h2] at h ⊢
  by_cases h3:wordWithin=x
  · exact ⟨3,by omega,by rw [if_pos h3];rfl⟩
  rw [if_neg h3] at h ⊢
  by_cases h4:wordSource=x
  · exact ⟨4,by omega,by rw [if_pos h4];rfl⟩
  rw [if_neg h4] at h
  simp at h
theorem clone_facts {w0 w w':World} {base p q b2 cc ki:Nat} {wh e:Int} {hv:Value} {init:List Lk} {xx:Lk} {has:List ByteArray} {w1:World} (hk:ki<5) (hb:Below w.heap.size w w') (he:w.heap=w0.heap) (h1:w.os=w0.os) (h2:w.tape=w0.tape) (h3:w.output=w0.output)
    (hk2:Blk w0 b2 54 #[.pointer (some ⟨q,init.length * 5,none⟩),.pointer (some ⟨q,init.length * 5+1,none⟩),.pointer (some ⟨q,init.length * 5+2,none⟩),.pointer (some ⟨q,init.length * 5+3,none⟩),.pointer (some ⟨q,init.length * 5+4,none⟩)])
    (h:Rd w0 p wh e (.slice (some ⟨q,0,none⟩) (init.length+1) cc) hv) (hl:Ls w0 base (.slice (some ⟨q,0,none⟩) (init.length+1) cc) (init++[xx])) (hh:Hs w0 base hv has) (hf:Fr (DS w1 base p) w1 w0) :
    w'.cell? ⟨b2,ki,none⟩=some (.pointer (some ⟨q,init.length * 5+ki,none⟩))∧∃ v,w'.cell? ⟨q,init.length * 5+ki,none⟩=some v∧w'.frozen? ⟨q,init.length * 5+ki,none⟩=false ∧
      Hid (Rd w' p wh e (.slice (some ⟨q,0,none⟩) (init.length+1) cc) hv)∧Hid (Ls w' base (.slice (some ⟨q,0,none⟩) (init.length+1) cc) (init++[xx]))∧Hid (Hs w' base hv has)∧Hid (Fr (DS w1 base p) w1 w'):=by
  have hb0:Below w0.heap.size w0 w':=by
    rw [← he]
    exact ⟨hb.os.trans h1,hb.tape.trans h2,hb.output.trans h3,by rw [← he];exact hb.size,fun k hk => by rw [← he];exact hb.block k hk⟩
  have hl':=hl.below hb0
  obtain ⟨v,hv1,hv2⟩:=Ls.last hl' ki hk
  exact ⟨key_cell (hk2.below hb0) ki hk,v,hv1,hv2,Lib.hid (Blk.below h hb0),Lib.hid hl',Lib.hid (hh.below hb0),Lib.hid (fr_ds hf (fr_ds_below hb0))⟩
theorem line_end {w':World} {base p a ki:Nat} {R:DRes} {E E3 E4 wh4:Int} {C D:Bool} {init:List Lk} {xx:Lk} {has:List ByteArray} {k:ByteArray} {v:List UInt8} {lv hv:Value}
    (hR:R=if E=0 then fieldD a (init++[xx]) has k v else .bad a E) (h3:E3=if E=0 then (if C=true then 4 else 0) else E) (h4:E4=if E3=0 then (if D=true then 7 else 0) else E3)
    (hC:Lib.containsS has k=C) (hD:(needsPath k && !rightL v)=D) (hki:Lib.idxOfS names k=ki) (hw:E4≠0→wh4=a) (h:Rd w' p wh4 E4 lv hv) (hl:Ls w' base lv (init++[xx.set ki (ofL v)])) (hh:Hs w' base hv (has++[k])):HoldsD w' base p R:=by
  have hbad:E4≠0→HoldsD w' base p (.bad a E4):=fun hne => ⟨hne,lv,hv,by rw [hw hne] at h;exact h⟩
  by_cases hE:E=0
  · rw [if_pos hE] at hR h3
    unfold fieldD at hR
    rw [hC,hD] at hR
    cases C with
    | true =>
      rw [if_pos rfl] at hR h3
      rw [h3,if_neg (by decide)] at h4
      rw [hR]
      rw [h4] at hbad
      exact hbad (by decide)
    | false =>
      rw [if_neg (by simp)] at hR h3
      rw [h3,if_pos rfl] at h4
      cases D with
      | true =>
        rw [if_pos rfl] at hR h4
        rw [hR]
        rw [h4] at hbad
        exact hbad (by decide)
      | false =>
        rw [if_neg (by simp)] at hR h4
        rw [h4] at h
        rw [hR,List.getLast?_append]
        simp only [List.getLast?_singleton,Option.some_or,List.dropLast_concat,hki,Int.toNat_natCast]
        exact ⟨lv,hv,wh4,h,hl,hh⟩
  · rw [if_neg hE] at hR h3
    rw [h3,if_neg hE] at h4
    rw [hR]
    rw [h4] at hbad
    exact hbad hE
theorem ls_other {w:World} {base q n c:Nat} {l:List Lk} (h:Ls w base (.slice (some ⟨q,0,none⟩) n c) l):∀ k cs,k=q→w.heap[k]?≠some (.cells cs 9 (0,0)):=by
  rintro k cs rfl hk
  obtain ⟨cells,hc⟩:=own_typed h k rfl
  rw [hc] at hk
  injection hk with hk
  injection hk with _ hk
  exact absurd hk (by decide)
theorem fr_ds_put {w:World} {base p q n c i:Nat} {l:List Lk} {u:Value} (h:Ls w base (.slice (some ⟨q,0,none⟩) n c) l):Fr (DS w base p) w (w.setCell ⟨q,i,none⟩ u):=by
  obtain ⟨cells,hc⟩:=own_typed h q rfl
  exact (Fr.refl _ w).put (p:=⟨q,i,none⟩) (.inl (.inr ⟨own_base h q rfl,cells,_,hc⟩)) u
def SelRel (s:Option (ByteArray × List UInt8)) (k v:ByteArray) (is:Bool):Prop:=match s with|none => is=false|some (k',v') => is=true∧k=k'∧v=ofL v'
def LinePost (w:World) (base p:Nat) (r:DRes) (e:Ending) (w':World):Prop:=e=.returned (.tuple #[])∧HoldsD w' base p r∧Fr (DS w base p) w w'
section
variable (w:World) (base p:Nat)
set_option maxHeartbeats 2000000 in
set_option maxRecDepth 100000 in
theorem line_calls (x:ByteArray) (a:Nat) (l:List Lk) (has:List ByteArray) (hg:GoodD w base p l has) (hbw:base≤w.heap.size) (hs:x.size≤8000) (hn:l.length≤40) (hh:has.length≤9000) (hG:GL w) :
    Calls Tryz.prog 30 #[.pointer (some ⟨p,0,none⟩),.string x,.int .i64 a] w (LinePost w base p (lineD x.data.toList a l has)):=by
  obtain ⟨lv,hv,wh,h,hl,hh1⟩:=hg
  have HC1:=fun w => Lib.hid (Tryz.strings_CutPrefix x ⟨#[45,32]⟩ w)
  have HC2:=fun w => Lib.hid (Tryz.strings_CutPrefix x ⟨#[32,32]⟩ w)
  have HS:Hid (lineSel x.data.toList l=if Lib.hasPrefix x.data.toList [45,32]=true then pairL (Lib.trimPrefix x.data.toList [45,32]) else if Lib.hasPrefix x.data.toList [32,32]=true∧l≠[] then pairL (Lib.trimPrefix x.data.toList [32,32]) else none):=Lib.hid (by
    unfold lineSel Lib.trimPrefix
    by_cases h1:Lib.hasPrefix x.data.toList [45,32]=true
    · rw [if_pos h1,if_pos h1,if_pos h1]
      rfl
    · rw [if_neg h1,if_neg h1]
      by_cases h2:Lib.hasPrefix x.data.toList [32,32]=true∧l≠[]
      · rw [if_pos h2,if_pos h2,if_pos h2.1]
        rfl
      · rw [if_neg h2,if_neg h2])
  have hp1:(Lib.trimPrefix x.data.toList [45,32]).length≤8000:=by
    unfold Lib.trimPrefix
    have e:x.data.toList.length=x.size:=by simp
    split
    · rw [List.length_drop];omega
    · omega
  have hp2:(Lib.trimPrefix x.data.toList [32,32]).length≤8000:=by
    unfold Lib.trimPrefix
    have e:x.data.toList.length=x.size:=by simp
    split
    · rw [List.length_drop];omega
    · omega
  have HN:=Lib.hid (fun h => lineD_none (x:=x.data.toList) (a:=a) (l:=l) (has:=has) h)
  have HY:=Lib.hid (fun k v h => lineD_some (x:=x.data.toList) (a:=a) (l:=l) (has:=has) (k:=k) (v:=v) h)
  have HP1:=Lib.hid (pair_calls (ofL (Lib.trimPrefix x.data.toList [45,32])) w hp1 hG)
  have HP2:=Lib.hid (pair_calls (ofL (Lib.trimPrefix x.data.toList [32,32])) w hp2 hG)
  rw [ofL_data] at HP1 HP2
  have hxl:x.data.toList.length≤8000:=by
    have e:x.data.toList.length=x.size:=by simp
    omega
  have HV:=Lib.hid (fun k v h => lineSel_len (x:=x.data.toList) (l:=l) (k:=k) (v:=v) hxl h)
  clear hxl
  have E2:Hid (err2 x.data.toList l=if Lib.hasPrefix x.data.toList [45,32]=true then beginE l else 0):=Lib.hid rfl
  have L2:Hid (line2 x.data.toList l=if Lib.hasPrefix x.data.toList [45,32]=true then l++[Lk.zero] else l):=Lib.hid rfl
  have A2:Hid (has2 x.data.toList has=if Lib.hasPrefix x.data.toList [45,32]=true then [] else has):=Lib.hid rfl
  have H:=Lib.hid h
  have HL:=Lib.hid hl
  have HH:=Lib.hid hh1
  have HBW:=Lib.hid hbw
  obtain ⟨A,cc,rfl⟩:=own_slice hl
  have h2:=h.cell 2
  clear hG h hl hh1 hbw hp1 hp2
  generalize lineSel x.data.toList l=SEL at *
  generalize err2 x.data.toList l=E at *
  generalize line2 x.data.toList l=l2 at *
  generalize has2 x.data.toList has=ha2 at *
  generalize Lib.hasPrefix x.data.toList [45,32]=B at *
  generalize Lib.hasPrefix x.data.toList [32,32]=G at *
  generalize Lib.trimPrefix x.data.toList [45,32]=t1 at *
  generalize Lib.trimPrefix x.data.toList [32,32]=t2 at *
  generalize lineD x.data.toList a l has=R at *
  go_enter Tryz.func30,Tryz.ntmps30
  go_wp2_with (fail)
  refine (HC1 _).out.mono ?_
  rintro e w1 ⟨rfl,hw⟩
  rw [hw]
  clear w1 hw
  go_wp2_with (fail)
  refine (HC2 _).out.mono ?_
  rintro e w1 ⟨rfl,hw⟩
  rw [hw]
  clear w1 hw HC1 HC2
  go_upto_block 0 with fail
  go_cut [6,7,8] from 25 to 48 (fun x6 x7 x8 wx => ∃ k v is,x6=.string k∧x7=.string v∧x8=.bool is∧SelRel SEL k v is∧(B=true∨l≠[]∨is=false)∧Below w.heap.size w wx)
  case first =>
    cases B with
    | true =>
      rw [if_pos rfl] at HS
      go_wp2_with (fail)
      refine HP1.out.mono ?_
      rintro e w1 ⟨k,v,is,rfl,hp,hb⟩
      go_wp2_with (fail)
      go_meet
      exact ⟨k,v,is,rfl,rfl,rfl,by rw [HS.out];exact hp,.inl (by simp),hb⟩
    | false =>
      rw [if_neg (by simp)] at HS
      cases G with
      | false =>
        rw [if_neg (by simp)] at HS
        go_wp2_with (fail)
        go_meet
        exact ⟨_,_,_,rfl,rfl,rfl,by rw [HS.out];rfl,.inr (.inr rfl),Below.refl _ _⟩
      | true =>
        by_cases hl0:l=[]
        · rw [if_neg (by simp [hl0])] at HS
          subst hl0
          go_wp2_with (fail)
          go_meet
          exact ⟨_,_,_,rfl,rfl,rfl,by rw [HS.out];rfl,.inr (.inr rfl),Below.refl _ _⟩
        · rw [if_pos ⟨rfl,hl0⟩] at HS
          have hlp:(0:Int)<(l.length:Int):=by have:=List.length_pos_iff.2 hl0;omega
          go_wp2_with (fail)
          refine HP2.out.mono ?_
          rintro e w1 ⟨k,v,is,rfl,hp,hb⟩
          go_wp2_with (fail)
          go_meet
          exact ⟨k,v,is,rfl,rfl,rfl,by rw [HS.out];exact hp,.inr (.inl hl0),hb⟩
  case rest =>
    obtain ⟨k,v,is,rfl,rfl,rfl,hsel,hor,hb⟩:=hcut
    have h1:=H.out.below hb
    have h2:=h1.cell 2
    have HX:=Lib.hid h1
    have HLX:=Lib.hid (HL.out.below hb)
    have HHX:=Lib.hid (HH.out.below hb)
    have HB:=Lib.hid hb
    have HBX:=Lib.hid (Nat.le_trans HBW.out hb.size)
    have HSEL:=Lib.hid hsel
    have HOR:=Lib.hid hor
    clear h1 hb hsel hor HP1 HP2 HS
    cases is with
    | false =>
      have hR:R=.bad a 1:=HN.out (by
        have:=HSEL.out
        cases SEL with
        | none => rfl
        | some q => exact absurd this.1 (by simp))
      have HR:=Lib.hid hR
      clear hR
      go_wp2_with (fail)
      refine (wrong_set wc p wh _ hv HX.out a 1).mono ?_
      rintro e w2 ⟨rfl,h3,hf3⟩
      have H3:=Lib.hid h3
      have HF3:=Lib.hid hf3
      clear h3 hf3
      go_wp2_with (fail)
      refine bodyPost_ret (results_none rfl _ _ _) rfl ?_
      refine ⟨rfl,?_,fr_ds (fr_ds_below HB.out) (fr_ds_p HF3.out)⟩
      rw [HR.out]
      exact ⟨by decide,_,_,H3.out⟩
    | true =>
      have hR:∃ k' v',SEL=some (k',v')∧k=k'∧v=ofL v':=by
        have:=HSEL.out
        cases SEL with
        | none => exact absurd this (by simp [SelRel])
        | some q => exact ⟨q.1,q.2,rfl,this.2.1,this.2.2⟩
      obtain ⟨k',v',hS,hk,hv'⟩:=hR
      have HR:=Lib.hid (HY.out _ _ hS)
      subst hS
      subst hk hv'
      clear HSEL HN HY
      go_upto_if 56 with fail
      go_cut [] from 57 to 83 (fun wx => ∃ lv2 hv2 wh2,Rd wx p wh2 E lv2 hv2∧Ls wx base lv2 l2∧Hs wx base hv2 ha2∧(E≠0→wh2=a)∧Fr (DS w base p) w wx∧l2.length≤41∧l2≠[]∧ha2.length≤9000)
      case first =>
        cases B with
        | false =>
          go_wp2_with (fail)
          go_meet
          rw [if_neg (by simp)] at E2 L2 A2
          rw [E2.out,L2.out,A2.out]
          exact ⟨_,_,wh,HX.out,HLX.out,HHX.out,fun h => absurd rfl h,fr_ds_below HB.out,by omega,by
            rcases HOR.out with h|h|h
            · simp at h
            · exact h
            · simp at h,hh⟩
        | true =>
          rw [if_pos rfl] at E2 L2 A2
          go_wp2_with (fail)
          refine (ended_calls wc p (.slice A l.length cc) hv wh a base l HX.out HLX.out hn).mono ?_
          rintro e w3 ⟨rfl,h3,hf3⟩
          have h32:=h3.cell 2
          have H3:=Lib.hid h3
          have HL3:=Lib.hid (HLX.out.keep hf3 (HX.out.other (by decide)))
          have HF3:=Lib.hid (show Fr (DS w base p) w w3 from fr_ds (fr_ds_below HB.out) (fr_ds_p hf3))
          have HB3:=Lib.hid (Nat.le_trans HBX.out hf3.size)
          clear h3 hf3
          by_cases h40:40≤l.length
          · have HE:Hid (beginE l=if endedE l=0 then 2 else endedE l):=Lib.hid (by unfold beginE;rw [if_pos h40])
            go_wp2_with (fail)
            refine (wrong_any w3 p (if endedE l=0 then wh else a) (endedE l) (.slice A l.length cc) hv H3.out a 2).mono ?_
            rintro e w4 ⟨rfl,h4,hf4⟩
            have h42:=h4.cell 2
            have H4:=Lib.hid h4
            have HL4:=Lib.hid (HL3.out.keep hf4 (H3.out.other (by decide)))
            have HF4:=Lib.hid (show Fr (DS w base p) w w4 from fr_ds HF3.out (fr_ds_p hf4))
            have HB4:=Lib.hid (Nat.le_trans HB3.out hf4.size)
            clear h4 hf4
            have HXX:=H4
            have HLXX:=HL4
            have HFXX:=HF4
            have HBXX:=HB4
            go_wp2_with (first|((with_reducible refine gate_builtin (b:=.append) (xs:=#[.tmp 76,.tmp 78]) rfl ?_);at_builtin;refine print_append_cells (w0:=w4) base rfl (.tmp 76) (.tmp 78) 25 43 _ 5 80 rfl Tryz.underlying25 info39 rfl (by decide) (by decide) (.slice A l.length cc) l.length (lkCells l) Lk.zero.cells rfl rfl rfl Lk.one HLXX.out (Below.refl _ _) HBXX.out (by omega) ?next))
            case next =>
              intro v1 w1 hown hb1 hg1 hat
              obtain ⟨A1,c1,rfl⟩:=own_slice hown
              have hrx:=blk_own HXX.out HLXX.out hg1 (by decide)
              have k2:=hrx.cell 2
              have k3:=hrx.cell 3
              have u2:=hrx.unfrozen 2
              have u3:=hrx.unfrozen 3
              have HRX1:=Lib.hid hrx
              have HO1:=Lib.hid (Ls.snoc hown)
              have HF1:=Lib.hid (fr_ds HFXX.out (fr_ds_own HLXX.out hg1))
              clear hrx hown hb1 hg1 hat
              go_wp2_with (fail)
              go_meet
              have hput:=(HRX1.out.put 2 (.slice A1 (l.length+1) c1)).put 3 (.slice none 0 0)
              have hfr:=((Fr.refl (·=p) w1).put (p:=⟨p,2,none⟩) (.inl rfl) (.slice A1 (l.length+1) c1)).put (p:=⟨p,3,none⟩) (.inl rfl) (.slice none 0 0)
              rw [E2.out,L2.out,A2.out,HE.out]
              exact ⟨_,_,_,hput,HO1.out.keep hfr (HRX1.out.other (by decide)),own_nil _ _ _ 1,fun _ => by split <;> rfl,fr_ds HF1.out (fr_ds_p hfr),by simp;omega,by simp,by simp⟩
          · have HE:Hid (beginE l=endedE l):=Lib.hid (by unfold beginE;rw [if_neg h40];split <;> simp_all)
            have HXX:=H3
            have HLXX:=HL3
            have HFXX:=HF3
            have HBXX:=HB3
            go_wp2_with (first|((with_reducible refine gate_builtin (b:=.append) (xs:=#[.tmp 76,.tmp 78]) rfl ?_);at_builtin;refine print_append_cells (w0:=w3) base rfl (.tmp 76) (.tmp 78) 25 43 _ 5 80 rfl Tryz.underlying25 info39 rfl (by decide) (by decide) (.slice A l.length cc) l.length (lkCells l) Lk.zero.cells rfl rfl rfl Lk.one HLXX.out (Below.refl _ _) HBXX.out (by omega) ?next))
            case next =>
              intro v1 w1 hown hb1 hg1 hat
              obtain ⟨A1,c1,rfl⟩:=own_slice hown
              have hrx:=blk_own HXX.out HLXX.out hg1 (by decide)
              have k2:=hrx.cell 2
              have k3:=hrx.cell 3
              have u2:=hrx.unfrozen 2
              have u3:=hrx.unfrozen 3
              have HRX1:=Lib.hid hrx
              have HO1:=Lib.hid (Ls.snoc hown)
              have HF1:=Lib.hid (fr_ds HFXX.out (fr_ds_own HLXX.out hg1))
              clear hrx hown hb1 hg1 hat
              go_wp2_with (fail)
              go_meet
              have hput:=(HRX1.out.put 2 (.slice A1 (l.length+1) c1)).put 3 (.slice none 0 0)
              have hfr:=((Fr.refl (·=p) w1).put (p:=⟨p,2,none⟩) (.inl rfl) (.slice A1 (l.length+1) c1)).put (p:=⟨p,3,none⟩) (.inl rfl) (.slice none 0 0)
              rw [E2.out,L2.out,A2.out,HE.out]
              exact ⟨_,_,_,hput,HO1.out.keep hfr (HRX1.out.other (by decide)),own_nil _ _ _ 1,fun h => by rw [if_neg h],fr_ds HF1.out (fr_ds_p hfr),by simp;omega,by simp,by simp⟩
      case rest =>
        obtain ⟨lv2,hv2,wh2,h3,hl3,hh3,hw3,hf3,hn3,hne3,hm3⟩:=hcut
        have h33:=h3.cell 3
        have H3:=Lib.hid h3
        have HL3:=Lib.hid hl3
        have HH3:=Lib.hid hh3
        have HW3:=Lib.hid hw3
        have HF3:=Lib.hid hf3
        have HB3:=Lib.hid (Nat.le_trans HBW.out hf3.size)
        have HCN:=Lib.hid (has_call hh3 hm3 k)
        obtain ⟨init,xx,rfl⟩:∃ init xx,l2=init++[xx]:=by
          rcases List.eq_nil_or_concat l2 with h|⟨i,y,h⟩
          · exact absurd h hne3
          · exact ⟨i,y,by rw [h,List.concat_eq_append]⟩
        clear h3 hl3 hh3 hw3 hf3 HX HLX HHX HB HBX HOR E2 L2 A2 h2 H HL HH hne3
        obtain ⟨C,hC⟩:∃ C,Lib.containsS ha2 k=C:=⟨_,rfl⟩
        obtain ⟨D,hD⟩:∃ D,(needsPath k && !rightL v')=D:=⟨_,rfl⟩
        obtain ⟨E3,hE3⟩:∃ E3:Int,E3=if E=0 then (if C=true then 4 else 0) else E:=⟨_,rfl⟩
        obtain ⟨E4,hE4⟩:∃ E4:Int,E4=if E3=0 then (if D=true then 7 else 0) else E3:=⟨_,rfl⟩
        have HE3:=Lib.hid hE3
        have HE4:=Lib.hid hE4
        have HCC:=Lib.hid hC
        have HDD:=Lib.hid hD
        rw [hC] at HCN
        clear hC hE3 hE4 hD
        go_wp2_with (fail)
        refine HCN.out.mono ?_
        rintro e w4 ⟨rfl,hw4⟩
        rw [hw4]
        clear w4 hw4 HCN
        go_upto_if 89 with fail
        go_cut [] from 90 to 94 (fun wx => ∃ wh3,Rd wx p wh3 E3 lv2 hv2∧(E3≠0→wh3=a)∧Fr (·=p) wc wx)
        case first =>
          cases C with
          | false =>
            go_wp2_with (fail)
            go_meet
            have e3:E3=E:=by rw [HE3.out];simp;exact fun h => h.symm
            rw [e3]
            exact ⟨wh2,H3.out,HW3.out,Fr.refl _ _⟩
          | true =>
            go_wp2_with (fail)
            refine (wrong_any wc p wh2 E lv2 hv2 H3.out a 4).mono ?_
            rintro e w4 ⟨rfl,h4,hf4⟩
            have H4:=Lib.hid h4
            have HF4:=Lib.hid hf4
            clear h4 hf4
            go_wp2_with (fail)
            go_meet
            have e3:E3=if E=0 then 4 else E:=by rw [HE3.out];simp
            rw [e3]
            refine ⟨_,H4.out,?_,HF4.out⟩
            intro _
            split
            · rfl
            · rename_i hE
              exact HW3.out hE
        case rest =>
          obtain ⟨wh3,h4,hw4,hf4⟩:=hcut
          have H4:=Lib.hid h4
          have HL4:=Lib.hid (HL3.out.keep hf4 (H3.out.other (by decide)))
          have HH4:=Lib.hid (HH3.out.keep hf4 (H3.out.other (by decide)))
          have HF4:=Lib.hid (show Fr (DS w base p) w _ from fr_ds HF3.out (fr_ds_p hf4))
          have HB4:=Lib.hid (Nat.le_trans HB3.out hf4.size)
          have HW4:=Lib.hid hw4
          clear h4 hw4 hf4 H3 HL3 HH3 HF3 HB3 HW3 h33
          have HRC:=fun w => Lib.hid (show Calls Tryz.prog 60 #[.string (ofL v')] w fun e w' => e=.returned (.bool (rightL v'))∧Drawn0 w w' from right_calls v' w (by have:=(HV.out _ _ rfl).1;omega))
          go_upto_region 16 with fail
          go_cut [105] from 95 to 105 (fun c wx => c=.bool D∧∃ n,wx=wc.drewN n)
          case first =>
            cases hw1:(k.toList == [114,111,111,116]) with
            | true =>
              have HNP:=Lib.hid (show needsPath k=true from by unfold needsPath;rw [hw1];rfl)
              go_wp2_with (fail)
              refine (HRC _).out.mono ?_
              rintro e w5 ⟨rfl,n,rfl⟩
              go_wp2_with (fail)
              go_meet
              refine ⟨by rw [← HDD.out,HNP.out];rfl,n,rfl⟩
            | false =>
              cases hw2:(k.toList == [115,111,117,114,99,101]) with
              | true =>
                have HNP:=Lib.hid (show needsPath k=true from by unfold needsPath;rw [hw1,hw2];rfl)
                go_wp2_with (fail)
                refine (HRC _).out.mono ?_
                rintro e w5 ⟨rfl,n,rfl⟩
                go_wp2_with (fail)
                go_meet
                refine ⟨by rw [← HDD.out,HNP.out];rfl,n,rfl⟩
              | false =>
                have HNP:=Lib.hid (show needsPath k=false from by unfold needsPath;rw [hw1,hw2];rfl)
                go_wp2_with (fail)
                go_meet
                refine ⟨by rw [← HDD.out,HNP.out];rfl,0,rfl⟩
          case rest =>
            obtain ⟨rfl,n5,hw5⟩:=hcut
            have H5:=Lib.hid (show Rd _ p wh3 E3 lv2 hv2 from H4.out.drewN n5)
            have HL5:=Lib.hid (show Ls (World.drewN _ n5) base lv2 (init++[xx]) from HL4.out)
            have HH5:=Lib.hid (show Hs (World.drewN _ n5) base hv2 ha2 from HH4.out)
            have HF5:=Lib.hid (HF4.out.drewN n5)
            have HB5:=Lib.hid (show base≤(World.drewN _ n5).heap.size from HB4.out)
            rw [← hw5] at H5 HL5 HH5 HF5 HB5
            clear hw5 H4 HL4 HH4 HF4 HB4 HRC
            go_upto_if 105 with fail
            go_cut [] from 106 to 110 (fun wx => ∃ wh4,Rd wx p wh4 E4 lv2 hv2∧(E4≠0→wh4=a)∧Fr (·=p) wc wx)
            case first =>
              cases D with
              | false =>
                go_wp2_with (fail)
                go_meet
                have e3:E4=E3:=by rw [HE4.out];simp;exact fun h => h.symm
                rw [e3]
                exact ⟨wh3,H5.out,HW4.out,Fr.refl _ _⟩
              | true =>
                go_wp2_with (fail)
                refine (wrong_any wc p wh3 E3 lv2 hv2 H5.out a 7).mono ?_
                rintro e w4 ⟨rfl,h4,hf4⟩
                have H4:=Lib.hid h4
                have HF4:=Lib.hid hf4
                clear h4 hf4
                go_wp2_with (fail)
                go_meet
                have e3:E4=if E3=0 then 7 else E3:=by rw [HE4.out];simp
                rw [e3]
                refine ⟨_,H4.out,?_,HF4.out⟩
                intro _
                split
                · rfl
                · rename_i hE
                  exact HW4.out hE
            case rest =>
              obtain ⟨wh4,h6,hw6,hf6⟩:=hcut
              have h63:=h6.cell 3
              have H6:=Lib.hid h6
              have HL6:=Lib.hid (HL5.out.keep hf6 (H5.out.other (by decide)))
              have HH6:=Lib.hid (HH5.out.keep hf6 (H5.out.other (by decide)))
              have HF6:=Lib.hid (show Fr (DS w base p) w _ from fr_ds HF5.out (fr_ds_p hf6))
              have HB6:=Lib.hid (Nat.le_trans HB5.out hf6.size)
              have HW6:=Lib.hid hw6
              clear h6 hw6 hf6 H5 HL5 HH5 HF5 HB5 HW4
              obtain ⟨A2,c2,rfl⟩:=own_slice HH6.out
              go_wp2_with (first|((with_reducible refine gate_builtin (b:=.append) (xs:=#[.tmp 115,.tmp 117]) rfl ?_);at_builtin;refine print_append_cells (w0:=wc) base rfl (.tmp 115) (.tmp 117) 36 9 _ 1 16 rfl Tryz.underlying36 infoS rfl (by decide) (by decide) (.slice A2 ha2.length c2) ha2.length (ha2.map Value.string) [.string k] rfl rfl rfl (by intro u hu;simp at hu;subst hu;rfl) HH6.out (Below.refl _ _) HB6.out (by omega) ?next))
              case next =>
                intro v1 w7 hown hb1 hg1 hat
                obtain ⟨A3,c3,rfl⟩:=own_slice hown
                have hrx:=blk_own H6.out HH6.out hg1 (by decide)
                have hlx:=own_own HL6.out HH6.out hg1 (by decide)
                have k3:=hrx.cell 3
                have u3:=hrx.unfrozen 3
                have HRX:=Lib.hid hrx
                have HLX:Hid (Ls w7 base lv2 (init++[xx])):=Lib.hid hlx
                have HHX:Hid (Hs w7 base (.slice A3 (ha2.length+1) c3) (ha2++[k])):=Lib.hid (by unfold Hs;simpa using hown)
                have HFX:=Lib.hid (show Fr (DS w base p) w w7 from fr_ds HF6.out (fr_ds_own HH6.out hg1))
                have HBX:=Lib.hid (Nat.le_trans HB6.out hg1.size)
                clear hrx hlx hown hb1 hg1 hat H6 HL6 HH6 HF6 HB6 h63
                have hput:=HRX.out.put 3 (.slice A3 (ha2.length+1) c3)
                have hfr:=(Fr.refl (·=p) w7).put (p:=⟨p,3,none⟩) (.inl rfl) (.slice A3 (ha2.length+1) c3)
                have HL8:=Lib.hid (HLX.out.keep hfr (HRX.out.other (by decide)))
                have HH8:=Lib.hid (HHX.out.keep hfr (HRX.out.other (by decide)))
                have HF8:=Lib.hid (fr_ds HFX.out (fr_ds_p hfr))
                have HB8:=Lib.hid (show base≤(w7.setCell ⟨p,3,none⟩ (.slice A3 (ha2.length+1) c3)).heap.size from Nat.le_trans HBX.out hfr.size)
                have H8:=Lib.hid (show Rd (w7.setCell ⟨p,3,none⟩ (.slice A3 (ha2.length+1) c3)) p wh4 E4 lv2 (.slice A3 (ha2.length+1) c3) from hput)
                clear hput hfr HRX HLX HHX HFX HBX
                obtain ⟨q,cc2,rfl,at_⟩:=HL8.out.at_ (by simp)
                have hlen:(init++[xx]).length=init.length+1:=by simp
                rw [hlen] at HL8 H8
                have hcap:init.length+1≤cc2:=by have:=at_.le;simp at this;omega
                have hql:q<_:=at_.lt
                have HQ:=Lib.hid (show p≠q∧base≤q from by
                  obtain ⟨cs,hcs,_⟩:=at_.blk
                  exact ⟨fun e => Blk.ty H8.out (by decide) q cs e.symm hcs,at_.base⟩)
                have h82:=H8.out.cell 2
                rw [hlen] at hn3
                clear at_
                have i1:(0:Int)≤(init.length:Int)∧(init.length:Int)<(init.length:Int)+1:=⟨by omega,by omega⟩
                have i2:IntKind.i64.wrap (init.length:Int)=init.length:=IntWalk.i64_in _ ⟨by omega,by omega⟩
                go_wp2_with (fail)
                generalize hW8:w7.setCell ⟨p,3,none⟩ (.slice A3 (ha2.length+1) c3)=w8 at *
                clear hW8 u3 k3
                go_cut [13,14] from 121 to 135 (fun x4 x5 wx => ∃ b1 b2:Nat,x4=.slice (some ⟨b1,0,none⟩) 5 5∧x5=.slice (some ⟨b2,0,none⟩) 5 5∧KeysAt w8 wx q (init.length * 5) b1 b2)
                case first =>
                  go_region_with (go_at_call 20;refine (fields_calls _ q (init.length * 5)).mono ?_;rintro e w4 ⟨b1,b2,rfl,hb1,hb2,hb12,hk1,hk2,hbl4⟩)
                  all_goals (go_wp2_with (fail);go_meet)
                  all_goals exact ⟨_,_,rfl,rfl,hb1,hb2,hb12,hk1,hk2,⟨hbl4.os,hbl4.tape,hbl4.output,hbl4.size,hbl4.block⟩⟩
                case rest =>
                  obtain ⟨b1,b2,rfl,rfl,hb1,hb2,hb12,hk1,hk2,hbl⟩:=hcut
                  have H9:=Lib.hid (H8.out.below hbl)
                  have HL9:=Lib.hid (HL8.out.below hbl)
                  have HH9:=Lib.hid (HH8.out.below hbl)
                  have HF9:=Lib.hid (show Fr (DS w base p) w _ from fr_ds HF8.out (fr_ds_below hbl))
                  have HB9:=Lib.hid (Nat.le_trans HB8.out hbl.size)
                  have HK1:=Lib.hid hk1
                  have HK2:=Lib.hid hk2
                  have HNK:=Lib.hid (show b2≠p∧b2≠q from by
                    have h1:=Blk.lt H8.out
                    omega)
                  clear hb1 hb2 hb12 hk1 hk2 hbl H8 HL8 HH8 HF8 HB8 h82
                  have hnm:=(HV.out _ _ rfl).2
                  have hki:∃ ki:Nat,ki<5∧Lib.idxOfS names k=ki:=idx_lt k (by
                    unfold Lib.containsS at hnm
                    have:=of_decide_eq_true hnm
                    omega)
                  obtain ⟨ki,hk5,hki⟩:=hki
                  have HKI:=Lib.hid hki
                  have HIX:∀ w',Blk w' b1 9 #[.string wordRoot,.string wordVersion,.string wordRev,.string wordWithin,.string wordSource]→Hid (Calls Tryz.prog 62 #[.slice (some ⟨b1,0,none⟩) 5 5,.string k] w' fun e w2 => e=.returned (.int .i64 (ki:Int))∧w2=w'):=fun w' hk => Lib.hid (by
                    have:=Tryz.slices_Index_string b1 0 5 5 names k w' (by decide) (by decide) (by
                      intro j hj
                      have:=hk.cell j
                      rw [Nat.zero_add,this]
                      have hj':j<5:=hj
                      rcases j with _|_|_|_|_|j
                      all_goals first|rfl|omega)
                    rw [show Lib.idxOfS (names.take 5) k=(ki:Int) from hki] at this
                    exact this)
                  have HCL:=fun w => Lib.hid (clone_calls w (ofL v') (by have:=(HV.out _ _ rfl).1;show v'.length≤_;omega))
                  have i3:(0:Int)≤(ki:Int)∧(ki:Int)<5:=⟨by omega,by omega⟩
                  clear hnm hki
                  go_wp2_with (fail)
                  have hkc:=key_cell HK2.out ki hk5
                  obtain ⟨v0,hst,hfz⟩:=Ls.last HL9.out ki hk5
                  go_region_with (first|(go_at_call 62;refine (HIX _ (by exact HK1.out)).out.mono ?_;rintro e w11 ⟨rfl,hw11⟩;rw [hw11];clear w11 hw11)|(go_at_call 61;refine (HCL _).out.mono ?_;rintro e w10 ⟨rfl,hb10⟩;obtain ⟨hkc',v0',hst',hfz',HA,HLA,HHA,HFA⟩:=clone_facts (w0:=wc) (ki:=ki) hk5 hb10 rfl rfl rfl rfl HK2.out H9.out HL9.out HH9.out HF9.out))
                  all_goals (go_wp2_with (fail))
                  all_goals go_end0
                  all_goals exact ⟨rfl,line_end HR.out HE3.out HE4.out HCC.out HDD.out HKI.out HW6.out (HA.out.far (p:=⟨q,init.length * 5+ki,none⟩) HQ.out.1 _) (HLA.out.put ki hk5 (ofL v')) (HHA.out.keep ((Fr.refl (fun k => k=q) _).put (p:=⟨q,init.length * 5+ki,none⟩) (.inl rfl) _) (ls_other HLA.out)),fr_ds HFA.out (fr_ds_put HLA.out)⟩
end
end Go.Proofs.YtjdjljgbfpkbdaaGreatDoor.Q
