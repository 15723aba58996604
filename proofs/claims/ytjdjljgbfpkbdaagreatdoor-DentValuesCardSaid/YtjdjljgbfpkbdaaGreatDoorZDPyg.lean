import Derived.Test.YtjdjljgbfpkbdaaGreatDoorZDPl
import Derived.Test.YtjdjljgbfpkbdaaGreatDoorZQ23
import Derived.Test.YtjdjljgbfpkbdaaGreatDoorZQ24
import Derived.Test.YtjdjljgbfpkbdaaGreatDoorZQ5
set_option linter.unusedVariables false
set_option linter.unusedSimpArgs false
section
namespace Go.Proofs.YtjdjljgbfpkbdaaGreatDoor.Q
open Go.RowKit Go.Proofs.YtjdjljgbfpkbdaaGreatDoorW.PrintWords Go.Proofs.YtjdjljgbfpkbdaaGreatDoorW.PrintLast Go.Proofs.YtjdjljgbfpkbdaaGreatDoorW.PrintMore
theorem bad_f (b:UInt8):transhumanceref1_bad.f (b.toNat:Int)=some (!plainB b):=by
 have all:∀ n:Nat,n<256→transhumanceref1_bad.f (n:Int)=some (!plainB (UInt8.ofNat n)):=by decide +kernel
 have:=all b.toNat b.toNat_lt
 simpa only [UInt8.ofNat_toNat] using this
theorem rplain_l0 (s:ByteArray) (hs:s.size≤1000000):∀ (d i:Nat),i+d=s.size→Ev (fun k => transhumanceref1_Plain.l0 k s i) ((s.data.toList.drop i).all plainB)
 | 0,i,hi => by
  refine Ev.step (fun _ => transhumanceref1_Plain.l0.eq_2 ..) (Ev.neg (by omega) ?_)
  rw [List.drop_of_length_le (by rw [data_length];omega)]
  exact Ev.now _
 | d+1,i,hi => by
  have hlt:i<s.size:=by omega
  refine Ev.step (fun _ => transhumanceref1_Plain.l0.eq_2 ..) (Ev.pos (by omega) (Ev.pos (by omega) ?_))
  rw [bt_get s i hlt,bad_f,drop_at s i hlt,List.all_cons]
  cases hp:plainB s[i] with
  | true =>
   rw [wrap_id (by omega) (by omega)]
   exact Ev.val rfl (Ev.neg (by simp) (by rw [Bool.true_and];exact rplain_l0 s hs d (i+1) (by omega)))
  | false => exact Ev.val rfl (Ev.pos rfl (Ev.now _))
theorem rplain_ev (s:ByteArray) (hs:s.size≤1000000):Ev (fun k => transhumanceref1_Plain.f k s) (s.data.toList.all plainB):=rplain_l0 s hs s.size 0 (by omega)
theorem rplain_one (s:ByteArray) (i:Nat) (h:i<s.size):Ev (fun k => transhumanceref1_Plain.f k (s.extract i (i+1))) (plainB s[i]):=by
 rw [extract_one s i h]
 have:=rplain_ev (bs [s[i]]) (by rw [size_bs];simp)
 rw [data_bs] at this
 simpa using this
theorem quote_plain {l:List UInt8} (h:l.all plainB=true):(R.quoteL l).all plainB=true:=by
 have one:∀ b:UInt8,plainB b=true→(R.quoteB b).all plainB=true:=by
  intro b hb
  have:∀ n:Nat,n<256→plainB (UInt8.ofNat n)=true→(R.quoteB (UInt8.ofNat n)).all plainB=true:=by decide +kernel
  have h2:=this b.toNat b.toNat_lt
  simp only [UInt8.ofNat_toNat] at h2
  exact h2 hb
 unfold R.quoteL
 rw [List.all_cons,List.all_append]
 have:(l.flatMap R.quoteB).all plainB=true:=by
  rw [List.all_flatMap]
  exact List.all_eq_true.2 fun b hb => one b (List.all_eq_true.1 h b hb)
 rw [this]
 rfl
theorem fold_bad (wh:Nat) (e:Int):∀ (ps:List (List UInt8)) (st:DSt),st.r=.bad wh e→(ps.foldl stepD st).r=.bad wh e
 | [],st,h => h
 | x :: ps,st,h => by
  refine fold_bad wh e ps (stepD st x) ?_
  unfold stepD
  rw [h]
end Go.Proofs.YtjdjljgbfpkbdaaGreatDoor.Q
end
section
namespace Go.Proofs.YtjdjljgbfpkbdaaGreatDoor.Q
open Go.RowKit Go.Proofs.YtjdjljgbfpkbdaaGreatDoorW.PrintWords Go.Proofs.YtjdjljgbfpkbdaaGreatDoorW.PrintLast Go.Proofs.YtjdjljgbfpkbdaaGreatDoorW.PrintMore
theorem index_colon (w:List UInt8):∀ p:List UInt8,(∀ b ∈ p,b≠58)→Lib.index (p++58 :: 32 :: w) [58,32]=(p.length:Nat)
 | [],_ => by simp [Lib.index]
 | b :: p,h => by
  have ih:=index_colon w p fun x hx => h x (List.mem_cons_of_mem _ hx)
  have hb:¬ b=58:=h b List.mem_cons_self
  have hpre:([58,32]:List UInt8).isPrefixOf (b :: (p++58 :: 32 :: w))=false:=by
   simp [List.isPrefixOf,Ne.symm hb]
  show Lib.index (b :: (p++58 :: 32 :: w)) [58,32]=_
  unfold Lib.index
  rw [hpre,if_neg (by simp),ih]
  have:(((p.length:Nat):Int) == -1)=false:=by simp
  rw [this]
  simp
theorem cut_colon (p w:List UInt8) (h:∀ b ∈ p,b≠58):Lib.cut (p++58 :: 32 :: w) [58,32]=(p,w,true):=by
 have e:p++58 :: 32 :: w=(p++[58,32])++w:=by simp
 unfold Lib.cut
 rw [index_colon w p h,if_pos (by omega)]
 simp only [Int.toNat_natCast]
 rw [List.take_append_of_le_length (Nat.le_refl _),List.take_length,e,List.drop_append_of_le_length (by simp),List.drop_of_length_le (by simp)]
 simp
def nm (k:Nat):ByteArray:=names.getD k ByteArray.empty
theorem nm_ok:∀ k:Fin 5,(∀ b ∈ (nm k.val).data.toList,b≠58∧b≠10)∧Lib.containsS names (nm k.val)=true∧Lib.idxOfS names (nm k.val)=(k.val:Int)∧needsPath (nm k.val)=(k.val == 0 || k.val == 4)∧((nm k.val).data.toList.head?=some 114∨(nm k.val).data.toList.head?=some 118∨(nm k.val).data.toList.head?=some 119∨(nm k.val).data.toList.head?=some 115):=by decide +kernel
theorem pair_line (k:Nat) (hk:k<5) (w v:List UInt8) (hw:valueL w=(v,true)):pairL ((nm k).data.toList++58 :: 32 :: w)=some (nm k,v):=by
 obtain ⟨h1,h2,_⟩:=nm_ok ⟨k,hk⟩
 unfold pairL
 rw [cut_colon _ _ fun b hb => (h1 b hb).1]
 have e:(⟨(nm k).data.toList.toArray⟩:ByteArray)=nm k:=ofL_of (nm k)
 simp only [e]
 rw [if_pos ⟨by simp,h2⟩,hw,if_pos rfl]
def lineOf (first:Bool) (k:Nat) (w:List UInt8):List UInt8:=(if first then [45,32] else [32,32])++((nm k).data.toList++58 :: 32 :: w)
theorem line_first (k:Nat) (hk:k<5) (w v:List UInt8) (hw:valueL w=(v,true)) (a:Nat) (l:List Lk) (has:List ByteArray) :
  lineD (lineOf true k w) a l has=if beginE l=0 then fieldD a (l++[Lk.zero]) [] (nm k) v else .bad a (beginE l):=by
 unfold lineD
 have hp:Lib.hasPrefix (lineOf true k w) [45,32]=true:=by simp [lineOf,Lib.hasPrefix]
 have hd:(lineOf true k w).drop 2=(nm k).data.toList++58 :: 32 :: w:=by simp [lineOf]
 rw [if_pos hp,hd,pair_line k hk w v hw]
theorem line_next (k:Nat) (hk:k<5) (w v:List UInt8) (hw:valueL w=(v,true)) (a:Nat) (l:List Lk) (hl:l≠[]) (has:List ByteArray) :
  lineD (lineOf false k w) a l has=fieldD a l has (nm k) v:=by
 unfold lineD
 have hp:¬ Lib.hasPrefix (lineOf false k w) [45,32]=true:=by simp [lineOf,Lib.hasPrefix]
 have hp2:Lib.hasPrefix (lineOf false k w) [32,32]=true:=by simp [lineOf,Lib.hasPrefix]
 have hd:(lineOf false k w).drop 2=(nm k).data.toList++58 :: 32 :: w:=by simp [lineOf]
 rw [if_neg hp,if_pos ⟨hp2,hl⟩,hd,pair_line k hk w v hw]
theorem field_ok (a k:Nat) (hk:k<5) (init:List Lk) (x:Lk) (has:List ByteArray) (v:List UInt8) (hn:nm k ∉ has) (hr:(k=0∨k=4)→rightL v=true) :
  fieldD a (init++[x]) has (nm k) v=.ok (init++[x.set k (ofL v)]) (has++[nm k]):=by
 obtain ⟨_,_,h3,h4,_⟩:=nm_ok ⟨k,hk⟩
 unfold fieldD
 have h1:¬ Lib.containsS has (nm k)=true:=fun h => hn ((Lib.containsS_iff has (nm k)).1 h)
 have h2:¬ (needsPath (nm k) && !rightL v)=true:=by
  intro h
  simp only [Bool.and_eq_true] at h
  rw [h4] at h
  simp only [Bool.or_eq_true,beq_iff_eq] at h
  rw [hr h.1] at h
  simp at h
 rw [if_neg h1,if_neg h2,List.getLast?_append]
 simp only [List.getLast?_singleton,Option.some_or,List.dropLast_concat,h3,Int.toNat_natCast]
 rfl
theorem whole_nl (x:List UInt8):wholeL (x++[10])=x:=by
 unfold wholeL Lib.trimSuffix
 rw [if_pos (by simp [Lib.hasSuffix])]
 simp
theorem word_first (k:Nat) (w:List UInt8):(wordL (lineOf true k w++[10])).head?=some 45∧(wordL (lineOf true k w++[10])).length=(lineOf true k w).length:=by
 unfold wordL
 rw [whole_nl]
 simp [lineOf,Lib.trimLeftB]
theorem word_next (k:Nat) (hk:k<5) (w:List UInt8):(wordL (lineOf false k w++[10])).head?≠some 35∧wordL (lineOf false k w++[10])≠[]:=by
 obtain ⟨_,_,_,_,h5⟩:=nm_ok ⟨k,hk⟩
 unfold wordL
 rw [whole_nl]
 have e:Lib.trimLeftB (lineOf false k w) 32=(nm k).data.toList++58 :: 32 :: w:=by
  unfold lineOf Lib.trimLeftB
  cases hn:(nm k).data.toList with
  | nil => simp [hn] at h5
  | cons b t =>
   rw [hn] at h5
   simp only [List.head?_cons,Option.some.injEq] at h5
   have hb:(b == (32:UInt8))=false:=by
    rcases h5 with rfl|rfl|rfl|rfl <;> rfl
   simp [List.dropWhile,hb]
 rw [e]
 cases hn:(nm k).data.toList with
 | nil => simp [hn] at h5
 | cons b t =>
  rw [hn] at h5
  simp only [List.head?_cons,Option.some.injEq] at h5
  refine ⟨?_,by simp⟩
  simp only [List.cons_append,List.head?_cons,ne_eq,Option.some.injEq]
  rcases h5 with rfl|rfl|rfl|rfl <;> decide
theorem step_first (k:Nat) (hk:k<5) (w v:List UInt8) (hw:valueL w=(v,true)) (frm:Nat) (l:List Lk) (has:List ByteArray) (hb:beginE l=0) (hr:(k=0∨k=4)→rightL v=true) :
  stepD ⟨frm,true,.ok l has⟩ (lineOf true k w++[10])=⟨frm+(lineOf true k w++[10]).length,true,.ok (l++[Lk.zero.set k (ofL v)]) [nm k]⟩:=by
 obtain ⟨h1,_⟩:=word_first k w
 unfold stepD
 simp only
 rw [if_neg,if_pos trivial,whole_nl,line_first k hk w v hw,if_pos hb,field_ok _ k hk l Lk.zero [] v (by simp) hr]
 ·rfl
 ·rintro (h|h)
  ·rw [h] at h1
   simp at h1
  ·rw [h1] at h
   simp at h
theorem step_next (k:Nat) (hk:k<5) (w v:List UInt8) (hw:valueL w=(v,true)) (frm:Nat) (init:List Lk) (x:Lk) (has:List ByteArray) (hn:nm k ∉ has) (hr:(k=0∨k=4)→rightL v=true) :
  stepD ⟨frm,true,.ok (init++[x]) has⟩ (lineOf false k w++[10])=⟨frm+(lineOf false k w++[10]).length,true,.ok (init++[x.set k (ofL v)]) (has++[nm k])⟩:=by
 obtain ⟨h1,h2⟩:=word_next k hk w
 unfold stepD
 simp only
 rw [if_neg,if_pos trivial,whole_nl,line_next k hk w v hw _ _ (by simp),field_ok _ k hk init x has v hn hr]
 rintro (h|h)
 ·exact h2 h
 ·exact h1 h
theorem unqGo_cons (x:UInt8) (r acc:List UInt8) (n:Nat):unqGo (x :: r) acc n=if x<32∨126<x then none else if x=34 then some (acc,n+1) else if x=92 then (match r with|[] => none|y :: r' => match esc y with|none => none|some z => unqGo r' (acc++[z]) (n+2)) else unqGo r (acc++[x]) (n+1):=by
 cases r <;> rfl
theorem unqGo_quoteB (b:UInt8) (hb:plainB b=true) (rest acc:List UInt8) (n:Nat):unqGo (R.quoteB b++rest) acc n=unqGo rest (acc++[b]) (n+(R.quoteB b).length):=by
 unfold R.quoteB
 by_cases h0:b=34
 ·subst h0;rw [if_pos rfl];rfl
 rw [if_neg h0]
 by_cases h1:b=92
 ·subst h1;rw [if_pos rfl];rfl
 rw [if_neg h1]
 by_cases h2:b=10
 ·subst h2;rw [if_pos rfl];rfl
 rw [if_neg h2]
 by_cases h3:b=9
 ·subst h3;rw [if_pos rfl];rfl
 rw [if_neg h3]
 have hr:¬ (b<32∨126<b):=by
  simp only [plainB,Bool.or_eq_true,Bool.and_eq_true,beq_iff_eq,decide_eq_true_eq] at hb
  rcases hb with (h|h)|⟨h4,h5⟩
  ·exact absurd h h3
  ·exact absurd h h2
  ·rintro (h|h)
   ·rw [UInt8.lt_iff_toNat_lt] at h;rw [UInt8.le_iff_toNat_le] at h4;omega
   ·rw [UInt8.lt_iff_toNat_lt] at h;rw [UInt8.le_iff_toNat_le] at h5;omega
 rw [List.singleton_append,unqGo_cons,if_neg hr,if_neg h0,if_neg h1]
 rfl
theorem unqGo_quote (v:List UInt8) (hv:v.all plainB=true) (rest acc:List UInt8) (n:Nat) :
  unqGo (v.flatMap R.quoteB++(34 :: rest)) acc n=some (acc++v,n+(v.flatMap R.quoteB).length+1):=by
 induction v generalizing acc n with
 | nil => rw [List.flatMap_nil,List.nil_append,unqGo_cons,if_neg (by decide),if_pos rfl];simp
 | cons b v ih =>
  simp only [List.all_cons,Bool.and_eq_true] at hv
  rw [List.flatMap_cons,List.append_assoc,unqGo_quoteB b hv.1,ih hv.2,List.length_append]
  simp [Nat.add_assoc]
theorem unq_quote (v rest:List UInt8) (hv:v.all plainB=true):unq (R.quoteL v++rest)=some (v,(R.quoteL v).length):=by
 have:R.quoteL v++rest=34 :: (v.flatMap R.quoteB++(34 :: rest)):=by simp [R.quoteL]
 rw [this,unq,unqGo_quote v hv]
 simp [R.quoteL]
 omega
theorem value_quote (v:List UInt8) (hv:v.all plainB=true):valueL (R.quoteL v)=(v,true):=by
 have h:=unq_quote v [] hv
 rw [List.append_nil] at h
 unfold valueL
 rw [h]
 simp
theorem value_plain (v:List UInt8) (hm:mayL v=true):valueL v=(v,true):=by
 cases v with
 | nil => simp [mayL] at hm
 | cons b t =>
  have hb:b≠34:=by
   rintro rfl
   simp [mayL,Lib.indexByte] at hm
  have hu:unq (b :: t)=none:=by
   unfold unq
   split
   ·rename_i r h
    injection h with h1 _
    exact absurd h1 hb
   ·rfl
  unfold valueL
  rw [hu,hm]
theorem toList_data (b:ByteArray):b.toList=b.data.toList:=Lib.toList_data b
theorem right_ne {l:List UInt8} (h:rightL l=true):l≠[]:=by
 rintro rfl
 simp [rightL] at h
theorem ended_snoc {init:List Lk} {x:Lk} (hx:OkLk x) (ha:x.root.data.toList ∉ init.map fun x => x.root.data.toList):endedE (init++[x])=0:=by
 rw [endedE_snoc,if_neg,if_neg]
 ·rw [List.any_eq_true]
  rintro ⟨z,hz,he⟩
  simp only [toList_data,beq_iff_eq] at he
  exact ha (List.mem_map.2 ⟨z,hz,he⟩)
 ·simp only [toList_data,Bool.or_eq_true,Bool.and_eq_true,List.isEmpty_iff]
  rintro (h|⟨h1,h2⟩)
  ·exact right_ne hx.root h
  ·rcases hx.some with h|h
   ·exact h h1
   ·exact h h2
theorem ended_ok {l:List Lk} (h:OkLks l):endedE l=0:=by
 rcases List.eq_nil_or_concat l with rfl|⟨init,x,rfl⟩
 ·rfl
 ·rw [List.concat_eq_append] at *
  refine ended_snoc (h.each x (by simp)) ?_
  have:=h.apart
  rw [List.map_append,List.nodup_append] at this
  intro hm
  exact this.2.2 _ hm _ (by simp) rfl
theorem OkLks.prefix {l m:List Lk} (h:OkLks (l++m)):OkLks l:=by
 refine ⟨fun x hx => h.each x (List.mem_append_left _ hx),?_,?_⟩
 ·have:=h.apart
  rw [List.map_append,List.nodup_append] at this
  exact this.1
 ·have:=h.few
  rw [List.length_append] at this
  omega
theorem begin_ok {l:List Lk} (h:OkLks l) (hn:l.length<40):beginE l=0:=by
 unfold beginE
 rw [if_pos (ended_ok h),if_neg (by omega)]
structure Fl where
 k:Nat
 w:List UInt8
 v:List UInt8
def Fl.ok (f:Fl):Prop:=f.k<5∧valueL f.w=(f.v,true)∧((f.k=0∨f.k=4)→rightL f.v=true)
def setAll (x:Lk) (fs:List Fl):Lk:=fs.foldl (fun x f => x.set f.k (ofL f.v)) x
def nextLines (fs:List Fl):List (List UInt8):=fs.map fun f => lineOf false f.k f.w++[10]
theorem next_run:∀ (fs:List Fl) (frm:Nat) (init:List Lk) (x:Lk) (has:List ByteArray),(∀ f ∈ fs,f.ok)→(has++fs.map fun f => nm f.k).Nodup →
  (nextLines fs).foldl stepD ⟨frm,true,.ok (init++[x]) has⟩=⟨frm+(nextLines fs).flatten.length,true,.ok (init++[setAll x fs]) (has++fs.map fun f => nm f.k)⟩
 | [],frm,init,x,has,_,_ => by simp [nextLines,setAll]
 | f :: fs,frm,init,x,has,hf,hd => by
  obtain ⟨h1,h2,h3⟩:=hf f List.mem_cons_self
  have hn:nm f.k ∉ has:=by
   intro h
   rw [List.map_cons,List.nodup_append] at hd
   exact hd.2.2 _ h _ List.mem_cons_self rfl
  have e:nextLines (f :: fs)=(lineOf false f.k f.w++[10]) :: nextLines fs:=rfl
  rw [e,List.foldl_cons,step_next f.k h1 f.w f.v h2 frm init x has hn h3]
  rw [next_run fs _ init (x.set f.k (ofL f.v)) (has++[nm f.k]) (fun g hg => hf g (List.mem_cons_of_mem _ hg)) (by simpa using hd)]
  simp [setAll,List.append_assoc,Nat.add_assoc]
  omega
def blockLines:List Fl→List (List UInt8)
 | [] => []
 | f :: fs => (lineOf true f.k f.w++[10]) :: nextLines fs
theorem block_run (f:Fl) (fs:List Fl) (frm:Nat) (l:List Lk) (has:List ByteArray) (hb:beginE l=0) (hf:∀ g ∈ f :: fs,g.ok) (hd:((f :: fs).map fun f => nm f.k).Nodup) :
  (blockLines (f :: fs)).foldl stepD ⟨frm,true,.ok l has⟩=⟨frm+(blockLines (f :: fs)).flatten.length,true,.ok (l++[setAll Lk.zero (f :: fs)]) ((f :: fs).map fun f => nm f.k)⟩:=by
 obtain ⟨h1,h2,h3⟩:=hf f List.mem_cons_self
 show List.foldl stepD _ ((lineOf true f.k f.w++[10]) :: nextLines fs)=_
 rw [List.foldl_cons,step_first f.k h1 f.w f.v h2 frm l has hb h3,next_run fs _ l _ [nm f.k] (fun g hg => hf g (List.mem_cons_of_mem _ hg)) (by simpa using hd)]
 simp [blockLines,setAll,Nat.add_assoc]
 omega
def blocksText (bl:List (List Fl)):List (List UInt8):=bl.flatMap blockLines
def blocksLocks (bl:List (List Fl)):List Lk:=bl.map (setAll Lk.zero)
structure Bl (b:List Fl):Prop where
 some:b≠[]
 each:∀ f ∈ b,f.ok
 apart:(b.map fun f => nm f.k).Nodup
theorem blocks_run:∀ (bl:List (List Fl)) (frm:Nat) (l:List Lk) (has:List ByteArray),(∀ b ∈ bl,Bl b)→OkLks (l++blocksLocks bl) →
  ∃ has',(blocksText bl).foldl stepD ⟨frm,true,.ok l has⟩=⟨frm+(blocksText bl).flatten.length,true,.ok (l++blocksLocks bl) has'⟩
 | [],frm,l,has,_,_ => ⟨has,by simp [blocksText,blocksLocks]⟩
 | b :: bl,frm,l,has,hb,ho => by
  obtain ⟨h1,h2,h3⟩:=hb b List.mem_cons_self
  have ho2:OkLks ((l++[setAll Lk.zero b])++blocksLocks bl):=by simpa [blocksLocks] using ho
  have hlen:=ho.few
  have hl:l.length<40:=by
   simp only [blocksLocks,List.length_append,List.length_map,List.length_cons] at hlen
   omega
  cases b with
  | nil => exact absurd rfl h1
  | cons f fs =>
   have hr:=block_run f fs frm l has (begin_ok ho.prefix hl) h2 h3
   obtain ⟨has',hr2⟩:=blocks_run bl (frm+(blockLines (f :: fs)).flatten.length) (l++[setAll Lk.zero (f :: fs)]) ((f :: fs).map fun f => nm f.k) (fun b h => hb b (List.mem_cons_of_mem _ h)) ho2
   refine ⟨has',?_⟩
   have e:blocksText ((f :: fs) :: bl)=blockLines (f :: fs)++blocksText bl:=rfl
   rw [e,List.foldl_append,hr,hr2]
   simp [blocksLocks,Nat.add_assoc]
theorem step_skip (frm:Nat) (begun:Bool) (l:List Lk) (has:List ByteArray) (x:List UInt8) (h:wordL x=[]∨(wordL x).head?=some 35):stepD ⟨frm,begun,.ok l has⟩ x=⟨frm+x.length,begun,.ok l has⟩:=by
 unfold stepD
 simp only
 rw [if_pos h]
theorem pieces_lines:∀ (ls:List (List UInt8)) (t:List UInt8),(∀ l ∈ ls,∀ b ∈ l,b≠10)→pieces ((ls.map fun l => l++[10]).flatten++t)=(ls.map fun l => l++[10])++pieces t
 | [],t,_ => rfl
 | l :: ls,t,h => by
  have e:((l :: ls).map fun l => l++[10]).flatten++t=l++10 :: ((ls.map fun l => l++[10]).flatten++t):=by simp
  rw [e,pieces_step l _ (h l List.mem_cons_self),pieces_lines ls t fun m hm => h m (List.mem_cons_of_mem _ hm)]
  rfl
theorem header_step (frm:Nat):stepD ⟨frm,false,.ok [] []⟩ (locksWordL++[10])=⟨frm+7,true,.ok [] []⟩:=by
 unfold stepD
 simp only
 rw [if_neg (by decide),if_neg (by simp),if_pos (whole_nl locksWordL)]
 rfl
end Go.Proofs.YtjdjljgbfpkbdaaGreatDoor.Q
end
section
namespace Go.Proofs.YtjdjljgbfpkbdaaGreatDoor.Q
open Go.RowKit Go.Proofs.YtjdjljgbfpkbdaaGreatDoorW.PrintWords Go.Proofs.YtjdjljgbfpkbdaaGreatDoorW.PrintLast Go.Proofs.YtjdjljgbfpkbdaaGreatDoorW.PrintMore
theorem badAt_none:∀ s:List UInt8,s.all plainB=true→badAt s=none
 | [],_ => rfl
 | b :: t,h => by
  simp only [List.all_cons,Bool.and_eq_true] at h
  unfold badAt
  rw [if_pos h.1,badAt_none t h.2]
  rfl
def Fl.tidy (f:Fl):Prop:=f.ok∧f.w.all plainB=true∧∀ b ∈ f.w,b≠10
theorem nm_plain:∀ k:Fin 5,(nm k.val).data.toList.all plainB=true:=by decide +kernel
theorem lineOf_tidy (first:Bool) (f:Fl) (h:f.tidy):(lineOf first f.k f.w).all plainB=true∧∀ b ∈ lineOf first f.k f.w,b≠10:=by
 obtain ⟨⟨h1,_,_⟩,h2,h3⟩:=h
 obtain ⟨g1,_⟩:=nm_ok ⟨f.k,h1⟩
 have g2:=nm_plain ⟨f.k,h1⟩
 refine ⟨?_,?_⟩
 ·unfold lineOf
  rw [List.all_append,List.all_append,List.all_cons,List.all_cons,g2,h2]
  cases first <;> rfl
 ·intro b hb
  unfold lineOf at hb
  rcases List.mem_append.1 hb with h|h
  ·cases first
   ·simp at h;subst h;decide
   ·simp at h;rcases h with rfl|rfl <;> decide
  ·rcases List.mem_append.1 h with h|h
   ·exact (g1 b h).2
   ·simp only [List.mem_cons] at h
    rcases h with rfl|rfl|h
    ·decide
    ·decide
    ·exact h3 b h
def rawBlock:List Fl→List (List UInt8)
 | [] => []
 | f :: fs => lineOf true f.k f.w :: fs.map fun g => lineOf false g.k g.w
theorem rawBlock_lines (b:List Fl):(rawBlock b).map (fun l => l++[10])=blockLines b:=by
 cases b with
 | nil => rfl
 | cons f fs => simp [rawBlock,blockLines,nextLines]
theorem rawBlocks_lines (bl:List (List Fl)):(bl.flatMap rawBlock).map (fun l => l++[10])=blocksText bl:=by
 unfold blocksText
 rw [List.map_flatMap]
 congr 1
 funext b
 exact rawBlock_lines b
theorem raw_tidy {bl:List (List Fl)} (h:∀ b ∈ bl,∀ f ∈ b,f.tidy):∀ l ∈ bl.flatMap rawBlock,l.all plainB=true∧∀ b ∈ l,b≠10:=by
 intro l hl
 obtain ⟨b,hb,hl2⟩:=List.mem_flatMap.1 hl
 cases b with
 | nil => simp [rawBlock] at hl2
 | cons f fs =>
  rcases List.mem_cons.1 hl2 with rfl|hl3
  ·exact lineOf_tidy true f (h _ hb f List.mem_cons_self)
  ·obtain ⟨g,hg,rfl⟩:=List.mem_map.1 hl3
   exact lineOf_tidy false g (h _ hb g (List.mem_cons_of_mem _ hg))
def blocksDoc (bl:List (List Fl)):List UInt8:=(locksWordL++[10])++(blocksText bl).flatten
theorem doc_plain {bl:List (List Fl)} (h:∀ b ∈ bl,∀ f ∈ b,f.tidy):(blocksDoc bl).all plainB=true:=by
 unfold blocksDoc
 rw [List.all_append,← rawBlocks_lines]
 have:(((bl.flatMap rawBlock).map fun l => l++[10]).flatten).all plainB=true:=by
  rw [List.all_flatten]
  exact List.all_eq_true.2 fun l hl => by
   obtain ⟨m,hm,rfl⟩:=List.mem_map.1 hl
   rw [List.all_append,(raw_tidy h m hm).1]
   rfl
 rw [this]
 rfl
theorem doc_pieces {bl:List (List Fl)} (h:∀ b ∈ bl,∀ f ∈ b,f.tidy):pieces (blocksDoc bl)=(locksWordL++[10]) :: (blocksText bl++[[]]):=by
 have e:blocksDoc bl=(([locksWordL]:List (List UInt8)).map fun l => l++[10]).flatten++(((bl.flatMap rawBlock).map fun l => l++[10]).flatten++[]):=by
  rw [rawBlocks_lines]
  simp [blocksDoc]
 rw [e,pieces_lines _ _ (by intro l hl;simp at hl;subst hl;decide),pieces_lines _ [] (fun l hl => (raw_tidy h l hl).2),rawBlocks_lines]
 rfl
theorem doc_read (bl:List (List Fl)) (h1:∀ b ∈ bl,Bl b) (h2:∀ b ∈ bl,∀ f ∈ b,f.tidy) (ho:OkLks (blocksLocks bl)) (hz:(blocksDoc bl).length≤8000):locksD (blocksDoc bl)=(blocksLocks bl,0,0):=by
 have hs:start (blocksDoc bl)=⟨0,false,.ok [] []⟩:=by
  unfold start
  rw [badAt_none _ (doc_plain h2)]
 obtain ⟨has',hr⟩:=blocks_run bl (0+7) [] [] h1 (by simpa using ho)
 have hl:(linesD (blocksDoc bl) (pieces (blocksDoc bl))).r=.ok (blocksLocks bl) has':=by
  unfold linesD
  rw [hs,doc_pieces h2,List.foldl_cons,header_step,List.foldl_append,hr,List.foldl_cons,List.foldl_nil,step_skip _ _ _ _ [] (.inl rfl)]
  simp
 rw [locksD_eq _ hz,hl]
 simp only
 rw [if_pos (ended_ok ho)]
structure Qk (q:List UInt8→List UInt8):Prop where
 val:∀ v:List UInt8,v.all plainB=true→v≠[]→valueL (q v)=(v,true)
 plain:∀ v:List UInt8,v.all plainB=true→v≠[]→(q v).all plainB=true
 ends:∀ v:List UInt8,v.all plainB=true→v≠[]→∀ b ∈ q v,b≠10
theorem quoteB_10 (b:UInt8):∀ x ∈ R.quoteB b,x≠10:=by
 intro x hx
 unfold R.quoteB at hx
 split at hx
 ·simp at hx;rcases hx with rfl|rfl <;> decide
 ·split at hx
  ·simp at hx;subst hx;decide
  ·split at hx
   ·simp at hx;rcases hx with rfl|rfl <;> decide
   ·split at hx
    ·simp at hx;rcases hx with rfl|rfl <;> decide
    ·rename_i h2 h1 h0 h3
     simp only [List.mem_singleton] at hx
     subst hx
     assumption
theorem quote_qk:Qk R.quoteL:=by
 refine ⟨fun v h _ => value_quote v h,fun v h _ => quote_plain h,?_⟩
 intro v _ _ b hb
 unfold R.quoteL at hb
 rcases List.mem_cons.1 hb with rfl|hb
 ·decide
 ·rcases List.mem_append.1 hb with hb|hb
  ·obtain ⟨x,_,hx⟩:=List.mem_flatMap.1 hb
   exact quoteB_10 x b hx
  ·simp at hb
   subst hb
   decide
end Go.Proofs.YtjdjljgbfpkbdaaGreatDoor.Q
end
section
namespace Go.Proofs.YtjdjljgbfpkbdaaGreatDoor.Q
open Go.RowKit Go.Proofs.YtjdjljgbfpkbdaaGreatDoorW.PrintWords Go.Proofs.YtjdjljgbfpkbdaaGreatDoorW.PrintLast Go.Proofs.YtjdjljgbfpkbdaaGreatDoorW.PrintMore
theorem rows_l0 (l:List Lk) (hl:l.length≤1000):∀ (d i:Nat),i+d=l.length→Ev (fun k => transhumanceref5_Rows.l0 k (outs l) (outs l) i) true
 | 0,i,hd => Ev.step (fun _ => transhumanceref5_Rows.l0.eq_2 ..) (Ev.neg (by simp only [outs,List.length_map];omega) (Ev.now _))
 | d+1,i,hd => by
  have hw:wrap64 ((i:Int)+1)=((i+1:Nat):Int):=wrap_id (by omega) (by omega)
  have hl2:(outs l).length=l.length:=by simp [outs]
  refine Ev.step (fun _ => transhumanceref5_Rows.l0.eq_2 ..) (Ev.pos (by omega) (Ev.pos (by omega) (Ev.pos (by omega) (Ev.neg ?_ ?_))))
  ·simp
  ·rw [hw]
   exact rows_l0 l hl d (i+1) (by omega)
theorem rows_ev (l:List Lk) (hl:l.length≤1000):Ev (fun k => transhumanceref5_Rows.f k (outs l) (outs l)) true :=
 Ev.pos rfl (rows_l0 l hl l.length 0 (by omega))
theorem dent_read {T:ByteArray} {l:List Lk} (h:locksD T.data.toList=(l,0,0)) (hz:T.size≤140737488351232):dent_Locks.f T=some (outs l,0,0,0):=by
 unfold dent_Locks.f
 rw [if_pos hz,h]
 unfold dent_Locks.line
 rw [h]
 rfl
end Go.Proofs.YtjdjljgbfpkbdaaGreatDoor.Q
end
section
namespace Go.Proofs.YtjdjljgbfpkbdaaGreatDoor.Q
open Go.RowKit Go.Proofs.YtjdjljgbfpkbdaaGreatDoorW.PrintWords Go.Proofs.YtjdjljgbfpkbdaaGreatDoorW.PrintLast Go.Proofs.YtjdjljgbfpkbdaaGreatDoorW.PrintMore
def okFrom:UInt8→List UInt8→Bool
 | _,[] => true
 | p,b :: t => !(b == 10) && !(p == 32 && b == 35) && okFrom b t
theorem contains_cons (b:UInt8) (l sub:List UInt8):Lib.contains (b :: l) sub=(sub.isPrefixOf (b :: l) || Lib.contains l sub):=by
 unfold Lib.contains
 have hg:=Lib.index_ge l sub
 show decide (0≤(if sub.isPrefixOf (b :: l) then (0:Int) else if Lib.index l sub == -1 then -1 else Lib.index l sub+1))=_
 cases hp:sub.isPrefixOf (b :: l) with
 | true => simp
 | false =>
  rw [if_neg (by simp)]
  by_cases h:Lib.index l sub=-1
  ·rw [h];rfl
  ·have:(Lib.index l sub == -1)=false:=by simpa using h
   rw [this,if_neg (by simp),Bool.false_or]
   congr 1
   rw [eq_iff_iff]
   omega
theorem indexByte_cons (b:UInt8) (l:List UInt8) (c:UInt8):decide (0≤Lib.indexByte (b :: l) c)=(b == c || decide (0≤Lib.indexByte l c)):=by
 have hg:=Lib.indexByte_ge l c
 show decide (0≤(if b == c then (0:Int) else if Lib.indexByte l c == -1 then -1 else Lib.indexByte l c+1))=_
 cases hb:b == c with
 | true => simp
 | false =>
  rw [if_neg (by simp),Bool.false_or]
  by_cases h:Lib.indexByte l c=-1
  ·rw [h];rfl
  ·have:(Lib.indexByte l c == -1)=false:=by simpa using h
   rw [this,if_neg (by simp)]
   congr 1
   rw [eq_iff_iff]
   omega
theorem okFrom_eq:∀ (l:List UInt8) (p:UInt8),okFrom p l=(!Lib.contains (p :: l) [32,35] && !decide (0≤Lib.indexByte l 10))
 | [],p => by
  rw [contains_cons]
  have h1:([32,35]:List UInt8).isPrefixOf [p]=false:=by simp [List.isPrefixOf]
  rw [h1]
  rfl
 | b :: t,p => by
  have ih:=okFrom_eq t b
  have hp:([32,35]:List UInt8).isPrefixOf (p :: b :: t)=(p == 32 && b == 35):=by
   simp only [List.isPrefixOf,Bool.and_true]
   congr 1 <;> exact Bool.beq_comm
  rw [contains_cons,indexByte_cons,hp]
  unfold okFrom
  rw [ih]
  cases (b == 10) <;> cases (p == 32 && b == 35) <;> cases Lib.contains (b :: t) [32,35] <;> cases decide (0≤Lib.indexByte t 10) <;> rfl
theorem p7x_l0 (s:ByteArray) (hs:s.size≤100000) (hp:s.data.toList.all plainB=true):∀ (d i:Nat) (p:UInt8),i+d=s.size→(∀ _:0<i,bt s ((i - 1:Nat):Int)=(p.toNat:Int))→(i=0→p=0∧¬ bt s 0=35) →
  Ev (fun k => transhumanceref7_plain.l0 k s i) (okFrom p (s.data.toList.drop i))
 | 0,i,p,hi,_,_ => by
  rw [List.drop_of_length_le (by rw [Q.data_length];omega)]
  exact Ev.step (fun _ => transhumanceref7_plain.l0.eq_2 ..) (Ev.neg (by omega) (Ev.now _))
 | d+1,i,p,hi,h1,h0 => by
  have hlt:i<s.size:=by omega
  have hw:wrap64 ((i:Int)+1)=((i+1:Nat):Int):=wrap_id (by omega) (by omega)
  have ih:=p7x_l0 s hs hp d (i+1) s[i] (by omega) (fun _ => by rw [show i+1 - 1=i from rfl];exact bt_get s i hlt) (fun h => by omega)
  rw [drop_at s i hlt]
  unfold okFrom
  refine Ev.step (fun _ => transhumanceref7_plain.l0.eq_2 ..) (Ev.pos (by omega) (Ev.pos (by omega) ?_))
  by_cases h10:s[i]=10
  ·have:(s[i] == 10)=true:=by simpa using h10
   rw [this]
   exact Ev.pos (by rw [bt_get s i hlt,h10];rfl) (Ev.now _)
  have e10:(s[i] == 10)=false:=by simpa using h10
  have h10':¬ bt s (i:Int)=10:=by rw [bt_get s i hlt];exact fun h => h10 ((byte_int (n:=10) (by decide)).1 h)
  have hpi:plainB s[i]=true:=List.all_eq_true.1 hp _ (by rw [List.mem_iff_getElem];exact ⟨i,by rw [Q.data_length];exact hlt,rfl⟩)
  have hone:Ev (fun k => transhumanceref1_Plain.f k (s.extract i (i+1))) true:=by have:=rplain_one s i hlt;rw [hpi] at this;exact this
  rw [e10]
  refine Ev.neg h10' ?_
  rw [hw]
  refine Ev.pos (by omega) (Ev.pos (by omega) ?_)
  rw [Int.toNat_natCast,Int.toNat_natCast]
  refine Ev.bind hone (Ev.pos rfl ?_)
  by_cases hh:s[i]=35
  ·have e35:(s[i] == 35)=true:=by simpa using hh
   have hi0:0<i:=by
    rcases Nat.eq_zero_or_pos i with h|h
    ·exfalso
     obtain ⟨_,h2⟩:=h0 h
     subst h
     exact h2 (by have:=bt_get s 0 hlt;rw [hh] at this;exact this)
    ·exact h
   have hpv:=h1 hi0
   have hw2:wrap64 ((i:Int) - 1)=((i - 1:Nat):Int):=by rw [wrap_id (by omega) (by omega)];omega
   rw [e35,Bool.and_true]
   refine Ev.pos (by rw [bt_get s i hlt,hh];rfl) (Ev.pos (by omega) (Ev.pos (by omega) ?_))
   rw [hw2,hpv]
   by_cases h32:p=32
   ·have:(p == 32)=true:=by simpa using h32
    rw [this]
    exact Ev.pos (by rw [h32];rfl) (Ev.now _)
   ·have:(p == 32)=false:=by simpa using h32
    rw [this]
    exact Ev.neg (fun h => h32 ((byte_int (n:=32) (by decide)).1 h)) (by simpa using ih)
  ·have e35:(s[i] == 35)=false:=by simpa using hh
   rw [e35,Bool.and_false]
   exact Ev.neg (by rw [bt_get s i hlt];exact fun h => hh ((byte_int (n:=35) (by decide)).1 h)) (by simpa using ih)
theorem may_cons (b:UInt8) (t:List UInt8):mayL (b :: t)=(!(b == 34) && !(b == 32) && !(b == 35) && !((b :: t).getLast (by simp) == 32) && okFrom 0 (b :: t)):=by
 have h0:okFrom 0 (b :: t)=(!Lib.contains (b :: t) [32,35] && !decide (0≤Lib.indexByte (b :: t) 10)):=by
  rw [okFrom_eq,contains_cons]
  have:([32,35]:List UInt8).isPrefixOf (0 :: b :: t)=false:=rfl
  rw [this,Bool.false_or]
 rw [h0]
 show (decide (Lib.indexByte [34,32,35] b<0) && ((b :: t).getLast (by simp) != 32) && !Lib.contains (b :: t) [32,35] && !decide (0≤Lib.indexByte (b :: t) 10))=_
 have h1:decide (Lib.indexByte [34,32,35] b<0)=(!(b == 34) && !(b == 32) && !(b == 35)):=by
  have all:∀ n:Nat,n<256→decide (Lib.indexByte [34,32,35] (UInt8.ofNat n)<0)=(!(UInt8.ofNat n == 34) && !(UInt8.ofNat n == 32) && !(UInt8.ofNat n == 35)):=by decide +kernel
  have:=all b.toNat b.toNat_lt
  simpa only [UInt8.ofNat_toNat] using this
 rw [h1]
 simp only [bne,Bool.and_assoc]
theorem p7x_ev (s:ByteArray) (hs:s.size≤100000) (hp:s.data.toList.all plainB=true):Ev (fun k => transhumanceref7_plain.f k s) (mayL s.data.toList):=by
 have jt:Ev (fun k => transhumanceref7_plain.j0 k s true) false:=Ev.step (fun _ => transhumanceref7_plain.j0.eq_2 ..) (Ev.pos rfl (Ev.now _))
 unfold transhumanceref7_plain.f
 cases hl:s.data.toList with
 | nil => exact Ev.pos (by rw [Lib.toList_data];exact hl) jt
 | cons b t =>
  have h0:¬ s.toList=[]:=by rw [Lib.toList_data,hl];simp
  have hsz:s.size=t.length+1:=by rw [← Q.data_length,hl];rfl
  have hz:0<s.size:=by omega
  have hb0:s[0]=b:=by
   have:s.data.toList[0]'(by rw [hl];simp)=b:=by simp [hl]
   exact this
  have hb:bt s 0=(b.toNat:Int):=by have:=bt_get s 0 hz;rw [hb0] at this;exact this
  rw [may_cons]
  refine Ev.neg h0 (Ev.pos (by omega) ?_)
  rw [hb]
  by_cases h1:b=34
  ·subst h1;exact Ev.pos rfl jt
  refine Ev.neg (fun h => h1 ((byte_int (n:=34) (by decide)).1 h)) ?_
  by_cases h2:b=32
  ·subst h2;exact Ev.pos rfl jt
  refine Ev.neg (fun h => h2 ((byte_int (n:=32) (by decide)).1 h)) ?_
  by_cases h3:b=35
  ·subst h3;exact Ev.pos rfl jt
  have h3':¬ (b.toNat:Int)=35:=fun h => h3 ((byte_int (n:=35) (by decide)).1 h)
  refine Ev.neg h3' ?_
  have e1:(b == 34)=false:=by simpa using h1
  have e2:(b == 32)=false:=by simpa using h2
  have e3:(b == 35)=false:=by simpa using h3
  rw [e1,e2,e3]
  have hw:wrap64 ((s.size:Int) - 1)=((s.size - 1:Nat):Int):=by rw [wrap_id (by omega) (by omega)];omega
  rw [hw]
  refine Ev.pos (by omega) (Ev.pos (by omega) ?_)
  have hlast:s[s.size - 1]'(by omega)=(b :: t).getLast (by simp):=by
   rw [List.getLast_eq_getElem]
   have:∀ (l:List UInt8) (h:s.data.toList=l) (i:Nat) (hi:i<s.size) (hi2:i<l.length),s[i]=l[i]:=by
    intro l h i hi hi2
    subst h
    rfl
   have e:=this (b :: t) hl (s.size - 1) (by omega) (by simp;omega)
   rw [e]
   congr 1
   simp only [List.length_cons]
   omega
  rw [bt_get s (s.size - 1) (by omega),hlast]
  generalize (b :: t).getLast (by simp)=c
  cases hc:c == 32 with
  | true =>
   have:c=32:=by simpa using hc
   subst this
   exact jt
  | false =>
   have hc2:(((c.toNat:Int)) == 32)=false:=by
    have:¬ c=32:=by simpa using hc
    simpa using fun h => this ((byte_int (n:=32) (by decide)).1 h)
   rw [hc2]
   have:=p7x_l0 s hs hp s.size 0 0 (by omega) (fun h => by omega) (fun _ => ⟨rfl,by rw [hb];exact h3'⟩)
   rw [List.drop_zero,hl] at this
   exact Ev.step (fun _ => transhumanceref7_plain.j0.eq_2 ..) (Ev.neg (by simp) (by simpa using this))
end Go.Proofs.YtjdjljgbfpkbdaaGreatDoor.Q
end
section
namespace Go.Proofs.YtjdjljgbfpkbdaaGreatDoor.Q
open Go.RowKit Go.Proofs.YtjdjljgbfpkbdaaGreatDoorW.PrintWords Go.Proofs.YtjdjljgbfpkbdaaGreatDoorW.PrintLast Go.Proofs.YtjdjljgbfpkbdaaGreatDoorW.PrintMore
theorem whole_bare (x:List UInt8) (h:∀ b ∈ x,b≠10):wholeL x=x:=by
 unfold wholeL Lib.trimSuffix
 rw [if_neg]
 intro hs
 have:(10:UInt8) ∈ x:=by
  obtain ⟨p,hp⟩:=List.isSuffixOf_iff_suffix.1 hs
  rw [← hp]
  simp
 exact h 10 this rfl
def mute (x:List UInt8):Prop:=wordL x=[]∨(wordL x).head?=some 35
theorem mute_step {st:DSt} {x:List UInt8} (h:mute x):(stepD st x).r=st.r∧(stepD st x).begun=st.begun:=by
 unfold stepD
 cases hs:st.r with
 | bad wh e => exact ⟨rfl,rfl⟩
 | ok l has =>
  simp only
  have h2:wordL x=[]∨(wordL x).head?=some 35:=h
  rw [if_pos h2]
  exact ⟨rfl,rfl⟩
end Go.Proofs.YtjdjljgbfpkbdaaGreatDoor.Q
end
section
namespace Go.Proofs.YtjdjljgbfpkbdaaGreatDoor.Q
open Go.RowKit Go.Proofs.YtjdjljgbfpkbdaaGreatDoorW.PrintWords Go.Proofs.YtjdjljgbfpkbdaaGreatDoorW.PrintLast Go.Proofs.YtjdjljgbfpkbdaaGreatDoorW.PrintMore
theorem at_mid {s:ByteArray} {a b:List UInt8} {c:UInt8} (h:s.data.toList=a++c :: b):∃ hlt:a.length<s.size,s[a.length]=c:=by
 have hl:a.length<s.data.toList.length:=by rw [h];simp
 have hlt:a.length<s.size:=by rw [Q.data_length] at hl;exact hl
 refine ⟨hlt,?_⟩
 have:s.data.toList[a.length]=c:=by simp [h]
 exact this
theorem extract_mid {s:ByteArray} {a b c:List UInt8} (h:s.data.toList=a++(b++c)):s.extract a.length (a.length+b.length)=bs b:=by
 apply ext_bs
 rw [ByteArray.data_extract,data_bs]
 simp only [Array.toList_extract,List.extract_eq_take_drop]
 rw [h]
 simp
theorem lines_row (s:ByteArray) (hs:s.size≤1000000) (acc:List ByteArray) (pos:List Int) (ha:acc.length≤1000000) (hp:pos.length≤1000000) (rr:List ByteArray × List Int) (done rest:List UInt8):∀ (p cur:List UInt8),(∀ b ∈ p,b≠10)→s.data.toList=done++(cur++p++10 :: rest) →
  Ev (fun k => transhumanceref1_Lines.l0 k s (acc++[bs (cur++p)]) (pos++[(done.length:Int)]) ((done.length+(cur++p).length+1:Nat):Int) ((done.length+(cur++p).length+1:Nat):Int)) rr →
  Ev (fun k => transhumanceref1_Lines.l0 k s acc pos (done.length:Int) ((done.length+cur.length:Nat):Int)) rr
 | [],cur,hn,hd,h => by
  obtain ⟨hlt,hc⟩:=at_mid (a:=done++cur) (b:=rest) (c:=10) (by rw [hd];simp)
  simp only [List.length_append] at hlt
  have hc':bt s ((done.length+cur.length:Nat):Int)=10:=by
   have:=bt_get s (done.length+cur.length) hlt
   rw [this]
   have e:s[done.length+cur.length]'hlt=10:=by
    have:=hc
    simp only [List.length_append] at this
    exact this
   rw [e]
   rfl
  have hw:wrap64 (((done.length+cur.length:Nat):Int)+1)=((done.length+cur.length+1:Nat):Int):=wrap_id (by omega) (by omega)
  have hx:s.extract done.length (done.length+cur.length)=bs cur:=extract_mid (c:=10 :: rest) (by rw [hd];simp)
  rw [List.append_nil] at h
  refine Ev.step (fun _ => transhumanceref1_Lines.l0.eq_2 ..) (Ev.pos (by omega) (Ev.pos (by omega) (Ev.pos (by omega) (Ev.pos hc' (Ev.neg (by omega) (Ev.pos (by omega) (Ev.pos (by omega) (Ev.pos (by omega) (Ev.pos (by omega) ?_)))))))))
  rw [Int.toNat_natCast,Int.toNat_natCast,hx,hw]
  exact h
 | b :: p,cur,hn,hd,h => by
  have hb:b≠10:=hn b List.mem_cons_self
  obtain ⟨hlt,hc⟩:=at_mid (s:=s) (a:=done++cur) (b:=p++10 :: rest) (c:=b) (by rw [hd];simp)
  simp only [List.length_append] at hlt
  have hc':¬ bt s ((done.length+cur.length:Nat):Int)=10:=by
   have:=bt_get s (done.length+cur.length) hlt
   rw [this]
   have e:s[done.length+cur.length]'hlt=b:=by
    have:=hc
    simp only [List.length_append] at this
    exact this
   rw [e]
   exact fun h => hb ((byte_int (n:=10) (by decide)).1 h)
  have hw:wrap64 (((done.length+cur.length:Nat):Int)+1)=((done.length+(cur++[b]).length:Nat):Int):=by
   rw [wrap_id (by omega) (by omega),List.length_append]
   simp only [List.length_cons,List.length_nil]
   omega
  have ih:=lines_row s hs acc pos ha hp rr done rest p (cur++[b]) (fun x hx => hn x (List.mem_cons_of_mem _ hx)) (by rw [hd];simp) (by simpa using h)
  refine Ev.step (fun _ => transhumanceref1_Lines.l0.eq_2 ..) (Ev.pos (by omega) (Ev.pos (by omega) (Ev.pos (by omega) (Ev.neg hc' ?_))))
  rw [hw]
  exact ih
end Go.Proofs.YtjdjljgbfpkbdaaGreatDoor.Q
end
