import Derived.Test.YtjdjljgbfpkbdaaGreatDoorZDPl
import Derived.Test.YtjdjljgbfpkbdaaGreatDoorZQ23
import Derived.Test.YtjdjljgbfpkbdaaGreatDoorZQ24
import Derived.Test.YtjdjljgbfpkbdaaGreatDoorZQ5
set_option linter.unusedVariables false
set_option linter.unusedSimpArgs false
section
namespace Go.Proofs.YtjdjljgbfpkbdaaGreatDoor.Q
open Go.RowKit Go.Proofs.YtjdjljgbfpkbdaaGreatDoorW.PrintWords Go.Proofs.YtjdjljgbfpkbdaaGreatDoorW.PrintLast Go.Proofs.YtjdjljgbfpkbdaaGreatDoorW.PrintMore
theorem bad_f (b:UInt8):transhumanceref1_bad.f (b.toNat:Int)=some (!plainB b):=by
 have all:∀ n:Nat,n<256→transhumanceref1_bad.f (n:Int)=some (!plainB (UInt8.ofNat n)):=by decide +kernel
 have:=all b.toNat b.toNat_lt
 simpa only [UInt8.ofNat_toNat] using this
theorem rplain_l0 (s:ByteArray) (hs:s.size≤1000000):∀ (d i:Nat),i+d=s.size→Ev (fun k => transhumanceref1_Plain.l0 k s i) ((s.data.toList.drop i).all plainB)
 | 0,i,hi => by
  refine Ev.step (fun _ => transhumanceref1_Plain.l0.eq_2 ..) (Ev.neg (by omega) ?_)
  rw [List.drop_of_length_le (by rw [data_length];omega)]
  exact Ev.now _
 | d+1,i,hi => by
  have hlt:i<s.size:=by omega
  refine Ev.step (fun _ => transhumanceref1_Plain.l0.eq_2 ..) (Ev.pos (by omega) (Ev.pos (by omega) ?_))
  rw [bt_get s i hlt,bad_f,drop_at s i hlt,List.all_cons]
  cases hp:plainB s[i] with
  | true =>
   rw [wrap_id (by omega) (by omega)]
   exact Ev.val rfl (Ev.neg (by simp) (by rw [Bool.true_and];exact rplain_l0 s hs d (i+1) (by omega)))
  | false => exact Ev.val rfl (Ev.pos rfl (Ev.now _))
theorem rplain_ev (s:ByteArray) (hs:s.size≤1000000):Ev (fun k => transhumanceref1_Plain.f k s) (s.data.toList.all plainB):=rplain_l0 s hs s.size 0 (by omega)
theorem rplain_one (s:ByteArray) (i:Nat) (h:i<s.size):Ev (fun k => transhumanceref1_Plain.f k (s.extract i (i+1))) (plainB s[i]):=by
 rw [extract_one s i h]
 have:=rplain_ev (bs [s[i]]) (by rw [size_bs];simp)
 rw [data_bs] at this
 simpa using this
def Tame (x:Lk):Prop:=∀ k,k<5→Plainy (x.get k)∧(x.get k).size≤100
theorem Fines.tame {l:List Lk} (h:Fines l):∀ x ∈ l,Tame x:=fun x hx k hk => ⟨(h.each x hx).1.plain k hk,(h.each x hx).le k hk⟩
theorem fold_bad (wh:Nat) (e:Int):∀ (ps:List (List UInt8)) (st:DSt),st.r=.bad wh e→(ps.foldl stepD st).r=.bad wh e
 | [],st,h => h
 | x :: ps,st,h => by
  refine fold_bad wh e ps (stepD st x) ?_
  unfold stepD
  rw [h]
end Go.Proofs.YtjdjljgbfpkbdaaGreatDoor.Q
end
section
namespace Go.Proofs.YtjdjljgbfpkbdaaGreatDoor.Q
open Go.RowKit Go.Proofs.YtjdjljgbfpkbdaaGreatDoorW.PrintWords Go.Proofs.YtjdjljgbfpkbdaaGreatDoorW.PrintLast Go.Proofs.YtjdjljgbfpkbdaaGreatDoorW.PrintMore
theorem index_colon (w:List UInt8):∀ p:List UInt8,(∀ b ∈ p,b≠58)→Lib.index (p++58 :: 32 :: w) [58,32]=(p.length:Nat)
 | [],_ => by simp [Lib.index]
 | b :: p,h => by
  have ih:=index_colon w p fun x hx => h x (List.mem_cons_of_mem _ hx)
  have hb:¬ b=58:=h b List.mem_cons_self
  have hpre:([58,32]:List UInt8).isPrefixOf (b :: (p++58 :: 32 :: w))=false:=by
   simp [List.isPrefixOf,Ne.symm hb]
  show Lib.index (b :: (p++58 :: 32 :: w)) [58,32]=_
  unfold Lib.index
  rw [hpre,if_neg (by simp),ih]
  have:(((p.length:Nat):Int) == -1)=false:=by simp
  rw [this]
  simp
theorem cut_colon (p w:List UInt8) (h:∀ b ∈ p,b≠58):Lib.cut (p++58 :: 32 :: w) [58,32]=(p,w,true):=by
 have e:p++58 :: 32 :: w=(p++[58,32])++w:=by simp
 unfold Lib.cut
 rw [index_colon w p h,if_pos (by omega)]
 simp only [Int.toNat_natCast]
 rw [List.take_append_of_le_length (Nat.le_refl _),List.take_length,e,List.drop_append_of_le_length (by simp),List.drop_of_length_le (by simp)]
 simp
def nm (k:Nat):ByteArray:=names.getD k ByteArray.empty
theorem nm_ok:∀ k:Fin 5,(∀ b ∈ (nm k.val).data.toList,b≠58∧b≠10)∧Lib.containsS names (nm k.val)=true∧Lib.idxOfS names (nm k.val)=(k.val:Int)∧needsPath (nm k.val)=(k.val == 0 || k.val == 4)∧((nm k.val).data.toList.head?=some 114∨(nm k.val).data.toList.head?=some 118∨(nm k.val).data.toList.head?=some 119∨(nm k.val).data.toList.head?=some 115):=by decide +kernel
def lineOf (first:Bool) (k:Nat) (w:List UInt8):List UInt8:=(if first then [45,32] else [32,32])++((nm k).data.toList++58 :: 32 :: w)
theorem whole_nl (x:List UInt8):wholeL (x++[10])=x:=by
 unfold wholeL Lib.trimSuffix
 rw [if_pos (by simp [Lib.hasSuffix])]
 simp
theorem value_plain (v:List UInt8) (hm:mayL v=true):valueL v=(v,true):=by
 cases v with
 | nil => simp [mayL] at hm
 | cons b t =>
  have hb:b≠34:=by
   rintro rfl
   simp [mayL,Lib.indexByte] at hm
  have hu:unq (b :: t)=none:=by
   unfold unq
   split
   ·rename_i r h
    injection h with h1 _
    exact absurd h1 hb
   ·rfl
  unfold valueL
  rw [hu,hm]
theorem toList_data (b:ByteArray):b.toList=b.data.toList:=Lib.toList_data b
structure Fl where
 k:Nat
 w:List UInt8
 v:List UInt8
def Fl.ok (f:Fl):Prop:=f.k<5∧valueL f.w=(f.v,true)∧((f.k=0∨f.k=4)→rightL f.v=true)
def nextLines (fs:List Fl):List (List UInt8):=fs.map fun f => lineOf false f.k f.w++[10]
def blockLines:List Fl→List (List UInt8)
 | [] => []
 | f :: fs => (lineOf true f.k f.w++[10]) :: nextLines fs
def blocksText (bl:List (List Fl)):List (List UInt8):=bl.flatMap blockLines
theorem pieces_lines:∀ (ls:List (List UInt8)) (t:List UInt8),(∀ l ∈ ls,∀ b ∈ l,b≠10)→pieces ((ls.map fun l => l++[10]).flatten++t)=(ls.map fun l => l++[10])++pieces t
 | [],t,_ => rfl
 | l :: ls,t,h => by
  have e:((l :: ls).map fun l => l++[10]).flatten++t=l++10 :: ((ls.map fun l => l++[10]).flatten++t):=by simp
  rw [e,pieces_step l _ (h l List.mem_cons_self),pieces_lines ls t fun m hm => h m (List.mem_cons_of_mem _ hm)]
  rfl
end Go.Proofs.YtjdjljgbfpkbdaaGreatDoor.Q
end
section
namespace Go.Proofs.YtjdjljgbfpkbdaaGreatDoor.Q
open Go.RowKit Go.Proofs.YtjdjljgbfpkbdaaGreatDoorW.PrintWords Go.Proofs.YtjdjljgbfpkbdaaGreatDoorW.PrintLast Go.Proofs.YtjdjljgbfpkbdaaGreatDoorW.PrintMore
def blocksDoc (bl:List (List Fl)):List UInt8:=(locksWordL++[10])++(blocksText bl).flatten
def fldAt (q:List UInt8→List UInt8) (y:Lk) (s k:Nat):List Fl:=if (y.get ((k+s) % 5)).data.toList=[] then [] else [⟨(k+s) % 5,q (y.get ((k+s) % 5)).data.toList,(y.get ((k+s) % 5)).data.toList⟩]
def fldsFrom (q:List UInt8→List UInt8) (y:Lk) (s:Nat):Nat→Nat→List Fl
 | _,0 => []
 | k,d+1 => fldAt q y s k++fldsFrom q y s (k+1) d
def blkOf (q:List UInt8→List UInt8) (s:Nat) (y:Lk):List Fl:=fldsFrom q y s 0 5
def blksFrom (q:List UInt8→List UInt8) (g:Nat→Nat):Nat→List Lk→List (List Fl)
 | _,[] => []
 | i,x :: l => blkOf q (g i) x :: blksFrom q g (i+1) l
end Go.Proofs.YtjdjljgbfpkbdaaGreatDoor.Q
end
section
namespace Go.Proofs.YtjdjljgbfpkbdaaGreatDoor.Q
open Go.RowKit Go.Proofs.YtjdjljgbfpkbdaaGreatDoorW.PrintWords Go.Proofs.YtjdjljgbfpkbdaaGreatDoorW.PrintLast Go.Proofs.YtjdjljgbfpkbdaaGreatDoorW.PrintMore
theorem rows_l0 (l:List Lk) (hl:l.length≤1000):∀ (d i:Nat),i+d=l.length→Ev (fun k => transhumanceref5_Rows.l0 k (outs l) (outs l) i) true
 | 0,i,hd => Ev.step (fun _ => transhumanceref5_Rows.l0.eq_2 ..) (Ev.neg (by simp only [outs,List.length_map];omega) (Ev.now _))
 | d+1,i,hd => by
  have hw:wrap64 ((i:Int)+1)=((i+1:Nat):Int):=wrap_id (by omega) (by omega)
  have hl2:(outs l).length=l.length:=by simp [outs]
  refine Ev.step (fun _ => transhumanceref5_Rows.l0.eq_2 ..) (Ev.pos (by omega) (Ev.pos (by omega) (Ev.pos (by omega) (Ev.neg ?_ ?_))))
  ·simp
  ·rw [hw]
   exact rows_l0 l hl d (i+1) (by omega)
theorem rows_ev (l:List Lk) (hl:l.length≤1000):Ev (fun k => transhumanceref5_Rows.f k (outs l) (outs l)) true :=
 Ev.pos rfl (rows_l0 l hl l.length 0 (by omega))
theorem nm_at (k:Nat):rdOf ByteArray.empty names (k:Int)=nm k:=by
 simp [rdOf,nm]
def linesOf:Bool→List Fl→List (List UInt8)
 | true,fs => blockLines fs
 | false,fs => nextLines fs
theorem linesOf_cons (m:Bool) (f:Fl) (fs:List Fl):linesOf m (f :: fs)=(lineOf m f.k f.w++[10]) :: linesOf false fs:=by
 cases m <;> rfl
def markB (m:Bool):ByteArray:=if m then (⟨#[45,32]⟩:ByteArray) else (⟨#[32,32]⟩:ByteArray)
theorem line_text (m:Bool) (k:Nat) (acc w:ByteArray):(((((acc++markB m)++rdOf ByteArray.empty names (k:Int))++(⟨#[58,32]⟩:ByteArray))++w)++(⟨#[10]⟩:ByteArray))=acc++bs (lineOf m k w.data.toList++[10]):=by
 rw [nm_at]
 apply ext_bs
 cases m <;> simp [ByteArray.data_append,lineOf,markB,data_bs]
theorem mark_size (m:Bool):(markB m).size=2:=by cases m <;> rfl
theorem line_len (m:Bool) (k:Nat) (hk:k<5) (w:List UInt8):(lineOf m k w++[10]).length≤w.length+13:=by
 have h:=(names_sz k hk).1
 rw [nm_at] at h
 have h2:=data_length (nm k)
 unfold lineOf
 simp only [List.length_append,List.length_cons,List.length_nil]
 cases m <;> simp <;> omega
end Go.Proofs.YtjdjljgbfpkbdaaGreatDoor.Q
end
section
namespace Go.Proofs.YtjdjljgbfpkbdaaGreatDoor.Q
open Go.RowKit Go.Proofs.YtjdjljgbfpkbdaaGreatDoorW.PrintWords Go.Proofs.YtjdjljgbfpkbdaaGreatDoorW.PrintLast Go.Proofs.YtjdjljgbfpkbdaaGreatDoorW.PrintMore
def okFrom:UInt8→List UInt8→Bool
 | _,[] => true
 | p,b :: t => !(b == 10) && !(p == 32 && b == 35) && okFrom b t
theorem contains_cons (b:UInt8) (l sub:List UInt8):Lib.contains (b :: l) sub=(sub.isPrefixOf (b :: l) || Lib.contains l sub):=by
 unfold Lib.contains
 have hg:=Lib.index_ge l sub
 show decide (0≤(if sub.isPrefixOf (b :: l) then (0:Int) else if Lib.index l sub == -1 then -1 else Lib.index l sub+1))=_
 cases hp:sub.isPrefixOf (b :: l) with
 | true => simp
 | false =>
  rw [if_neg (by simp)]
  by_cases h:Lib.index l sub=-1
  ·rw [h];rfl
  ·have:(Lib.index l sub == -1)=false:=by simpa using h
   rw [this,if_neg (by simp),Bool.false_or]
   congr 1
   rw [eq_iff_iff]
   omega
theorem indexByte_cons (b:UInt8) (l:List UInt8) (c:UInt8):decide (0≤Lib.indexByte (b :: l) c)=(b == c || decide (0≤Lib.indexByte l c)):=by
 have hg:=Lib.indexByte_ge l c
 show decide (0≤(if b == c then (0:Int) else if Lib.indexByte l c == -1 then -1 else Lib.indexByte l c+1))=_
 cases hb:b == c with
 | true => simp
 | false =>
  rw [if_neg (by simp),Bool.false_or]
  by_cases h:Lib.indexByte l c=-1
  ·rw [h];rfl
  ·have:(Lib.indexByte l c == -1)=false:=by simpa using h
   rw [this,if_neg (by simp)]
   congr 1
   rw [eq_iff_iff]
   omega
theorem okFrom_eq:∀ (l:List UInt8) (p:UInt8),okFrom p l=(!Lib.contains (p :: l) [32,35] && !decide (0≤Lib.indexByte l 10))
 | [],p => by
  rw [contains_cons]
  have h1:([32,35]:List UInt8).isPrefixOf [p]=false:=by simp [List.isPrefixOf]
  rw [h1]
  rfl
 | b :: t,p => by
  have ih:=okFrom_eq t b
  have hp:([32,35]:List UInt8).isPrefixOf (p :: b :: t)=(p == 32 && b == 35):=by
   simp only [List.isPrefixOf,Bool.and_true]
   congr 1 <;> exact Bool.beq_comm
  rw [contains_cons,indexByte_cons,hp]
  unfold okFrom
  rw [ih]
  cases (b == 10) <;> cases (p == 32 && b == 35) <;> cases Lib.contains (b :: t) [32,35] <;> cases decide (0≤Lib.indexByte t 10) <;> rfl
theorem p7x_l0 (s:ByteArray) (hs:s.size≤100000) (hp:s.data.toList.all plainB=true):∀ (d i:Nat) (p:UInt8),i+d=s.size→(∀ _:0<i,bt s ((i - 1:Nat):Int)=(p.toNat:Int))→(i=0→p=0∧¬ bt s 0=35) →
  Ev (fun k => transhumanceref7_plain.l0 k s i) (okFrom p (s.data.toList.drop i))
 | 0,i,p,hi,_,_ => by
  rw [List.drop_of_length_le (by rw [Q.data_length];omega)]
  exact Ev.step (fun _ => transhumanceref7_plain.l0.eq_2 ..) (Ev.neg (by omega) (Ev.now _))
 | d+1,i,p,hi,h1,h0 => by
  have hlt:i<s.size:=by omega
  have hw:wrap64 ((i:Int)+1)=((i+1:Nat):Int):=wrap_id (by omega) (by omega)
  have ih:=p7x_l0 s hs hp d (i+1) s[i] (by omega) (fun _ => by rw [show i+1 - 1=i from rfl];exact bt_get s i hlt) (fun h => by omega)
  rw [drop_at s i hlt]
  unfold okFrom
  refine Ev.step (fun _ => transhumanceref7_plain.l0.eq_2 ..) (Ev.pos (by omega) (Ev.pos (by omega) ?_))
  by_cases h10:s[i]=10
  ·have:(s[i] == 10)=true:=by simpa using h10
   rw [this]
   exact Ev.pos (by rw [bt_get s i hlt,h10];rfl) (Ev.now _)
  have e10:(s[i] == 10)=false:=by simpa using h10
  have h10':¬ bt s (i:Int)=10:=by rw [bt_get s i hlt];exact fun h => h10 ((byte_int (n:=10) (by decide)).1 h)
  have hpi:plainB s[i]=true:=List.all_eq_true.1 hp _ (by rw [List.mem_iff_getElem];exact ⟨i,by rw [Q.data_length];exact hlt,rfl⟩)
  have hone:Ev (fun k => transhumanceref1_Plain.f k (s.extract i (i+1))) true:=by have:=rplain_one s i hlt;rw [hpi] at this;exact this
  rw [e10]
  refine Ev.neg h10' ?_
  rw [hw]
  refine Ev.pos (by omega) (Ev.pos (by omega) ?_)
  rw [Int.toNat_natCast,Int.toNat_natCast]
  refine Ev.bind hone (Ev.pos rfl ?_)
  by_cases hh:s[i]=35
  ·have e35:(s[i] == 35)=true:=by simpa using hh
   have hi0:0<i:=by
    rcases Nat.eq_zero_or_pos i with h|h
    ·exfalso
     obtain ⟨_,h2⟩:=h0 h
     subst h
     exact h2 (by have:=bt_get s 0 hlt;rw [hh] at this;exact this)
    ·exact h
   have hpv:=h1 hi0
   have hw2:wrap64 ((i:Int) - 1)=((i - 1:Nat):Int):=by rw [wrap_id (by omega) (by omega)];omega
   rw [e35,Bool.and_true]
   refine Ev.pos (by rw [bt_get s i hlt,hh];rfl) (Ev.pos (by omega) (Ev.pos (by omega) ?_))
   rw [hw2,hpv]
   by_cases h32:p=32
   ·have:(p == 32)=true:=by simpa using h32
    rw [this]
    exact Ev.pos (by rw [h32];rfl) (Ev.now _)
   ·have:(p == 32)=false:=by simpa using h32
    rw [this]
    exact Ev.neg (fun h => h32 ((byte_int (n:=32) (by decide)).1 h)) (by simpa using ih)
  ·have e35:(s[i] == 35)=false:=by simpa using hh
   rw [e35,Bool.and_false]
   exact Ev.neg (by rw [bt_get s i hlt];exact fun h => hh ((byte_int (n:=35) (by decide)).1 h)) (by simpa using ih)
theorem may_cons (b:UInt8) (t:List UInt8):mayL (b :: t)=(!(b == 34) && !(b == 32) && !(b == 35) && !((b :: t).getLast (by simp) == 32) && okFrom 0 (b :: t)):=by
 have h0:okFrom 0 (b :: t)=(!Lib.contains (b :: t) [32,35] && !decide (0≤Lib.indexByte (b :: t) 10)):=by
  rw [okFrom_eq,contains_cons]
  have:([32,35]:List UInt8).isPrefixOf (0 :: b :: t)=false:=rfl
  rw [this,Bool.false_or]
 rw [h0]
 show (decide (Lib.indexByte [34,32,35] b<0) && ((b :: t).getLast (by simp) != 32) && !Lib.contains (b :: t) [32,35] && !decide (0≤Lib.indexByte (b :: t) 10))=_
 have h1:decide (Lib.indexByte [34,32,35] b<0)=(!(b == 34) && !(b == 32) && !(b == 35)):=by
  have all:∀ n:Nat,n<256→decide (Lib.indexByte [34,32,35] (UInt8.ofNat n)<0)=(!(UInt8.ofNat n == 34) && !(UInt8.ofNat n == 32) && !(UInt8.ofNat n == 35)):=by decide +kernel
  have:=all b.toNat b.toNat_lt
  simpa only [UInt8.ofNat_toNat] using this
 rw [h1]
 simp only [bne,Bool.and_assoc]
theorem p7x_ev (s:ByteArray) (hs:s.size≤100000) (hp:s.data.toList.all plainB=true):Ev (fun k => transhumanceref7_plain.f k s) (mayL s.data.toList):=by
 have jt:Ev (fun k => transhumanceref7_plain.j0 k s true) false:=Ev.step (fun _ => transhumanceref7_plain.j0.eq_2 ..) (Ev.pos rfl (Ev.now _))
 unfold transhumanceref7_plain.f
 cases hl:s.data.toList with
 | nil => exact Ev.pos (by rw [Lib.toList_data];exact hl) jt
 | cons b t =>
  have h0:¬ s.toList=[]:=by rw [Lib.toList_data,hl];simp
  have hsz:s.size=t.length+1:=by rw [← Q.data_length,hl];rfl
  have hz:0<s.size:=by omega
  have hb0:s[0]=b:=by
   have:s.data.toList[0]'(by rw [hl];simp)=b:=by simp [hl]
   exact this
  have hb:bt s 0=(b.toNat:Int):=by have:=bt_get s 0 hz;rw [hb0] at this;exact this
  rw [may_cons]
  refine Ev.neg h0 (Ev.pos (by omega) ?_)
  rw [hb]
  by_cases h1:b=34
  ·subst h1;exact Ev.pos rfl jt
  refine Ev.neg (fun h => h1 ((byte_int (n:=34) (by decide)).1 h)) ?_
  by_cases h2:b=32
  ·subst h2;exact Ev.pos rfl jt
  refine Ev.neg (fun h => h2 ((byte_int (n:=32) (by decide)).1 h)) ?_
  by_cases h3:b=35
  ·subst h3;exact Ev.pos rfl jt
  have h3':¬ (b.toNat:Int)=35:=fun h => h3 ((byte_int (n:=35) (by decide)).1 h)
  refine Ev.neg h3' ?_
  have e1:(b == 34)=false:=by simpa using h1
  have e2:(b == 32)=false:=by simpa using h2
  have e3:(b == 35)=false:=by simpa using h3
  rw [e1,e2,e3]
  have hw:wrap64 ((s.size:Int) - 1)=((s.size - 1:Nat):Int):=by rw [wrap_id (by omega) (by omega)];omega
  rw [hw]
  refine Ev.pos (by omega) (Ev.pos (by omega) ?_)
  have hlast:s[s.size - 1]'(by omega)=(b :: t).getLast (by simp):=by
   rw [List.getLast_eq_getElem]
   have:∀ (l:List UInt8) (h:s.data.toList=l) (i:Nat) (hi:i<s.size) (hi2:i<l.length),s[i]=l[i]:=by
    intro l h i hi hi2
    subst h
    rfl
   have e:=this (b :: t) hl (s.size - 1) (by omega) (by simp;omega)
   rw [e]
   congr 1
   simp only [List.length_cons]
   omega
  rw [bt_get s (s.size - 1) (by omega),hlast]
  generalize (b :: t).getLast (by simp)=c
  cases hc:c == 32 with
  | true =>
   have:c=32:=by simpa using hc
   subst this
   exact jt
  | false =>
   have hc2:(((c.toNat:Int)) == 32)=false:=by
    have:¬ c=32:=by simpa using hc
    simpa using fun h => this ((byte_int (n:=32) (by decide)).1 h)
   rw [hc2]
   have:=p7x_l0 s hs hp s.size 0 0 (by omega) (fun h => by omega) (fun _ => ⟨rfl,by rw [hb];exact h3'⟩)
   rw [List.drop_zero,hl] at this
   exact Ev.step (fun _ => transhumanceref7_plain.j0.eq_2 ..) (Ev.neg (by simp) (by simpa using this))
def wq (v:List UInt8):List UInt8:=if mayL v=true then v else R.quoteL v
theorem wq_len (v:List UInt8):(wq v).length≤2 * v.length+2:=by
 unfold wq
 split
 ·omega
 ·exact R.quoteL_length v
theorem w7x_l1 (l:List Lk) (x:Lk) (hx:Tame x) (i:Int) (rr:ByteArray):∀ (d t:Nat) (acc:ByteArray) (m:Bool),t+d=5→acc.size+d * 220≤100000 →
  (∀ z:ByteArray,z=acc++bs (linesOf m (fldsFrom wq x 0 t d)).flatten→Ev (fun k => transhumanceref7_Write.l0 k (outs l) z (wrap64 (i+1))) rr) →
  Ev (fun k => transhumanceref7_Write.l1 k (outs l) acc i (vals x) names (markB m) t) rr
 | 0,t,acc,m,ht,hz,hk => by
  refine Ev.step (fun _ => transhumanceref7_Write.l1.eq_2 ..) (Ev.neg (by omega) (hk acc ?_))
  have:linesOf m (fldsFrom wq x 0 t 0)=[]:=by cases m <;> rfl
  rw [this]
  exact (ext_bs (by simp [ByteArray.data_append,bs])).symm
 | d+1,t,acc,m,ht,hz,hk => by
  have ht5:t<5:=by omega
  have hw:wrap64 ((t:Int)+1)=((t+1:Nat):Int):=wrap_id (by omega) (by omega)
  obtain ⟨hp,hzt⟩:=hx t ht5
  obtain ⟨hn1,hn2⟩:=names_sz t ht5
  have hmod:(t+0) % 5=t:=by omega
  have hf:fldsFrom wq x 0 t (d+1)=fldAt wq x 0 t++fldsFrom wq x 0 (t+1) d:=rfl
  by_cases he:(x.get t).toList=[]
  ·have hfa:fldAt wq x 0 t=[]:=by
    unfold fldAt
    rw [hmod,if_pos (by rw [← Lib.toList_data];exact he)]
   rw [hf,hfa,List.nil_append] at hk
   have h1:=w7x_l1 l x hx i rr d (t+1) acc m (by omega) (by omega) hk
   refine Ev.step (fun _ => transhumanceref7_Write.l1.eq_2 ..) (Ev.pos (by omega) (Ev.pos (by omega) (Ev.pos (by show (t:Int)<((5:Nat):Int);omega) ?_)))
   rw [vals_at x t ht5,hw]
   exact Ev.pos he h1
  ·have hfa:fldAt wq x 0 t=[⟨t,wq (x.get t).data.toList,(x.get t).data.toList⟩]:=by
    unfold fldAt
    rw [hmod,if_neg (by rw [← Lib.toList_data];exact he)]
   rw [hf,hfa,List.singleton_append,linesOf_cons] at hk
   have e2:(⟨#[58,32]⟩:ByteArray).size=2:=rfl
   have em:=mark_size m
   have hwl:=wq_len (x.get t).data.toList
   rw [Q.data_length] at hwl
   have hll:=line_len m t ht5 (wq (x.get t).data.toList)
   have h1:=w7x_l1 l x hx i rr d (t+1) (acc++bs (lineOf m t (wq (x.get t).data.toList)++[10])) false (by omega)
    (by rw [ByteArray.size_append,size_bs];omega)
    (fun z hzz => hk z (by rw [hzz];apply ext_bs;simp [ByteArray.data_append,data_bs]))
   have hb:=p7x_ev (x.get t) (by omega) hp
   refine Ev.step (fun _ => transhumanceref7_Write.l1.eq_2 ..) (Ev.pos (by omega) (Ev.pos (by omega) (Ev.pos (by show (t:Int)<((5:Nat):Int);omega) ?_)))
   rw [vals_at x t ht5,hw]
   refine Ev.neg he (Ev.bind hb ?_)
   cases hm:mayL (x.get t).data.toList with
   | true =>
    have hwq:wq (x.get t).data.toList=(x.get t).data.toList:=if_pos hm
    have hline:=line_text m t acc (x.get t)
    rw [hwq,← hline] at h1
    refine Ev.pos rfl (Ev.pos ?_ (Ev.pos (by show (t:Int)<((5:Nat):Int);omega) (Ev.pos ?_ (Ev.pos ?_ (Ev.pos ?_ (Ev.pos ?_ h1))))))
    all_goals ((try simp only [ByteArray.size_append,e2]);omega)
   | false =>
    have hwq:wq (x.get t).data.toList=R.quoteL (x.get t).data.toList:=if_neg (by rw [hm];simp)
    have hline:=line_text m t acc (bs (R.quoteL (x.get t).data.toList))
    rw [data_bs] at hline
    rw [hwq,← hline] at h1
    have hqz:(bs (R.quoteL (x.get t).data.toList)).size≤202:=by rw [size_bs,← hwq];omega
    refine Ev.neg (by simp) (Ev.bind (quote_ev (x.get t) (by omega)) (Ev.pos ?_ (Ev.pos (by show (t:Int)<((5:Nat):Int);omega) (Ev.pos ?_ (Ev.pos ?_ (Ev.pos ?_ (Ev.pos ?_ h1)))))))
    all_goals ((try simp only [ByteArray.size_append,e2]);omega)
def sumB (B:Nat→Nat):Nat→Nat→Nat
 | _,0 => 0
 | t,d+1 => B t+13+sumB B (t+1) d
theorem blk_len (q:List UInt8→List UInt8) (x:Lk) (B:Nat→Nat) (hB:∀ k,k<5→(q (x.get k).data.toList).length≤B k):∀ (d t:Nat) (m:Bool),t+d=5→((linesOf m (fldsFrom q x 0 t d)).flatten).length≤sumB B t d
 | 0,t,m,_ => by cases m <;> simp [linesOf,fldsFrom,blockLines,nextLines]
 | d+1,t,m,ht => by
  have ih:=blk_len q x B hB d (t+1)
  have hf:fldsFrom q x 0 t (d+1)=fldAt q x 0 t++fldsFrom q x 0 (t+1) d:=rfl
  have h5:t<5:=by omega
  have e5:(t+0) % 5=t:=by omega
  have hs:sumB B t (d+1)=B t+13+sumB B (t+1) d:=rfl
  rw [hf,hs]
  unfold fldAt
  rw [e5]
  split
  ·rw [List.nil_append]
   have:=ih m (by omega)
   omega
  ·rw [List.singleton_append,linesOf_cons,List.flatten_cons,List.length_append]
   have h1:=line_len m t h5 (q (x.get t).data.toList)
   have h2:=hB t h5
   have:=ih false (by omega)
   simp only
   omega
theorem fine_len {x:Lk} (h:Fine x) (m:Bool):((linesOf m (blkOf wq 0 x)).flatten).length≤523:=by
 have:=blk_len wq x (fun k => 2 * lim k+2) (fun k hk => by
  have h1:=wq_len (x.get k).data.toList
  have h2:=h.2 k hk
  rw [Q.data_length] at h1
  omega) 5 0 m (by omega)
 exact this
theorem fines_len:∀ (l:List Lk) (i:Nat),(∀ x ∈ l,Fine x)→((blocksText (blksFrom wq (fun _ => 0) i l)).flatten).length≤l.length * 523
 | [],i,_ => by simp [blksFrom,blocksText]
 | x :: l,i,h => by
  have ih:=fines_len l (i+1) fun y hy => h y (List.mem_cons_of_mem _ hy)
  have h1:=fine_len (h x List.mem_cons_self) true
  have e:(blocksText (blksFrom wq (fun _ => 0) i (x :: l))).flatten=(linesOf true (blkOf wq 0 x)).flatten++(blocksText (blksFrom wq (fun _ => 0) (i+1) l)).flatten:=by
   simp only [blksFrom,blocksText,List.flatMap_cons,List.flatten_append]
   rfl
  rw [e,List.length_append,List.length_cons]
  omega
theorem Fine.tame {x:Lk} (h:Fine x):Tame x:=fun k hk => ⟨h.1.plain k hk,h.le k hk⟩
theorem w7x_l0 (l:List Lk) (hl:l.length≤50) (hx:∀ x ∈ l,Fine x) (T:ByteArray):∀ (rest pre:List Lk) (acc:ByteArray),l=pre++rest→acc.size≤7+pre.length * 523 →
  acc++bs (blocksText (blksFrom wq (fun _ => 0) pre.length rest)).flatten=T →
  Ev (fun k => transhumanceref7_Write.l0 k (outs l) acc pre.length) T
 | [],pre,acc,hd,hz,ht => by
  have hlen:pre.length=l.length:=by rw [hd];simp
  have ht2:acc=T:=by
   rw [← ht]
   exact ext_bs (by simp [ByteArray.data_append,bs,blksFrom,blocksText])
  subst ht2
  exact Ev.step (fun _ => transhumanceref7_Write.l0.eq_2 ..) (Ev.neg (by simp only [outs,List.length_map];omega) (Ev.now _))
 | x :: rest,pre,acc,hd,hz,ht => by
  have hlt:pre.length<l.length:=by rw [hd];simp
  have hget:l[pre.length]=x:=by subst hd;simp
  have hfx:=hx x (by rw [hd];simp)
  have hw:wrap64 ((pre.length:Int)+1)=(((pre++[x]).length:Nat):Int):=by
   rw [wrap_id (by omega) (by omega)];simp
  have hb:=fine_len hfx true
  have hE:=w7x_l1 l x hfx.tame pre.length T 5 0 acc true (by omega) (by omega) (fun z hzz => by
   rw [hw]
   refine w7x_l0 l hl hx T rest (pre++[x]) z (by rw [hd];simp) ?_ ?_
   ·rw [hzz,ByteArray.size_append,size_bs]
    have hb2:((linesOf true (fldsFrom wq x 0 0 5)).flatten).length≤523:=hb
    simp only [List.length_append,List.length_cons,List.length_nil]
    omega
   ·rw [← ht,hzz]
    have e:(pre++[x]).length=pre.length+1:=by simp
    rw [e]
    apply ext_bs
    simp only [ByteArray.data_append,Array.toList_append,data_bs,bs,blksFrom,blocksText,List.flatMap_cons,List.flatten_append,List.append_assoc]
    rfl)
  refine Ev.step (fun _ => transhumanceref7_Write.l0.eq_2 ..) (Ev.pos (by simp only [outs,List.length_map];omega) (Ev.pos (by omega) ?_))
  rw [rd_out l _ hlt]
  refine Ev.val (a:=(vals l[pre.length],names)) rfl ?_
  rw [hget]
  exact hE
def wblks (l:List Lk):List (List Fl):=blksFrom wq (fun _ => 0) 0 l
def wtext (l:List Lk):List UInt8:=if l=[] then [] else blocksDoc (wblks l)
theorem doc_len (l:List Lk) (h:∀ x ∈ l,Fine x):(blocksDoc (wblks l)).length≤7+l.length * 523:=by
 have:=fines_len l 0 h
 unfold blocksDoc
 rw [List.length_append]
 have e:(locksWordL++[10]).length=7:=rfl
 unfold wblks
 omega
theorem w7x_ev (l:List Lk) (hl:l.length≤50) (hx:∀ x ∈ l,Fine x):Ev (fun k => transhumanceref7_Write.f k (outs l)) (bs (wtext l)):=by
 unfold transhumanceref7_Write.f wtext
 by_cases h0:l=[]
 ·subst h0
  exact Ev.pos rfl (Ev.ret rfl)
 ·rw [if_neg h0]
  have hpos:=List.length_pos_iff.2 h0
  refine Ev.neg (by simp only [outs,List.length_map];omega) (w7x_l0 l hl hx _ l [] _ rfl (by show (7:Nat)≤7+0 * 523;omega) ?_)
  apply ext_bs
  simp only [ByteArray.data_append,Array.toList_append,data_bs,blocksDoc]
  rfl
end Go.Proofs.YtjdjljgbfpkbdaaGreatDoor.Q
end
section
namespace Go.Proofs.YtjdjljgbfpkbdaaGreatDoor.Q
open Go.RowKit Go.Proofs.YtjdjljgbfpkbdaaGreatDoorW.PrintWords Go.Proofs.YtjdjljgbfpkbdaaGreatDoorW.PrintLast Go.Proofs.YtjdjljgbfpkbdaaGreatDoorW.PrintMore
theorem whole_bare (x:List UInt8) (h:∀ b ∈ x,b≠10):wholeL x=x:=by
 unfold wholeL Lib.trimSuffix
 rw [if_neg]
 intro hs
 have:(10:UInt8) ∈ x:=by
  obtain ⟨p,hp⟩:=List.isSuffixOf_iff_suffix.1 hs
  rw [← hp]
  simp
 exact h 10 this rfl
def mute (x:List UInt8):Prop:=wordL x=[]∨(wordL x).head?=some 35
theorem mute_step {st:DSt} {x:List UInt8} (h:mute x):(stepD st x).r=st.r∧(stepD st x).begun=st.begun:=by
 unfold stepD
 cases hs:st.r with
 | bad wh e => exact ⟨rfl,rfl⟩
 | ok l has =>
  simp only
  have h2:wordL x=[]∨(wordL x).head?=some 35:=h
  rw [if_pos h2]
  exact ⟨rfl,rfl⟩
end Go.Proofs.YtjdjljgbfpkbdaaGreatDoor.Q
end
section
namespace Go.Proofs.YtjdjljgbfpkbdaaGreatDoor.Q
open Go.RowKit Go.Proofs.YtjdjljgbfpkbdaaGreatDoorW.PrintWords Go.Proofs.YtjdjljgbfpkbdaaGreatDoorW.PrintLast Go.Proofs.YtjdjljgbfpkbdaaGreatDoorW.PrintMore
theorem at_mid {s:ByteArray} {a b:List UInt8} {c:UInt8} (h:s.data.toList=a++c :: b):∃ hlt:a.length<s.size,s[a.length]=c:=by
 have hl:a.length<s.data.toList.length:=by rw [h];simp
 have hlt:a.length<s.size:=by rw [Q.data_length] at hl;exact hl
 refine ⟨hlt,?_⟩
 have:s.data.toList[a.length]=c:=by simp [h]
 exact this
theorem extract_mid {s:ByteArray} {a b c:List UInt8} (h:s.data.toList=a++(b++c)):s.extract a.length (a.length+b.length)=bs b:=by
 apply ext_bs
 rw [ByteArray.data_extract,data_bs]
 simp only [Array.toList_extract,List.extract_eq_take_drop]
 rw [h]
 simp
theorem lines_row (s:ByteArray) (hs:s.size≤1000000) (acc:List ByteArray) (pos:List Int) (ha:acc.length≤1000000) (hp:pos.length≤1000000) (rr:List ByteArray × List Int) (done rest:List UInt8):∀ (p cur:List UInt8),(∀ b ∈ p,b≠10)→s.data.toList=done++(cur++p++10 :: rest) →
  Ev (fun k => transhumanceref1_Lines.l0 k s (acc++[bs (cur++p)]) (pos++[(done.length:Int)]) ((done.length+(cur++p).length+1:Nat):Int) ((done.length+(cur++p).length+1:Nat):Int)) rr →
  Ev (fun k => transhumanceref1_Lines.l0 k s acc pos (done.length:Int) ((done.length+cur.length:Nat):Int)) rr
 | [],cur,hn,hd,h => by
  obtain ⟨hlt,hc⟩:=at_mid (a:=done++cur) (b:=rest) (c:=10) (by rw [hd];simp)
  simp only [List.length_append] at hlt
  have hc':bt s ((done.length+cur.length:Nat):Int)=10:=by
   have:=bt_get s (done.length+cur.length) hlt
   rw [this]
   have e:s[done.length+cur.length]'hlt=10:=by
    have:=hc
    simp only [List.length_append] at this
    exact this
   rw [e]
   rfl
  have hw:wrap64 (((done.length+cur.length:Nat):Int)+1)=((done.length+cur.length+1:Nat):Int):=wrap_id (by omega) (by omega)
  have hx:s.extract done.length (done.length+cur.length)=bs cur:=extract_mid (c:=10 :: rest) (by rw [hd];simp)
  rw [List.append_nil] at h
  refine Ev.step (fun _ => transhumanceref1_Lines.l0.eq_2 ..) (Ev.pos (by omega) (Ev.pos (by omega) (Ev.pos (by omega) (Ev.pos hc' (Ev.neg (by omega) (Ev.pos (by omega) (Ev.pos (by omega) (Ev.pos (by omega) (Ev.pos (by omega) ?_)))))))))
  rw [Int.toNat_natCast,Int.toNat_natCast,hx,hw]
  exact h
 | b :: p,cur,hn,hd,h => by
  have hb:b≠10:=hn b List.mem_cons_self
  obtain ⟨hlt,hc⟩:=at_mid (s:=s) (a:=done++cur) (b:=p++10 :: rest) (c:=b) (by rw [hd];simp)
  simp only [List.length_append] at hlt
  have hc':¬ bt s ((done.length+cur.length:Nat):Int)=10:=by
   have:=bt_get s (done.length+cur.length) hlt
   rw [this]
   have e:s[done.length+cur.length]'hlt=b:=by
    have:=hc
    simp only [List.length_append] at this
    exact this
   rw [e]
   exact fun h => hb ((byte_int (n:=10) (by decide)).1 h)
  have hw:wrap64 (((done.length+cur.length:Nat):Int)+1)=((done.length+(cur++[b]).length:Nat):Int):=by
   rw [wrap_id (by omega) (by omega),List.length_append]
   simp only [List.length_cons,List.length_nil]
   omega
  have ih:=lines_row s hs acc pos ha hp rr done rest p (cur++[b]) (fun x hx => hn x (List.mem_cons_of_mem _ hx)) (by rw [hd];simp) (by simpa using h)
  refine Ev.step (fun _ => transhumanceref1_Lines.l0.eq_2 ..) (Ev.pos (by omega) (Ev.pos (by omega) (Ev.pos (by omega) (Ev.neg hc' ?_))))
  rw [hw]
  exact ih
end Go.Proofs.YtjdjljgbfpkbdaaGreatDoor.Q
end
