import Derived.Test.YtjiidlkkkednoaaGreatDoorZR0g
import Derived.Test.YtjiidlkkkednoaaGreatDoorZRg
import Derived.Test.YtjiidlkkkednoaaGreatDoorZR3g
set_option linter.unusedVariables false
set_option linter.unusedSimpArgs false
section
namespace Go.Proofs.YtjiidlkkkednoaaGreatDoor.Q
open Go.RowKit Go.Proofs.YtjiidlkkkednoaaGreatDoorW.PrintWords
theorem index_one (l:List UInt8) (c:UInt8):Lib.index l [c]=if l.contains c=true then ((cutL l c).length:Int) else -1:=by
 rw [Lib.index_one,idx_span]
 rfl
theorem splitK_parts (c:UInt8):∀ (n:Nat) (l:List UInt8),Lib.count l [c]=n→Lib.splitK [c] 0 n l=parts c l:=by
 intro n
 induction n with
 | zero =>
  intro l h
  rw [parts_cut]
  have:l.contains c=false:=by
   rw [Lib.count_one] at h
   simpa using List.count_eq_zero.1 h
  rw [this,(cut_none l c this).1]
  rfl
 | succ n ih =>
  intro l h
  have hc:l.contains c=true:=by
   rw [Lib.count_one] at h
   have:0<l.count c:=by omega
   simpa using List.count_pos_iff.1 this
  obtain ⟨h1,h2,h3⟩:=cut_length l c hc
  have hi:=index_one l c
  rw [if_pos hc] at hi
  have hcnt:=Lib.count_hit (s:=l) (sub:=[c]) (by simp) hi
  rw [List.length_singleton] at hcnt
  have hne:¬ (Lib.index l [c] == -1)=true:=by rw [hi];simp
  rw [parts_cut,if_pos hc,Lib.splitK,if_neg hne,hi,Int.toNat_natCast,List.length_singleton,Nat.add_zero,← h2,← h3]
  rw [ih (cutR l c) (by rw [h3];omega)]
theorem splitB_parts (c:UInt8) (n:Nat) (s:ByteArray) (h:Lib.countB s ⟨#[c]⟩=n):(Lib.splitB ⟨#[c]⟩ 0 n s).map (fun x => x.data.toList)=parts c s.data.toList:=by
 rw [Lib.splitB_data]
 exact splitK_parts c n s.data.toList h
section
variable (w:World)
theorem split_calls (s:ByteArray) (c:UInt8) (hs:s.size≤1000000) (hG:GL w) :
  Calls Tryz.prog 65 #[.string s,.string ⟨#[c]⟩] w fun e w' => e=.returned (.slice (some ⟨w.heap.size,0,none⟩) (parts c s.data.toList).length (parts c s.data.toList).length)∧w'=w.alloc (.cells ((parts c s.data.toList).map fun x => Value.string (bs x)).toArray 9):=by
 obtain ⟨m,hm⟩:=hG.maxLen
 refine (Tryz.strings_Split s ⟨#[c]⟩ m w (by omega) hm (Nat.le_refl 1)).mono ?_
 rintro e w' ⟨he,hw⟩
 have hp:=splitB_parts c _ s rfl
 have hl:(parts c s.data.toList).length=Lib.countB s ⟨#[c]⟩+1:=by
  rw [← hp,List.length_map]
  exact Lib.splitB_all ⟨#[c]⟩ (Nat.le_refl 1) 0 _ s rfl
 refine ⟨by rw [hl];exact he,?_⟩
 rw [hw,← hp,List.map_map]
 simp only [Function.comp_def,bs_data]
def digitB (b:UInt8):Bool:=48≤b && b≤57
def letterB (b:UInt8):Bool:=(97≤b && b≤122) || (65≤b && b≤90) || b == 45
def allL (l:List UInt8):Bool:=l.all digitB && !(l == [])
def wordL (l:List UInt8):Bool:=l.all (fun b => digitB b || letterB b) && !(l == []) && !(decide (1<l.length) && (l.head? == some 48 && allL l))
def preL (l:List UInt8):Bool:=(parts 46 l).all wordL
end
theorem wrap_in {x:Int} (h1:-9223372036854775808≤x) (h2:x≤9223372036854775807):wrap64 x=x:=by unfold wrap64;omega
theorem bt_int (s:ByteArray) (i:Nat) (h:i<s.size):bt s (i:Int)=(s[i].toNat:Int):=by simp [bt,h]
theorem drop_byte (s:ByteArray) (i:Nat) (h:i<s.size):s.data.toList.drop i=s[i] :: s.data.toList.drop (i+1):=by
 rw [List.drop_eq_getElem_cons (by simpa using h)];rfl
theorem digit_int (b:UInt8):digitB b=true↔48≤(b.toNat:Int)∧(b.toNat:Int)≤57:=by
 simp only [digitB,Bool.and_eq_true,decide_eq_true_eq,UInt8.le_iff_toNat_le,show (48:UInt8).toNat=48 from rfl,show (57:UInt8).toNat=57 from rfl]
 omega
theorem all_l0 (s:ByteArray) (hs:s.size≤140737488351232):∀ (d k i:Nat),i+d=s.size→d<k→R.ver_all.l0 k s s.size i=some ((s.data.toList.drop i).all digitB && !(s.toList == []))
 | 0,k,i,hd,hk => by
  obtain ⟨k,rfl⟩:∃ m,k=m+1:=⟨k - 1,by omega⟩
  rw [R.ver_all.l0.eq_2,if_neg (by omega),List.drop_eq_nil_of_le (by simp;omega)]
  cases s.toList <;> rfl
 | d+1,k,i,hd,hk => by
  obtain ⟨k,rfl⟩:∃ m,k=m+1:=⟨k - 1,by omega⟩
  have hi:i<s.size:=by omega
  have hw:wrap64 ((i:Int)+1)=((i+1:Nat):Int):=wrap_in (by omega) (by omega)
  rw [R.ver_all.l0.eq_2,if_pos (by omega),if_pos (by omega),if_pos (by omega),bt_int s i hi,drop_byte s i hi,List.all_cons,hw]
  by_cases h1:(s[i].toNat:Int)<48
  ·have:digitB s[i]=false:=by rw [Bool.eq_false_iff,Ne,digit_int];omega
   rw [if_pos h1,this];rfl
  by_cases h2:(s[i].toNat:Int) > 57
  ·have:digitB s[i]=false:=by rw [Bool.eq_false_iff,Ne,digit_int];omega
   rw [if_neg h1,if_pos h2,this];rfl
  have:digitB s[i]=true:=by rw [digit_int];omega
  rw [if_neg h1,if_neg h2,this,Bool.true_and]
  exact all_l0 s hs d k (i+1) (by omega) (by omega)
theorem all_f (s:ByteArray) (hs:s.size≤140737488351232) (k:Nat) (hk:s.size<k):R.ver_all.f k s=some (allL s.data.toList):=by
 have:=all_l0 s hs s.size k 0 (by omega) hk
 rw [List.drop_zero] at this
 unfold R.ver_all.f
 rw [← Lib.toList_data] at this ⊢
 exact this
def okSigns:ByteArray:=(⟨#[97,98,99,100,101,102,103,104,105,106,107,108,109,110,111,112,113,114,115,116,117,118,119,120,121,122,65,66,67,68,69,70,71,72,73,74,75,76,77,78,79,80,81,82,83,84,85,86,87,88,89,90,48,49,50,51,52,53,54,55,56,57,45]⟩:ByteArray)
theorem sign_idx:∀ n:Nat,n<256→decide (Lib.indexByte okSigns.data.toList (UInt8.ofNat n)<0)=!(digitB (UInt8.ofNat n) || letterB (UInt8.ofNat n)):=by decide +kernel
theorem sign_f (b:UInt8):R.strings_IndexByte.f okSigns (b.toNat:Int)=some (Lib.indexByte okSigns.data.toList b):=by
 unfold R.strings_IndexByte.f
 simp
theorem sign_lt (b:UInt8):(Lib.indexByte okSigns.data.toList b<0)↔(digitB b || letterB b)=false:=by
 have:=sign_idx b.toNat b.toNat_lt
 simp only [UInt8.ofNat_toNat] at this
 constructor
 ·intro h
  rw [decide_eq_true h] at this
  simpa using this.symm
 ·intro h
  rw [h] at this
  simpa using this
theorem word_l0 (s:ByteArray) (hs:s.size≤140737488351232):∀ (d k i:Nat),i+d=s.size→d+s.size+1<k →
  R.ver_word.l0 k s s.size i=some ((s.data.toList.drop i).all (fun b => digitB b || letterB b) && !(s.data.toList == []) && !(decide (1<s.data.toList.length) && (s.data.toList.head? == some 48 && allL s.data.toList)))
 | 0,k,i,hd,hk => by
  obtain ⟨k,rfl⟩:∃ m,k=m+1:=⟨k - 1,by omega⟩
  rw [R.ver_word.l0.eq_2,if_neg (by omega),List.drop_eq_nil_of_le (by simp;omega)]
  by_cases h0:s.toList=[]
  ·rw [if_pos h0,← Lib.toList_data,h0];rfl
  rw [if_neg h0]
  have hne:(s.data.toList == [])=false:=by
   rw [← Lib.toList_data]
   simpa using h0
  rw [hne]
  have hlen:s.data.toList.length=s.size:=rfl
  by_cases h1:(s.size:Int) > 1
  ·have hs0:0<s.size:=by omega
   have hd0:s.data.toList.head?=some s[0]:=by
    have:=drop_byte s 0 hs0
    rw [List.drop_zero] at this
    rw [this]
    rfl
   rw [if_pos h1,if_pos (show 0<(s.size:Int) from by omega),show bt s 0=(s[0].toNat:Int) from bt_int s 0 hs0,hd0,decide_eq_true (by omega:1<s.data.toList.length)]
   by_cases h2:(s[0].toNat:Int)=48
   ·have e0:s[0]=48:=by
     rw [← UInt8.toNat_inj]
     show s[0].toNat=48
     omega
    rw [if_pos h2,all_f s hs k (by omega),Option.bind_some,e0]
    simp
   ·have e0:(some s[0] == some (48:UInt8))=false:=by
     have:s[0]≠48:=fun e => h2 (by rw [e];rfl)
     simpa using this
    rw [if_neg h2,e0]
    rfl
  ·rw [if_neg h1,decide_eq_false (by omega:¬ 1<s.data.toList.length)]
   rfl
 | d+1,k,i,hd,hk => by
  obtain ⟨k,rfl⟩:∃ m,k=m+1:=⟨k - 1,by omega⟩
  have hi:i<s.size:=by omega
  have hw:wrap64 ((i:Int)+1)=((i+1:Nat):Int):=wrap_in (by omega) (by omega)
  rw [R.ver_word.l0.eq_2,if_pos (by omega),if_pos (by omega),if_pos (by omega),bt_int s i hi,drop_byte s i hi,List.all_cons,hw]
  show (R.strings_IndexByte.f okSigns (s[i].toNat:Int)).bind _=_
  rw [sign_f,Option.bind_some]
  by_cases h1:Lib.indexByte okSigns.data.toList s[i]<0
  ·rw [if_pos h1,(sign_lt s[i]).1 h1];rfl
  ·have:(digitB s[i] || letterB s[i])=true:=by
    rw [← Bool.not_eq_false]
    exact fun h => h1 ((sign_lt s[i]).2 h)
   rw [if_neg h1,this,Bool.true_and]
   exact word_l0 s hs d k (i+1) (by omega) (by omega)
theorem word_calls (s:ByteArray) (w:World) (hs:s.size≤140737488351232) :
  Calls Tryz.prog 111 #[.string s] w fun e w' => e=.returned (.bool (wordL s.data.toList))∧Drawn0 w w':=by
 have h:=word_l0 s hs s.size (2 * s.size+2) 0 (by omega) (by omega)
 rw [List.drop_zero] at h
 exact R.ver_word.calls (2 * s.size+2) s _ w h
section
variable (w:World)
theorem notword_calls (s:ByteArray) (hs:s.size≤140737488351232) :
  Calls Tryz.prog 110 #[.string s] w fun e w' => e=.returned (.bool (!wordL s.data.toList))∧Drawn0 w w':=by
 go_enter Tryz.func110,Tryz.ntmps110
 go_wp2_with (fail)
 refine (word_calls s w hs).mono ?_
 rintro e w1 ⟨rfl,hd⟩
 go_wp2_with (fail)
 go_ret
 exact ⟨rfl,hd⟩
def StrsAt (w:World) (q:Nat) (l:List (List UInt8)):Prop:=∀ j,(h:j<l.length)→w.cell? ⟨q,j,none⟩=some (.string (bs l[j]))
theorem StrsAt.drewN {w:World} {q:Nat} {l:List (List UInt8)} (h:StrsAt w q l) (n:Nat):StrsAt (w.drewN n) q l:=h
theorem StrsAt.below {w w':World} {q B:Nat} {l:List (List UInt8)} (h:StrsAt w q l) (hb:Below B w w') (hq:q<B):StrsAt w' q l:=fun j hj => by
 have:=hb.block q hq
 have h2:=h j hj
 simp only [World.cell?] at h2 ⊢
 rw [this]
 exact h2
theorem StrsAt.new (w:World) (l:List (List UInt8)) (t:TypeId):StrsAt (w.alloc (.cells (l.map fun x => Value.string (bs x)).toArray t)) w.heap.size l:=by
 intro j hj
 have:=(Blk.new w t (l.map fun x => Value.string (bs x)).toArray).cell j
 rw [this]
 simp [hj]
theorem anyno_calls (q c:Nat) (l:List (List UInt8)) (hl:StrsAt w q l) (hb:l.length≤1000000) (hz:∀ x ∈ l,x.length≤1000000) :
  Calls Tryz.prog 103 #[.slice (some ⟨q,0,none⟩) l.length c,.func (.func 110) #[] #[]] w
   fun e w' => ∃ r:Int,e=.returned (.int .i64 r)∧(0≤r↔l.all wordL=false)∧Drawn0 w w':=by
 have HL:=Lib.hid hl
 have HZ:=Lib.hid hz
 clear hl hz
 go_enter Tryz.func103,Tryz.ntmps103
 go_wp2_with (fail)
 go_loopg [5,8] (l.length) (fun q' _ i wr => ∃ j:Nat,q'=l.length - j∧j≤l.length∧i=.int .i64 j∧(l.take j).all wordL=true∧Drawn0 w wr)
 case atStart => exact ⟨0,by omega,Nat.zero_le _,rfl,rfl,Drawn0.refl _⟩
 case round =>
  obtain ⟨j,rfl,hj,rfl,he,hd⟩:=hrel
  obtain ⟨nn,hn⟩:=hd
  subst hn
  have HE:=Lib.hid he
  clear he
  by_cases hlt:j<l.length
  ·have c0:(w.drewN nn).cell? ⟨q,j,none⟩=some (.string (bs l[j])):=HL.out j hlt
   have HT:=Lib.hid (List.take_succ_eq_append_getElem hlt)
   have hxz:(bs l[j]).size≤140737488351232:=by rw [size_bs];have:=HZ.out l[j] (List.getElem_mem hlt);omega
   have HW:=Lib.hid (show (bs l[j]).data.toList=l[j] from data_bs _)
   generalize hy:l[j]=y at *
   have HY:=Lib.hid hy
   clear hy
   go_wp2_with (fail)
   refine (notword_calls _ (bs y) hxz).mono ?_
   rintro e w1 ⟨rfl,hd1⟩
   rw [HW.out]
   obtain ⟨n1,hn1⟩:=hd1
   subst hn1
   cases hq:wordL y with
   | false =>
    have HQ:=Lib.hid hq
    clear hq
    go_wp2_with (fail)
    go_ret
    refine ⟨_,rfl,?_,⟨_,rfl⟩⟩
    simp only [Int.natCast_nonneg,true_iff,List.all_eq_false]
    exact ⟨l[j],List.getElem_mem hlt,by rw [HY.out,HQ.out];simp⟩
   | true =>
    have HQ:=Lib.hid hq
    clear hq
    go_wp2_with (fail)
    go_roundg (l.length - (j+1))
    case measure => omega
    case rel =>
     refine ⟨j+1,rfl,by omega,rfl,?_,⟨_,rfl⟩⟩
     rw [HT.out,List.all_append,HE.out]
     simp only [List.all_cons,List.all_nil,HQ.out,Bool.and_true]
  ·have he:=HE.out
   rw [List.take_of_length_le (by omega)] at he
   have HE2:=Lib.hid he
   clear he
   go_wp2_with (fail)
   go_ret
   refine ⟨_,rfl,?_,⟨_,rfl⟩⟩
   rw [HE2.out]
   simp
theorem somebad_calls (q c:Nat) (l:List (List UInt8)) (hl:StrsAt w q l) (hb:l.length≤1000000) (hz:∀ x ∈ l,x.length≤1000000) :
  Calls Tryz.prog 109 #[.slice (some ⟨q,0,none⟩) l.length c,.func (.func 110) #[] #[]] w
   fun e w' => e=.returned (.bool (!(l.all wordL)))∧Drawn0 w w':=by
 have HC:=Lib.hid (anyno_calls w q c l hl hb hz)
 clear hl hz
 go_enter Tryz.func109,Tryz.ntmps109
 go_wp2_with (fail)
 refine HC.out.mono ?_
 rintro e w1 ⟨r,rfl,hr,hd⟩
 have HR:=Lib.hid hr
 have HD:=Lib.hid hd
 clear hr hd
 go_wp2_with (fail)
 go_ret
 refine ⟨?_,HD.out⟩
 cases ha:l.all wordL with
 | false =>
  have:0≤r:=HR.out.2 ha
  simp [this]
 | true =>
  have:¬ 0≤r:=fun h => by rw [HR.out.1 h] at ha;cases ha
  simp [this]
theorem parts_each (c:UInt8):∀ (l:List UInt8),∀ x ∈ parts c l,x.length≤l.length:=by
 intro l
 induction l with
 | nil => intro x hx;simp [parts] at hx;subst hx;simp
 | cons y l ih =>
  intro x hx
  rw [parts_cons] at hx
  split at hx
  ·rcases List.mem_cons.1 hx with rfl|hx
   ·simp
   ·have:=ih x hx;simp only [List.length_cons];omega
  ·cases hp:parts c l with
   | nil => exact absurd hp (parts_ne c l)
   | cons u us =>
    rw [hp] at hx ih
    rcases List.mem_cons.1 hx with rfl|hx
    ·have:=ih u List.mem_cons_self;simp only [List.length_cons];omega
    ·have:=ih x (List.mem_cons_of_mem _ hx);simp only [List.length_cons];omega
theorem parts_len (c:UInt8) (l:List UInt8):(parts c l).length≤l.length+1:=by
 induction l with
 | nil => simp [parts]
 | cons y l ih =>
  rw [parts_cons]
  split
  ·simp only [List.length_cons];omega
  ·cases hp:parts c l with
   | nil => exact absurd hp (parts_ne c l)
   | cons u us =>
    rw [hp] at ih
    simp only [List.length_cons] at ih ⊢
    omega
def partB (a:Int):Bool:=decide (0≤a) && decide (a≤999999)
def rightV (a b c:Int) (p:List UInt8):Bool:=partB a && (partB b && (partB c && (decide (p.length≤40) && ((p == []) || preL p))))
theorem part_calls (a:Int):Calls Tryz.prog 108 #[.int .i64 a] w fun e w' => e=.returned (.bool (partB a))∧Drawn0 w w':=by
 refine R.ver_part.calls a _ w ?_
 unfold R.ver_part.f partB
 by_cases h:a ≥ 0
 ·rw [if_pos h,decide_eq_true h,Bool.true_and]
 ·rw [if_neg h,decide_eq_false h,Bool.false_and]
theorem below_dr {w w':World} {B:Nat} (h:Below B w w') (n:Nat):Below B w (w'.drewN n):=⟨h.os,h.tape,h.output,h.size,h.block⟩
theorem rightV_no (a b c:Int) (p:List UInt8) (h:(partB a && (partB b && (partB c && decide (p.length≤40))))=false):rightV a b c p=false:=by
 unfold rightV
 revert h
 cases partB a <;> cases partB b <;> cases partB c <;> simp
 intro h1 h2
 omega
set_option maxHeartbeats 1000000 in
set_option maxRecDepth 100000 in
theorem right_calls (a b c:Int) (p:ByteArray) (hz:p.size≤1000000) (hG:GL w) :
  Calls Tryz.prog 73 #[.agg #[.int .i64 a,.int .i64 b,.int .i64 c,.string p]] w fun e w' => e=.returned (.bool (rightV a b c p.data.toList))∧Below w.heap.size w w':=by
 have HG:=Lib.hid hG
 have HB:=Lib.hid ((Below.refl _ w).alloc (Nat.le_refl _) (.cells #[.int .i64 a,.int .i64 b,.int .i64 c,.string p] 43))
 have HN:=Lib.hid (rightV_no a b c p.data.toList)
 clear hG
 go_enter Tryz.func73,Tryz.ntmps73
 go_wp2_with (fail)
 refine (part_calls _ a).mono ?_
 rintro e w1 ⟨rfl,n1,rfl⟩
 cases ha:partB a with
 | false =>
  rw [ha] at HN
  go_wp2_with (fail)
  go_ret
  exact ⟨by rw [HN.out rfl];rfl,below_dr HB.out _⟩
 | true =>
  rw [ha] at HN
  go_wp2_with (fail)
  refine (part_calls _ b).mono ?_
  rintro e w1 ⟨rfl,n2,rfl⟩
  cases hb:partB b with
  | false =>
   rw [hb] at HN
   go_wp2_with (fail)
   go_ret
   exact ⟨by rw [HN.out rfl];rfl,below_dr HB.out _⟩
  | true =>
   rw [hb] at HN
   go_wp2_with (fail)
   refine (part_calls _ c).mono ?_
   rintro e w1 ⟨rfl,n3,rfl⟩
   cases hc:partB c with
   | false =>
    rw [hc] at HN
    go_wp2_with (fail)
    go_ret
    exact ⟨by rw [HN.out rfl];rfl,below_dr HB.out _⟩
   | true =>
    rw [hc] at HN
    have hpl:p.data.toList.length=p.size:=rfl
    by_cases h40:40<p.size
    ·have hd:decide (40<p.size)=true:=decide_eq_true h40
     have HD:=Lib.hid (show decide (p.data.toList.length≤40)=false from decide_eq_false (by omega))
     clear hpl
     go_wp2_with (fail)
     go_ret
     exact ⟨by rw [HN.out (by rw [HD.out];rfl)];rfl,below_dr HB.out _⟩
    ·have HV:=Lib.hid (show rightV a b c p.data.toList=((p.data.toList == []) || preL p.data.toList) from by
      unfold rightV
      rw [ha,hb,hc,decide_eq_true (show p.data.toList.length≤40 by omega)]
      rfl)
     clear hpl ha hb hc HN
     have hd:decide (40<p.size)=false:=decide_eq_false h40
     cases he:p.toList.isEmpty with
     | true =>
      have HE:=Lib.hid (show (p.data.toList == [])=true from by rw [← Lib.toList_data];cases h:p.toList <;> simp_all)
      go_wp2_with (fail)
      go_ret
      exact ⟨by rw [HV.out,HE.out];rfl,below_dr HB.out _⟩
     | false =>
      have HE:=Lib.hid (show (p.data.toList == [])=false from by rw [← Lib.toList_data];cases h:p.toList <;> simp_all)
      have HG2:=Lib.hid (HG.out.below0 HB.out)
      go_wp2_with (fail)
      refine (split_calls _ p 46 hz (by exact HG2.out.drewN _)).mono ?_
      rintro e w1 ⟨rfl,rfl⟩
      have hlp:=parts_len 46 p.data.toList
      have hpl:p.data.toList.length=p.size:=rfl
      have hl6:(parts 46 p.data.toList).length≤1000000:=by omega
      have HZ:=Lib.hid (fun x hx => Nat.le_trans (parts_each 46 p.data.toList x hx) (show p.data.toList.length≤1000000 by omega))
      have HS:=Lib.hid (StrsAt.new ((w.alloc (.cells #[.int .i64 a,.int .i64 b,.int .i64 c,.string p] 43)).drewN (n1+n2+n3)) (parts 46 p.data.toList) 9)
      have HB2:=Lib.hid ((below_dr HB.out (n1+n2+n3)).alloc (by have:=HB.out.size;exact this) (.cells ((parts 46 p.data.toList).map fun x => Value.string (bs x)).toArray 9))
      clear hpl hlp
      go_wp2_with (fail)
      have hs:StrsAt (((w.alloc (.cells #[.int .i64 a,.int .i64 b,.int .i64 c,.string p] 43)).drewN (n1+n2+n3)).alloc (.cells ((parts 46 p.data.toList).map fun x => Value.string (bs x)).toArray 9)) (w.heap.size+1) (parts 46 p.data.toList):=by
       have:=HS.out
       have e:((w.alloc (.cells #[.int .i64 a,.int .i64 b,.int .i64 c,.string p] 43)).drewN (n1+n2+n3)).heap.size=w.heap.size+1:=by simp [World.drewN]
       rw [e] at this
       exact this
      refine (somebad_calls _ (w.heap.size+1) _ _ hs hl6 HZ.out).mono ?_
      rintro e w1 ⟨rfl,n4,rfl⟩
      clear hs
      go_wp2_with (fail)
      go_ret
      refine ⟨?_,below_dr HB2.out _⟩
      rw [HV.out,HE.out]
      simp [preL]
end
end Go.Proofs.YtjiidlkkkednoaaGreatDoor.Q
end
section
namespace Go.Proofs.YtjiidlkkkednoaaGreatDoor.Q
open Go.RowKit Go.Proofs.YtjiidlkkkednoaaGreatDoorW.PrintWords
def cmpI (a b:Int):Int:=if a<b then -1 else if a > b then 1 else 0
def cmpBs (x y:List UInt8):Int:=if Op.bytesLess x y=true then -1 else if (x == y)=true then 0 else 1
def wordsI (x y:List UInt8):Int :=
 if allL x=true then
  if allL y=true then (if cmpI x.length y.length=0 then cmpBs x y else cmpI x.length y.length) else -1
 else if allL y=true then 1 else cmpBs x y
def rowsI:List (List UInt8)→List (List UInt8)→Int
 | [],[] => 0
 | [],_ :: _ => -1
 | _ :: _,[] => 1
 | x :: l,y :: m => if wordsI x y=0 then rowsI l m else wordsI x y
def aheadI (x y:List UInt8):Int:=if (x == y)=true then 0 else if (x == [])=true then 1 else if (y == [])=true then -1 else rowsI (parts 46 x) (parts 46 y)
theorem cmpS_list (a b:ByteArray):R.cmpS a b=cmpBs a.data.toList b.data.toList:=by
 unfold R.cmpS cmpBs
 rw [Lib.toList_data,Lib.toList_data]
theorem cmpInt_f (a b:Int):R.cmp_Compare_int.f a b=some (cmpI a b):=by
 unfold R.cmp_Compare_int.f R.cmp_isNaN_int.f cmpI
 simp only [bne_self_eq_false,Option.bind_some,if_neg (show ¬ (false=true) by simp)]
 split
 ·rfl
 ·split <;> rfl
theorem or_two (x y:Int) (k:Nat) (hk:3≤k):R.cmp_Or_int.f k [x,y]=some (if x=0 then y else x):=by
 obtain ⟨k,rfl⟩:∃ m,k=m+3:=⟨k - 3,by omega⟩
 unfold R.cmp_Or_int.f
 have w1:wrap64 ((0:Int)+1)=1:=by unfold wrap64;omega
 have w2:wrap64 ((1:Int)+1)=2:=by unfold wrap64;omega
 have r0:rd [x,y] 0=x:=rfl
 have r1:rd [x,y] 1=y:=rfl
 rw [R.cmp_Or_int.l0.eq_2,if_pos (by show (0:Int)<((2:Nat):Int);decide),if_pos (by decide),if_pos (by show (0:Int)<((2:Nat):Int);decide),r0,w1]
 by_cases h:x=0
 ·rw [if_pos h,if_pos h,R.cmp_Or_int.l0.eq_2,if_pos (by show (1:Int)<((2:Nat):Int);decide),if_pos (by decide),if_pos (by show (1:Int)<((2:Nat):Int);decide),r1,w2]
  by_cases h2:y=0
  ·rw [if_pos h2,R.cmp_Or_int.l0.eq_2,if_neg (by show ¬ (2:Int)<((2:Nat):Int);decide),h2]
  ·rw [if_neg h2]
 ·rw [if_neg h,if_neg h]
theorem words_f (a b:ByteArray) (ha:a.size≤140737488351232) (hb:b.size≤140737488351232):R.ver_words.f (a.size+b.size+10) a b=some (wordsI a.data.toList b.data.toList):=by
 unfold R.ver_words.f wordsI
 rw [all_f a ha _ (by omega),Option.bind_some,all_f b hb _ (by omega),Option.bind_some]
 have hj:∀ (p q z:Bool),R.ver_words.j0 (a.size+b.size+10) a b p q z=if z=true then some (if cmpI a.size b.size=0 then cmpBs a.data.toList b.data.toList else cmpI a.size b.size) else if p=true then some (-1) else if q=true then some 1 else some (cmpBs a.data.toList b.data.toList):=by
  intro p q z
  rw [R.ver_words.j0.eq_2,cmpInt_f,Option.bind_some]
  have hc:R.cmp_Compare_string.f a b=some (cmpBs a.data.toList b.data.toList):=by unfold R.cmp_Compare_string.f;rw [cmpS_list]
  rw [hc,Option.bind_some,or_two _ _ _ (by omega),Option.bind_some,Option.bind_some]
 rw [hj,hj]
 have l1:(a.data.toList.length:Int)=a.size:=rfl
 have l2:(b.data.toList.length:Int)=b.size:=rfl
 rw [l1,l2]
 cases allL a.data.toList <;> cases allL b.data.toList <;> simp <;> split <;> rfl
theorem words_calls (x y:List UInt8) (w:World) (hx:x.length≤1000000) (hy:y.length≤1000000) :
  Calls Tryz.prog 135 #[.string (bs x),.string (bs y)] w fun e w' => e=.returned (.int .i64 (wordsI x y))∧Below w.heap.size w w':=by
 have h:=words_f (bs x) (bs y) (by rw [size_bs];omega) (by rw [size_bs];omega)
 rw [data_bs,data_bs] at h
 exact R.ver_words.calls _ _ _ _ w h
section
variable (w:World)
theorem rowsI_drop (l m:List (List UInt8)) (j:Nat) (hj:j<l.length) (hk:j<m.length):rowsI (l.drop j) (m.drop j)=if wordsI l[j] m[j]=0 then rowsI (l.drop (j+1)) (m.drop (j+1)) else wordsI l[j] m[j]:=by
 rw [List.drop_eq_getElem_cons hj,List.drop_eq_getElem_cons hk]
 rfl
theorem rowsI_more (l m:List (List UInt8)) (j:Nat) (hj:j<l.length) (hk:m.length≤j):rowsI (l.drop j) (m.drop j)=1:=by
 rw [List.drop_eq_getElem_cons hj,List.drop_eq_nil_of_le hk]
 rfl
set_option maxHeartbeats 1000000 in
theorem compare_calls (q c r d:Nat) (l m:List (List UInt8)) (hl:StrsAt w q l) (hm:StrsAt w r m) (hq:q<w.heap.size) (hr:r<w.heap.size) (hlz:l.length≤1000000) (hmz:m.length≤1000000) (hz:∀ x ∈ l,x.length≤1000000) (hy:∀ x ∈ m,x.length≤1000000) :
  Calls Tryz.prog 134 #[.slice (some ⟨q,0,none⟩) l.length c,.slice (some ⟨r,0,none⟩) m.length d,.func (.func 135) #[] #[]] w
   fun e w' => e=.returned (.int .i64 (rowsI l m))∧Below w.heap.size w w':=by
 have HL:=Lib.hid hl
 have HM:=Lib.hid hm
 have HZ:=Lib.hid hz
 have HY:=Lib.hid hy
 have HQ:=Lib.hid hq
 have HR:=Lib.hid hr
 clear hl hm hz hy hq hr
 go_enter Tryz.func134,Tryz.ntmps134
 go_wp2_with (fail)
 go_loopg [13] (l.length) (fun q' i wr => ∃ j:Nat,q'=l.length - j∧j≤l.length∧j≤m.length∧i=.int .i64 j∧rowsI l m=rowsI (l.drop j) (m.drop j)∧Below w.heap.size w wr)
 case atStart => exact ⟨0,by omega,Nat.zero_le _,Nat.zero_le _,rfl,by simp,Below.refl _ _⟩
 case round =>
  obtain ⟨j,rfl,hj,hj2,rfl,he,hb⟩:=hrel
  have HE:=Lib.hid he
  have HB:=Lib.hid hb
  clear he hb
  by_cases hlt:j<l.length
  ·by_cases hlm:j<m.length
   ·have c0:wr.cell? ⟨q,j,none⟩=some (.string (bs l[j])):=(HL.out.below HB.out HQ.out) j hlt
    have c1:wr.cell? ⟨r,j,none⟩=some (.string (bs m[j])):=(HM.out.below HB.out HR.out) j hlm
    have HD:=Lib.hid (rowsI_drop l m j hlt hlm)
    have HX:=Lib.hid (HZ.out l[j] (List.getElem_mem hlt))
    have HX2:=Lib.hid (HY.out m[j] (List.getElem_mem hlm))
    have hd:decide (m.length≤j)=false:=decide_eq_false (by omega)
    generalize l[j]=x at *
    generalize m[j]=y at *
    go_wp2_with (fail)
    refine (words_calls x y _ HX.out HX2.out).mono ?_
    rintro e w1 ⟨rfl,hb1⟩
    have HB1:=Lib.hid (below_then HB.out HB.out.size hb1)
    clear hb1
    by_cases h0:wordsI x y=0
    ·have HD2:=Lib.hid (HD.out.trans (if_pos h0))
     have hbb:(wordsI x y != 0)=false:=by simpa using h0
     have H0:=Lib.hid h0
     clear h0
     go_wp2_with (fail)
     go_roundg (l.length - (j+1))
     case measure => omega
     case rel => exact ⟨j+1,rfl,by omega,by omega,rfl,HE.out.trans HD2.out,HB1.out⟩
    ·have HD2:=Lib.hid (HD.out.trans (if_neg h0))
     have hbb:(wordsI x y != 0)=true:=by simpa using h0
     have H0:=Lib.hid h0
     clear h0
     go_wp2_with (fail)
     go_ret
     exact ⟨by rw [HE.out,HD2.out];rfl,HB1.out⟩
   ·have HD:=Lib.hid (rowsI_more l m j hlt (by omega))
    have c0:wr.cell? ⟨q,j,none⟩=some (.string (bs l[j])):=(HL.out.below HB.out HQ.out) j hlt
    generalize l[j]=x at *
    have hd:decide (m.length≤j)=true:=decide_eq_true (by omega)
    go_wp2_with (fail)
    go_ret
    exact ⟨by rw [HE.out,HD.out];rfl,HB.out⟩
  ·have hje:j=l.length:=by omega
   by_cases hlm:l.length<m.length
   ·have HD:=Lib.hid (show rowsI (l.drop j) (m.drop j)=-1 from by
     rw [List.drop_eq_nil_of_le (by omega),List.drop_eq_getElem_cons (by omega)]
     rfl)
    have hd:decide (l.length<m.length)=true:=decide_eq_true hlm
    clear hje
    go_wp2_with (fail)
    go_ret
    exact ⟨by rw [HE.out,HD.out];rfl,HB.out⟩
   ·have HD:=Lib.hid (show rowsI (l.drop j) (m.drop j)=0 from by
     rw [List.drop_eq_nil_of_le (by omega),List.drop_eq_nil_of_le (by omega)]
     rfl)
    have hd:decide (l.length<m.length)=false:=decide_eq_false hlm
    clear hje
    go_wp2_with (fail)
    go_ret
    exact ⟨by rw [HE.out,HD.out];rfl,HB.out⟩
set_option maxHeartbeats 1000000 in
set_option maxRecDepth 100000 in
theorem ahead_calls (a b:ByteArray) (ha:a.size≤1000000 - 1) (hb:b.size≤1000000 - 1) (hG:GL w) :
  Calls Tryz.prog 117 #[.string a,.string b] w fun e w' => e=.returned (.int .i64 (aheadI a.data.toList b.data.toList))∧Below w.heap.size w w':=by
 have HG:=Lib.hid hG
 clear hG
 cases h1:(a.toList == b.toList) with
 | true =>
  have HV:=Lib.hid (show aheadI a.data.toList b.data.toList=0 from by unfold aheadI;rw [if_pos (by rw [← Lib.toList_data,← Lib.toList_data];exact h1)])
  go_enter Tryz.func117,Tryz.ntmps117
  go_wp2_with (fail)
  go_ret
  exact ⟨by rw [HV.out];rfl,Below.refl _ _⟩
 | false =>
  have n1:¬ (a.data.toList == b.data.toList)=true:=by rw [← Lib.toList_data,← Lib.toList_data,h1];simp
  cases h2:a.toList.isEmpty with
  | true =>
   have HV:=Lib.hid (show aheadI a.data.toList b.data.toList=1 from by unfold aheadI;rw [if_neg n1,if_pos (by rw [← Lib.toList_data];cases h:a.toList <;> simp_all)])
   clear n1
   go_enter Tryz.func117,Tryz.ntmps117
   go_wp2_with (fail)
   go_ret
   exact ⟨by rw [HV.out];rfl,Below.refl _ _⟩
  | false =>
   have n2:¬ (a.data.toList == [])=true:=by rw [← Lib.toList_data];cases h:a.toList <;> simp_all
   cases h3:b.toList.isEmpty with
   | true =>
    have HV:=Lib.hid (show aheadI a.data.toList b.data.toList=-1 from by unfold aheadI;rw [if_neg n1,if_neg n2,if_pos (by rw [← Lib.toList_data];cases h:b.toList <;> simp_all)])
    clear n1 n2
    go_enter Tryz.func117,Tryz.ntmps117
    go_wp2_with (fail)
    go_ret
    exact ⟨by rw [HV.out];rfl,Below.refl _ _⟩
   | false =>
    have n3:¬ (b.data.toList == [])=true:=by rw [← Lib.toList_data];cases h:b.toList <;> simp_all
    have HV:=Lib.hid (show aheadI a.data.toList b.data.toList=rowsI (parts 46 a.data.toList) (parts 46 b.data.toList) from by unfold aheadI;rw [if_neg n1,if_neg n2,if_neg n3])
    clear n1 n2 n3
    have pl:a.data.toList.length=a.size:=rfl
    have ql:b.data.toList.length=b.size:=rfl
    have l1:=parts_len 46 a.data.toList
    have l2:=parts_len 46 b.data.toList
    have hl1:(parts 46 a.data.toList).length≤1000000:=by omega
    have hl2:(parts 46 b.data.toList).length≤1000000:=by omega
    have HZ:=Lib.hid (fun x hx => Nat.le_trans (parts_each 46 a.data.toList x hx) (show a.data.toList.length≤1000000 by omega))
    have HY:=Lib.hid (fun x hx => Nat.le_trans (parts_each 46 b.data.toList x hx) (show b.data.toList.length≤1000000 by omega))
    clear pl ql l1 l2
    go_enter Tryz.func117,Tryz.ntmps117
    go_wp2_with (fail)
    refine (split_calls _ a 46 (by omega) HG.out).mono ?_
    rintro e w1 ⟨rfl,rfl⟩
    have hsz:(w.alloc (.cells ((parts 46 a.data.toList).map fun x => Value.string (bs x)).toArray 9)).heap.size=w.heap.size+1:=by simp
    have HS1:=Lib.hid (StrsAt.new w (parts 46 a.data.toList) 9)
    have HS2:=Lib.hid (StrsAt.new (w.alloc (.cells ((parts 46 a.data.toList).map fun x => Value.string (bs x)).toArray 9)) (parts 46 b.data.toList) 9)
    have HB1:=Lib.hid ((Below.refl _ w).alloc (Nat.le_refl _) (.cells ((parts 46 a.data.toList).map fun x => Value.string (bs x)).toArray 9))
    have HB2:=Lib.hid ((Below.refl _ (w.alloc (.cells ((parts 46 a.data.toList).map fun x => Value.string (bs x)).toArray 9))).alloc (Nat.le_refl _) (.cells ((parts 46 b.data.toList).map fun x => Value.string (bs x)).toArray 9))
    have HG1:=Lib.hid (HG.out.below0 HB1.out)
    have HSZ:=Lib.hid hsz
    clear hsz
    go_wp2_with (fail)
    refine (split_calls _ b 46 (by omega) HG1.out).mono ?_
    rintro e w1 ⟨rfl,rfl⟩
    rw [HSZ.out]
    go_wp2_with (fail)
    have s1:=HS1.out.below HB2.out (by rw [HSZ.out];omega)
    have s2:=HS2.out
    rw [HSZ.out] at s2
    refine (compare_calls _ w.heap.size _ (w.heap.size+1) _ _ _ s1 s2 (by simp;omega) (by simp) hl1 hl2 HZ.out HY.out).mono ?_
    rintro e w2 ⟨rfl,hb2⟩
    have HB3:=Lib.hid hb2
    clear hb2 s1 s2
    go_wp2_with (fail)
    go_ret
    refine ⟨by rw [HV.out];rfl,?_⟩
    exact below_then (below_then HB1.out HB1.out.size HB2.out) (by have h1:=HB1.out.size;have h2:=HB2.out.size;omega) HB3.out
end
end Go.Proofs.YtjiidlkkkednoaaGreatDoor.Q
end
section
namespace Go.Proofs.YtjiidlkkkednoaaGreatDoor.Q
open Go.RowKit Go.Proofs.YtjiidlkkkednoaaGreatDoorW.PrintWords
theorem grow_below (w:World) (k:Nat) (os:Array Obj):Below w.heap.size w (Go.Sort.grow (w.drewN k) os) :=
 ⟨rfl,rfl,rfl,by rw [Go.Sort.size_grow];exact Nat.le_add_right _ _,fun i hi => by
  show (w.heap++os)[i]?=_
  rw [Array.getElem?_append_left hi]⟩
def strconv_Itoa.f (a0:Int):Option ByteArray:=if -9223372036854775808≤a0∧a0≤9223372036854775807 then some ⟨(Lib.itoa a0).toArray⟩ else none
theorem strconv_Itoa.calls (a0:Int) (r:ByteArray) (w:World) (hG:GL w) (h:strconv_Itoa.f a0=some r) :
  Calls Tryz.prog 61 #[.int .i64 a0] w fun e w' => e=.returned (.string r)∧Below w.heap.size w w':=by
 unfold strconv_Itoa.f at h
 split at h
 ·next hb =>
  obtain rfl:=Option.some.inj h
  refine (Tryz.strconv_Itoa a0 hb.1 hb.2 w hG.pow).mono ?_
  rintro e w' ⟨he,k,os,rfl⟩
  exact ⟨he,grow_below w k os⟩
 ·cases h
def strings_Clone.f (a0:ByteArray):Option ByteArray:=if a0.size≤281474976710656 then some a0 else none
theorem strings_Clone.calls (a0:ByteArray) (r:ByteArray) (w:World) (h:strings_Clone.f a0=some r) :
  Calls Tryz.prog 66 #[.string a0] w fun e w' => e=.returned (.string r)∧Below w.heap.size w w':=by
 unfold strings_Clone.f at h
 split at h
 ·next hs =>
  obtain rfl:=Option.some.inj h
  go_enter Tryz.func66,Tryz.ntmps66
  go_wp2_with (fail)
  refine (Tryz.stringslite_Clone a0 w hs).mono ?_
  rintro e w1 ⟨rfl,hb⟩
  have HB:=Lib.hid hb
  clear hb
  go_wp2_with (fail)
  go_ret
  exact ⟨rfl,HB.out⟩
 ·cases h
def ver_Right.f (a0_0:Int) (a0_1:Int) (a0_2:Int) (a0_3:ByteArray):Option Bool:=if a0_3.size≤1000000 then some (rightV a0_0 a0_1 a0_2 a0_3.data.toList) else none
theorem ver_Right.calls (a0_0:Int) (a0_1:Int) (a0_2:Int) (a0_3:ByteArray) (r:Bool) (w:World) (hG:GL w) (h:ver_Right.f a0_0 a0_1 a0_2 a0_3=some r) :
  Calls Tryz.prog 73 #[.agg #[.int .i64 a0_0,.int .i64 a0_1,.int .i64 a0_2,.string a0_3]] w fun e w' => e=.returned (.bool r)∧Below w.heap.size w w':=by
 unfold ver_Right.f at h
 split at h
 ·next hs =>
  obtain rfl:=Option.some.inj h
  exact right_calls w a0_0 a0_1 a0_2 a0_3 hs hG
 ·cases h
def ver_ahead.f (a0:ByteArray) (a1:ByteArray):Option Int:=if a0.size≤900000∧a1.size≤900000 then some (aheadI a0.data.toList a1.data.toList) else none
theorem ver_ahead.calls (a0:ByteArray) (a1:ByteArray) (r:Int) (w:World) (hG:GL w) (h:ver_ahead.f a0 a1=some r) :
  Calls Tryz.prog 117 #[.string a0,.string a1] w fun e w' => e=.returned (.int .i64 r)∧Below w.heap.size w w':=by
 unfold ver_ahead.f at h
 split at h
 ·next hs =>
  obtain rfl:=Option.some.inj h
  exact ahead_calls w a0 a1 (by omega) (by omega) hG
 ·cases h
end Go.Proofs.YtjiidlkkkednoaaGreatDoor.Q
end
