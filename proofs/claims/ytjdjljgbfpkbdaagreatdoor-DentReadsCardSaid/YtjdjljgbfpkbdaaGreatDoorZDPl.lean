import Derived.Test.YtjdjljgbfpkbdaaGreatDoorZDLocks
import Derived.Test.YtjdjljgbfpkbdaaGreatDoorZDPm
import Derived.Test.YtjdjljgbfpkbdaaGreatDoorZCutg
import Derived.Test.YtjdjljgbfpkbdaaGreatDoorZQ21
import Derived.Test.YtjdjljgbfpkbdaaGreatDoorZQ22
import Derived.Test.YtjdjljgbfpkbdaaGreatDoorZQ7g
set_option linter.unusedVariables false
set_option linter.unusedSimpArgs false
namespace Go.Proofs.YtjdjljgbfpkbdaaGreatDoor.Q
open Go.RowKit Go.Proofs.YtjdjljgbfpkbdaaGreatDoorW.PrintWords Go.Proofs.YtjdjljgbfpkbdaaGreatDoorW.PrintLast Go.Proofs.YtjdjljgbfpkbdaaGreatDoorW.PrintMore
theorem parts_plain {c:UInt8}:∀ {m:List UInt8},(∀ x ∈ m,x≠c)→parts c m=[m]
 | [],_ => rfl
 | x :: m,h => by
  rw [parts_cons,if_neg (h x List.mem_cons_self),parts_plain (fun y hy => h y (List.mem_cons_of_mem _ hy))]
theorem parts_snoc {c:UInt8} {m:List UInt8} (h:∀ x ∈ m,x≠c):∀ l:List UInt8,parts c (l++c :: m)=parts c l++[m]
 | [] => by rw [List.nil_append,parts_cons,if_pos rfl,parts_plain h];rfl
 | x :: l => by
  rw [List.cons_append,parts_cons,parts_cons,parts_snoc h l]
  split
  ·rfl
  ·have:=parts_ne c l
   cases hp:parts c l with
   | nil => exact absurd hp this
   | cons w ws => rfl
def Pathy (s:ByteArray):Prop:=(parts 47 s.data.toList).all okWord=true∧1≤s.size
theorem okWord_47 {w:List UInt8} (h:okWord w=true):∀ x ∈ w,x≠47:=by
 intro x hx e
 subst e
 simp only [okWord,Bool.and_eq_true,List.all_eq_true] at h
 have:=h.2 47 hx
 revert this
 decide
theorem okWord_ne {w:List UInt8} (h:okWord w=true):w≠[]:=by
 rintro rfl
 simp [okWord] at h
theorem Pathy.more {s w:ByteArray} (h:Pathy s) (hw:okWord w.data.toList=true):Pathy ((s++(⟨#[47]⟩:ByteArray))++w):=by
 refine ⟨?_,by simp only [ByteArray.size_append];have:=h.2;omega⟩
 have e:((s++(⟨#[47]⟩:ByteArray))++w).data.toList=s.data.toList++47 :: w.data.toList:=by simp [ByteArray.data_append]
 rw [e,parts_snoc (okWord_47 hw),List.all_append,h.1]
 simp [hw]
theorem Pathy.one {w:ByteArray} (hw:okWord w.data.toList=true):Pathy w:=by
 refine ⟨?_,?_⟩
 ·rw [parts_plain (okWord_47 hw)]
  simp [hw]
 ·have:=okWord_ne hw
  have h2:=List.length_pos_iff.2 this
  rw [data_length] at h2
  omega
theorem Pathy.right {s:ByteArray} (h:Pathy s) (hs:s.size≤40):rightL s.data.toList=true:=by
 unfold rightL
 rw [h.1,data_length,decide_eq_true h.2,decide_eq_true hs]
 rfl
def pathWords:List ByteArray:=[(⟨#[97]⟩:ByteArray),(⟨#[98]⟩:ByteArray),(⟨#[97,46,98]⟩:ByteArray),(⟨#[99,45,100]⟩:ByteArray),(⟨#[118,50]⟩:ByteArray),(⟨#[118,51]⟩:ByteArray),(⟨#[118,49]⟩:ByteArray),(⟨#[118,48,50]⟩:ByteArray),(⟨#[95]⟩:ByteArray),(⟨#[108,105,98]⟩:ByteArray),(⟨#[118,50,48]⟩:ByteArray)]
theorem pathWords_ok:∀ w ∈ pathWords,okWord w.data.toList=true∧w.size≤3:=by decide
theorem pathWord_at (j:Int) (h0:0≤j) (h1:j<11):okWord (rdOf ByteArray.empty pathWords j).data.toList=true∧(rdOf ByteArray.empty pathWords j).size≤3:=by
 have hl:j.toNat<pathWords.length:=by show j.toNat<11;omega
 have:rdOf ByteArray.empty pathWords j=pathWords[j.toNat]:=by
  simp [rdOf,List.getD,List.getElem?_eq_getElem hl]
 rw [this]
 exact pathWords_ok _ (List.getElem_mem hl)
theorem win_f (f:Int→Int→Option Int) (hf:∀ a b,f a b=if b=0 then none else if Int.tmod a b<0 then some (wrap64 (Int.tmod a b+b)) else some (Int.tmod a b)) (a n:Int) (hn:0<n) (hn2:n≤4611686018427387904):∃ r,f a n=some r∧0≤r∧r<n:=by
 rw [hf,if_neg (by omega)]
 have h1:=Int.tmod_lt_of_pos a hn
 have h2:-n<Int.tmod a n:=by
  have:=Int.tmod_lt_of_pos (-a) hn
  rw [Int.neg_tmod] at this
  omega
 split
 ·refine ⟨_,rfl,?_⟩
  rw [wrap_id (by omega) (by omega)]
  omega
 ·exact ⟨_,rfl,by omega,h1⟩
theorem path_l0:∀ (d:Nat) (x:Int) (s:ByteArray) (i:Int),i.toNat=d→0≤i→i≤3→0≤x→x≤1099511627776→Pathy s→s.size≤3+4 * (3 - i.toNat) →
  ∃ r,Ev (fun k => transhumancelaw4_Make.l0 k x pathWords s i) r∧rightL r.data.toList=true∧r.size≤40
 | 0,x,s,i,hd,h0,h3,hx,hx2,hs,hz => by
  have hi:i=0:=by omega
  subst hi
  by_cases hb:(s.size:Int) > 40
  ·omega
  ·exact ⟨s,Ev.step (fun _ => transhumancelaw4_Make.l0.eq_2 ..) (Ev.neg (by omega) (Ev.neg hb (Ev.now _))),hs.right (by omega),by omega⟩
 | d+1,x,s,i,hd,h0,h3,hx,hx2,hs,hz => by
  obtain ⟨y0,y1⟩:=tdiv_bd 4 hx (by omega)
  have hy:wrap64 (Int.tdiv x 4)=Int.tdiv x 4:=wrap_id (by omega) (by omega)
  obtain ⟨m0,m1⟩:=tmod_bd 11 y0 (by omega)
  obtain ⟨wo,wz⟩:=pathWord_at _ m0 m1
  have hi:wrap64 (i - 1)=i - 1:=wrap_id (by omega) (by omega)
  have hz1:((⟨#[47]⟩:ByteArray)).size=1:=rfl
  obtain ⟨r,hr,ho⟩:=path_l0 d (Int.tdiv x 4) ((s++(⟨#[47]⟩:ByteArray))++rdOf ByteArray.empty pathWords (Int.tmod (Int.tdiv x 4) 11)) (i - 1) (by omega) (by omega) (by omega) y0 (by omega) (hs.more wo)
   (by simp only [ByteArray.size_append,hz1];omega)
  refine ⟨r,Ev.step (fun _ => transhumancelaw4_Make.l0.eq_2 ..) ?_,ho⟩
  rw [hy,hi]
  exact Ev.pos (by omega) (Ev.pos (by omega) (Ev.pos m0 (Ev.pos (by show _<((11:Nat):Int);omega) (Ev.pos (by simp only [ByteArray.size_append,hz1];omega) hr))))
theorem path_make (a:Int):∃ r,Ev (fun k => transhumancelaw4_Make.f k a) r∧rightL r.data.toList=true∧r.size≤40:=by
 obtain ⟨t,ht,t0,t1⟩:=win_f transhumancelaw4_within.f (fun _ _ => rfl) a 1099511627776 (by omega) (by omega)
 obtain ⟨m0,m1⟩:=tmod_bd 11 t0 (by omega)
 obtain ⟨y0,y1⟩:=tdiv_bd 11 t0 (by omega)
 have hy:wrap64 (Int.tdiv t 11)=Int.tdiv t 11:=wrap_id (by omega) (by omega)
 obtain ⟨n0,n1⟩:=tmod_bd 4 y0 (by omega)
 obtain ⟨wo,wz⟩:=pathWord_at _ m0 m1
 obtain ⟨r,hr,ho⟩:=path_l0 _ (Int.tdiv t 11) (rdOf ByteArray.empty pathWords (Int.tmod t 11)) (Int.tmod (Int.tdiv t 11) 4) rfl n0 (by omega) y0 (by omega) (Pathy.one wo) (by omega)
 refine ⟨r,?_,ho⟩
 unfold transhumancelaw4_Make.f
 rw [ht]
 show Ev (fun k => if 0≤Int.tmod t 11 then (if Int.tmod t 11<((11:Nat):Int) then transhumancelaw4_Make.l0 k (wrap64 (Int.tdiv t 11)) pathWords (rdOf ByteArray.empty pathWords (Int.tmod t 11)) (Int.tmod (wrap64 (Int.tdiv t 11)) 4) else none) else none) r
 rw [hy]
 exact Ev.pos m0 (Ev.pos (by omega) hr)
def Plainy (s:ByteArray):Prop:=s.data.toList.all plainB=true
theorem Plainy.append {s t:ByteArray} (h:Plainy s) (k:Plainy t):Plainy (s++t):=by
 unfold Plainy at *
 rw [ByteArray.data_append,Array.toList_append,List.all_append,h,k]
 rfl
theorem right_plain {s:ByteArray} (h:rightL s.data.toList=true):Plainy s:=by
 have hp:(parts 47 s.data.toList).all okWord=true:=by
  simp only [rightL,Bool.and_eq_true] at h
  exact h.2
 clear h
 unfold Plainy
 generalize s.data.toList=l at *
 have key:∀ b:UInt8,okSign b=true→plainB b=true:=by
  intro b hb
  have:∀ n:Nat,n<256→okSign (UInt8.ofNat n)=true→plainB (UInt8.ofNat n)=true:=by decide +kernel
  have h2:=this b.toNat b.toNat_lt
  simp only [UInt8.ofNat_toNat] at h2
  exact h2 hb
 have sub:∀ l:List UInt8,(∀ w ∈ parts 47 l,w.all okSign=true)→l.all plainB=true:=by
  intro l
  induction l with
  | nil => intro _;rfl
  | cons x l ih =>
   intro h
   rw [parts_cons] at h
   by_cases hx:x=47
   ·subst hx
    rw [if_pos rfl] at h
    rw [List.all_cons,ih (fun w hw => h w (List.mem_cons_of_mem _ hw))]
    rfl
   ·rw [if_neg hx] at h
    cases hp:parts 47 l with
    | nil => exact absurd hp (parts_ne 47 l)
    | cons w ws =>
     rw [hp] at h ih
     have h1:=h (x :: w) List.mem_cons_self
     simp only [List.all_cons,Bool.and_eq_true] at h1
     rw [List.all_cons,key x h1.1,ih ?_]
     ·rfl
     ·intro u hu
      rcases List.mem_cons.1 hu with rfl|hu
      ·exact h1.2
      ·exact h u (List.mem_cons_of_mem _ hu)
 refine sub l fun w hw => ?_
 have:=List.all_eq_true.1 hp w hw
 simp only [okWord,Bool.and_eq_true] at this
 exact this.2
def Lk.get (x:Lk) (k:Nat):ByteArray :=
 match k with
 | 0 => x.root
 | 1 => x.version
 | 2 => x.rev
 | 3 => x.within
 | _ => x.source
structure OkLk (x:Lk):Prop where
 root:rightL x.root.data.toList=true
 some:x.rev.data.toList≠[]∨x.version.data.toList≠[]
 source:x.source.data.toList≠[]→rightL x.source.data.toList=true
 plain:∀ k,k<5→(x.get k).data.toList.all plainB=true
structure OkLks (l:List Lk):Prop where
 each:∀ x ∈ l,OkLk x
 apart:(l.map fun x => x.root.data.toList).Nodup
 few:l.length≤40
theorem extract_one (s:ByteArray) (i:Nat) (h:i<s.size):s.extract i (i+1)=bs [s[i]]:=by
 apply ext_bs
 rw [data_bs,ByteArray.data_extract]
 simp only [Array.toList_extract,List.extract_eq_take_drop]
 rw [drop_at s i h]
 simp
theorem bs_append (l m:List UInt8):bs l++bs m=bs (l++m):=ext_bs (by rw [ByteArray.data_append];simp [bs])
theorem quote_l0 (s:ByteArray) (hs:s.size≤1000000):∀ (d i:Nat) (acc:List UInt8),i+d=s.size→acc.length≤2 * i+1 →
  Ev (fun k => transhumanceref1_Quote.l0 k s (bs acc) i) (bs (acc++((s.data.toList.drop i).flatMap R.quoteB++[34])))
 | 0,i,acc,hd,ha => by
  refine Ev.step (fun _ => transhumanceref1_Quote.l0.eq_2 ..) (Ev.neg (by omega) (Ev.pos (by rw [size_bs];omega) (Ev.ret ?_)))
  rw [List.drop_eq_nil_of_le (by rw [data_length];omega)]
  exact congrArg some (bs_append acc [34])
 | d+1,i,acc,hd,ha => by
  have hi:i<s.size:=by omega
  have hw:wrap64 ((i:Int)+1)=((i+1:Nat):Int):=wrap_id (by omega) (by omega)
  rw [drop_at s i hi,List.flatMap_cons]
  refine Ev.step (fun _ => transhumanceref1_Quote.l0.eq_2 ..) (Ev.pos (by omega) (Ev.pos (by omega) ?_))
  rw [hw,bt_get s i hi]
  have step:∀ q:List UInt8,R.quoteB s[i]=q→q.length≤2→Ev (fun k => transhumanceref1_Quote.l0 k s (bs acc++bs q) ((i+1:Nat):Int)) (bs (acc++(R.quoteB s[i]++(s.data.toList.drop (i+1)).flatMap R.quoteB++[34]))):=by
   intro q hq hl
   have:=quote_l0 s hs d (i+1) (acc++q) (by omega) (by rw [List.length_append];omega)
   rw [bs_append,hq]
   simpa [List.append_assoc] using this
  by_cases h0:s[i]=34
  ·exact Ev.pos ((byte_int (by decide)).2 h0) (Ev.pos (by rw [size_bs];omega) (step [92,34] (by rw [h0];rfl) (by decide)))
  refine Ev.neg (fun h => h0 ((byte_int (n:=34) (by decide)).1 h)) ?_
  by_cases h1:s[i]=92
  ·exact Ev.pos ((byte_int (by decide)).2 h1) (Ev.pos (by rw [size_bs];omega) (step [92,92] (by rw [h1];rfl) (by decide)))
  refine Ev.neg (fun h => h1 ((byte_int (n:=92) (by decide)).1 h)) ?_
  by_cases h2:s[i]=10
  ·exact Ev.pos ((byte_int (by decide)).2 h2) (Ev.pos (by rw [size_bs];omega) (step [92,110] (by rw [h2];rfl) (by decide)))
  refine Ev.neg (fun h => h2 ((byte_int (n:=10) (by decide)).1 h)) ?_
  by_cases h3:s[i]=9
  ·exact Ev.pos ((byte_int (by decide)).2 h3) (Ev.pos (by rw [size_bs];omega) (step [92,116] (by rw [h3];rfl) (by decide)))
  refine Ev.neg (fun h => h3 ((byte_int (n:=9) (by decide)).1 h)) ?_
  refine Ev.pos (by omega) (Ev.pos (by omega) ?_)
  rw [show (i:Int).toNat=i from by omega,show (((i+1:Nat):Int)).toNat=i+1 from by omega,extract_one s i hi]
  refine Ev.pos (by rw [size_bs,size_bs];simp only [List.length_cons,List.length_nil];omega) (step [s[i]] ?_ (by simp))
  unfold R.quoteB
  rw [if_neg h0,if_neg h1,if_neg h2,if_neg h3]
theorem quote_ev (s:ByteArray) (hs:s.size≤1000000):Ev (fun k => transhumanceref1_Quote.f k s) (bs (R.quoteL s.data.toList)):=by
 have:=quote_l0 s hs s.size 0 [34] (by omega) (by simp)
 rw [List.drop_zero] at this
 exact this
def outs (l:List Lk):List S43:=l.map Lk.out
theorem rd_out (l:List Lk) (j:Nat) (h:j<l.length):rd_T43 (outs l) (j:Int)=(l[j]).out:=by
 simp [rd_T43,outs,List.getD,List.getElem?_eq_getElem h]
def vals (x:Lk):List ByteArray:=[x.root,x.version,x.rev,x.within,x.source]
theorem vals_at (x:Lk) (t:Nat) (h:t<5):rdOf ByteArray.empty (vals x) (t:Int)=x.get t:=by
 rcases t with _|_|_|_|_|t
 all_goals first|rfl|omega
theorem names_sz (t:Nat) (h:t<5):(rdOf ByteArray.empty names (t:Int)).size≤8∧(rdOf ByteArray.empty names (t:Int)).data.toList.all plainB=true:=by
 rcases t with _|_|_|_|_|t
 all_goals first|omega|(show _∧_;decide)
def signsB:ByteArray:=(⟨#[10,9,32,34,92,35,47,97,98,99,110,116,58,61,45,91,93,123,125,44,46,48,49,50,51,118,120,126,94,42,124,60,62,33,95,122,121,113]⟩:ByteArray)
theorem signs_plain:∀ i:Fin 38,plainB (signsB.data.toList.getD i.val 0)=true∧bt signsB (i.val:Int)=((signsB.data.toList.getD i.val 0).toNat:Int):=by decide +kernel
theorem sign_at (t:Int) (h0:0≤t) (h1:t<38):∃ b:UInt8,plainB b=true∧bt signsB t=(b.toNat:Int):=by
 obtain ⟨h2,h3⟩:=signs_plain ⟨t.toNat,by omega⟩
 refine ⟨_,h2,?_⟩
 rw [← h3]
 congr 1
 simp only
 omega
theorem strOf_list (l:List UInt8):strOfNums (R.nats l)=bs l:=R.strOf_nats l
theorem nats_len (l:List UInt8):(R.nats l).length=l.length:=R.nats_length l
theorem plain_l0:∀ (d i:Nat) (done:List UInt8) (rest:List Int),done.length=i→rest.length=d→i+d≤1000→done.all plainB=true →
  ∃ r,Ev (fun k => transhumancelaw1_Plain.l0 k (R.nats done++rest) i) r∧Plainy r∧r.size=i+d
 | 0,i,done,rest,hd,hr,hb,hp => by
  obtain rfl:rest=[]:=List.eq_nil_of_length_eq_zero hr
  refine ⟨bs done,Ev.step (fun _ => transhumancelaw1_Plain.l0.eq_2 ..) (Ev.neg (by simp only [List.append_nil,nats_len];omega) (Ev.ret ?_)),?_,?_⟩
  ·rw [List.append_nil,strOf_list]
  ·unfold Plainy;rw [data_bs];exact hp
  ·rw [size_bs];omega
 | d+1,i,done,[],hd,hr,hb,hp => by simp at hr
 | d+1,i,done,x :: rest,hd,hr,hb,hp => by
  obtain ⟨t,ht,t0,t1⟩:=win_f transhumancelaw1_within.f (fun _ _ => rfl) (wrap64 (rd (R.nats done++x :: rest) i)) 38 (by omega) (by omega)
  obtain ⟨b,hb1,hb2⟩:=sign_at t t0 t1
  have hw:wrap64 ((i:Int)+1)=((i+1:Nat):Int):=wrap_id (by omega) (by omega)
  obtain ⟨r,e1,e2,e3⟩:=plain_l0 d (i+1) (done++[b]) rest (by simp [hd]) (by simpa using hr) (by omega) (by rw [List.all_append,hp];simp [hb1])
  refine ⟨r,?_,e2,by omega⟩
  have hlen:(R.nats done++x :: rest).length=i+(d+1):=by rw [List.length_append,nats_len,hd,hr]
  refine Ev.step (fun _ => transhumancelaw1_Plain.l0.eq_2 ..) (Ev.pos (by rw [hlen];omega) (Ev.val (a:=signsB) rfl (Ev.pos (by omega) (Ev.val (a:=signsB) rfl (Ev.val (a:=t) ht (Ev.pos t0 (Ev.pos (by show t<((38:Nat):Int);omega) ?_)))))))
  rw [hb2,hw]
  have hset:(R.nats done++x :: rest).set ((i:Int)).toNat (b.toNat:Int)=R.nats (done++[b])++rest:=by
   rw [Int.toNat_natCast,List.set_append_right _ _ (by rw [nats_len];omega),nats_len,hd,Nat.sub_self,List.set_cons_zero,R.nats_append]
   simp [R.nats]
  rw [hset]
  exact e1
theorem plain_make (l:List Int) (m:Nat) (hm:m≤1000):∃ r,Ev (fun k => transhumancelaw1_Plain.f k l m) r∧Plainy r∧r.size≤m:=by
 have hmn:mn (l.length:Int) m=((min l.length m:Nat):Int):=by unfold mn;omega
 have hlt:(l.take (min l.length m)).length=min l.length m:=by rw [List.length_take];omega
 obtain ⟨r,e1,e2,e3⟩:=plain_l0 (min l.length m) 0 [] (l.take (min l.length m)) rfl hlt (by omega) rfl
 refine ⟨r,?_,e2,by omega⟩
 unfold transhumancelaw1_Plain.f
 rw [hmn]
 refine Ev.val rfl (Ev.pos (by omega) (Ev.pos (by omega) ?_))
 rw [Int.toNat_natCast]
 exact Ev.pos (by rw [hlt];simp only [List.length_nil];omega) e1
def tens:Nat→Int
 | 0 => 10
 | d+1 => tens d * 10
theorem digit_one:∀ j:Fin 10,Plainy (strOfNums [(wrap64 (48+(j.val:Int))) % 256])∧(strOfNums [(wrap64 (48+(j.val:Int))) % 256]).size=1:=by unfold Plainy;decide +kernel
theorem digit_ev (n:Int) (h0:0≤n) (h1:n<10):Ev (fun k => transhumanceref1_Digits.f k n) (strOfNums [(wrap64 (48+n)) % 256])∧Plainy (strOfNums [(wrap64 (48+n)) % 256])∧(strOfNums [(wrap64 (48+n)) % 256]).size=1:=by
 obtain ⟨h4,h5⟩:=digit_one ⟨n.toNat,by omega⟩
 simp only [show ((n.toNat:Nat):Int)=n from by omega] at h4 h5
 exact ⟨Ev.step (fun _ => transhumanceref1_Digits.f.eq_2 ..) (Ev.neg (by omega) (Ev.now _)),h4,h5⟩
theorem digits_ev:∀ (d:Nat) (n:Int),0≤n→n<tens d→n≤9223372036854775807→d≤100→∃ r,Ev (fun k => transhumanceref1_Digits.f k n) r∧Plainy r∧1≤r.size∧r.size≤d+1:=by
 intro d
 induction d with
 | zero =>
  intro n h0 h1 _ _
  obtain ⟨q,h4,h5⟩:=digit_ev n h0 h1
  exact ⟨_,q,h4,by omega,by omega⟩
 | succ d ih =>
  intro n h0 h1 hd hd2
  by_cases h:n ≥ 10
  ·have h2:Int.tdiv n 10=n / 10:=Int.tdiv_eq_ediv_of_nonneg h0
   have h3:Int.tmod n 10=n % 10:=Int.tmod_eq_emod_of_nonneg h0
   have hpow:n<tens d * 10:=h1
   obtain ⟨r,e1,p1,s1,s2⟩:=ih (n / 10) (by omega) (by omega) (by omega) (by omega)
   obtain ⟨q,h4,h5⟩:=digit_ev (n % 10) (by omega) (by omega)
   refine ⟨r++strOfNums [(wrap64 (48+n % 10)) % 256],Ev.step (fun _ => transhumanceref1_Digits.f.eq_2 ..) (Ev.pos h ?_),p1.append h4,?_,?_⟩
   ·rw [h2,h3,wrap_id (x:=n / 10) (by omega) (by omega)]
    refine Ev.bind e1 (Ev.bind q (Ev.pos ?_ (Ev.now _)))
    omega
   ·rw [ByteArray.size_append];omega
   ·rw [ByteArray.size_append];omega
  ·obtain ⟨q,h4,h5⟩:=digit_ev n h0 (by omega)
   exact ⟨_,q,h4,by omega,by omega⟩
theorem plain_lit {l:List UInt8} (h:l.all plainB=true):Plainy ⟨l.toArray⟩:=by
 unfold Plainy
 simpa using h
theorem ver_text (a b c:Int) (p:ByteArray) (ha:0≤a∧a≤999999) (hb:0≤b∧b≤999999) (hc:0≤c∧c≤999999) (hp:Plainy p) (hz:p.size≤40) :
  ∃ r,Ev (fun k => transhumanceref2_Text.f k a b c p) r∧Plainy r∧r.data.toList≠[]∧r.size≤100:=by
 obtain ⟨x,x1,x2,x3,x4⟩:=digits_ev 5 a ha.1 (by show a<1000000;omega) (by omega) (by omega)
 obtain ⟨y,y1,y2,y3,y4⟩:=digits_ev 5 b hb.1 (by show b<1000000;omega) (by omega) (by omega)
 obtain ⟨z,z1,z2,z3,z4⟩:=digits_ev 5 c hc.1 (by show c<1000000;omega) (by omega) (by omega)
 have ev:Plainy (⟨#[118]⟩:ByteArray):=plain_lit (l:=[118]) rfl
 have ed:Plainy (⟨#[46]⟩:ByteArray):=plain_lit (l:=[46]) rfl
 have eh:Plainy (⟨#[45]⟩:ByteArray):=plain_lit (l:=[45]) rfl
 have s1:(⟨#[118]⟩:ByteArray).size=1:=rfl
 have s2:(⟨#[46]⟩:ByteArray).size=1:=rfl
 have s3:(⟨#[45]⟩:ByteArray).size=1:=rfl
 have base:=(((((ev.append x2).append ed).append y2).append ed).append z2)
 have ne:∀ r:ByteArray,0<r.size→r.data.toList≠[]:=by
  intro r h e
  have:=data_length r
  rw [e] at this
  simp at this
  omega
 unfold transhumanceref2_Text.f
 have z5:(5:Nat)+1=6:=rfl
 by_cases he:p.toList=[]
 ·refine ⟨((((((⟨#[118]⟩:ByteArray)++x)++(⟨#[46]⟩:ByteArray))++y)++(⟨#[46]⟩:ByteArray))++z),?_,base,ne _ ?_,?_⟩
  ·refine Ev.bind x1 ?_
   refine Ev.pos (by (try simp only [ByteArray.size_append,s1,s2,s3]);omega) (Ev.pos (by simp only [ByteArray.size_append,s1,s2,s3];omega) ?_)
   refine Ev.bind y1 ?_
   refine Ev.pos (by (try simp only [ByteArray.size_append,s1,s2,s3]);omega) (Ev.pos (by simp only [ByteArray.size_append,s1,s2,s3];omega) ?_)
   refine Ev.bind z1 ?_
   exact Ev.pos (by (try simp only [ByteArray.size_append,s1,s2,s3]);omega) (Ev.pos he (Ev.now _))
  all_goals (simp only [ByteArray.size_append,s1,s2,s3];omega)
 ·refine ⟨((((((((⟨#[118]⟩:ByteArray)++x)++(⟨#[46]⟩:ByteArray))++y)++(⟨#[46]⟩:ByteArray))++z)++(⟨#[45]⟩:ByteArray))++p),?_,(base.append eh).append hp,ne _ ?_,?_⟩
  ·refine Ev.bind x1 ?_
   refine Ev.pos (by (try simp only [ByteArray.size_append,s1,s2,s3]);omega) (Ev.pos (by simp only [ByteArray.size_append,s1,s2,s3];omega) ?_)
   refine Ev.bind y1 ?_
   refine Ev.pos (by (try simp only [ByteArray.size_append,s1,s2,s3]);omega) (Ev.pos (by simp only [ByteArray.size_append,s1,s2,s3];omega) ?_)
   refine Ev.bind z1 ?_
   exact Ev.pos (by simp only [ByteArray.size_append,s1,s2,s3];omega) (Ev.neg he (Ev.pos (by (try simp only [ByteArray.size_append,s1,s2,s3]);omega) (Ev.pos (by simp only [ByteArray.size_append,s1,s2,s3];omega) (Ev.now _))))
  all_goals (simp only [ByteArray.size_append,s1,s2,s3];omega)
def preWords:List ByteArray:=[(⟨#[48]⟩:ByteArray),(⟨#[49]⟩:ByteArray),(⟨#[49,48]⟩:ByteArray),(⟨#[50]⟩:ByteArray),(⟨#[97]⟩:ByteArray),(⟨#[114,99]⟩:ByteArray),(⟨#[114,99,49]⟩:ByteArray),(⟨#[65]⟩:ByteArray),(⟨#[45]⟩:ByteArray),(⟨#[48,97]⟩:ByteArray),(⟨#[97,108,112,104,97]⟩:ByteArray),(⟨#[57,57,57,57,57,57,57,57,57,57]⟩:ByteArray),(⟨#[50,48,50,48,48,49,48,49,48,48,48,48,48,48,45,97,98,99,100,101,102,48,49,50,51,52,53]⟩:ByteArray)]
theorem preWords_ok:∀ w ∈ preWords,w.data.toList.all plainB=true∧w.size≤27:=by decide
theorem preWord_at (j:Int) (h0:0≤j) (h1:j<13):Plainy (rdOf ByteArray.empty preWords j)∧(rdOf ByteArray.empty preWords j).size≤27:=by
 have hl:j.toNat<preWords.length:=by show j.toNat<13;omega
 have:rdOf ByteArray.empty preWords j=preWords[j.toNat]:=by
  simp [rdOf,List.getD,List.getElem?_eq_getElem hl]
 rw [this]
 exact preWords_ok _ (List.getElem_mem hl)
theorem pre_l0 (a b c:Int):∀ (d:Nat) (x i:Int) (s:ByteArray),0≤i→i+d=4→0≤x→x≤1099511627776→Plainy s→s.size≤28 * i.toNat →
  ∃ r,Ev (fun k => transhumancelaw2_Make.l0 k preWords x i a b c s) (a,b,c,r)∧Plainy r∧r.size≤40:=by
 intro d
 induction d with
 | zero =>
  intro x i s h0 hd hx hx2 hp hz
  have hm:=Int.tmod_lt_of_pos x (show (0:Int)<4 by omega)
  by_cases hb:(s.size:Int) > 40
  ·exact ⟨_,Ev.step (fun _ => transhumancelaw2_Make.l0.eq_2 ..) (Ev.neg (by omega) (Ev.pos hb (Ev.now _))),plain_lit (l:=[114,99,46,49]) rfl,by decide⟩
  ·exact ⟨_,Ev.step (fun _ => transhumancelaw2_Make.l0.eq_2 ..) (Ev.neg (by omega) (Ev.neg hb (Ev.now _))),hp,by omega⟩
 | succ d ih =>
  intro x i s h0 hd hx hx2 hp hz
  by_cases hi:i<Int.tmod x 4
  ·obtain ⟨y0,y1⟩:=tdiv_bd 4 hx (by omega)
   have hy:wrap64 (Int.tdiv x 4)=Int.tdiv x 4:=wrap_id (by omega) (by omega)
   obtain ⟨m0,m1⟩:=tmod_bd 13 y0 (by omega)
   obtain ⟨v0,v1⟩:=tdiv_bd 13 hx (by omega)
   have hv:wrap64 (Int.tdiv x 13)=Int.tdiv x 13:=wrap_id (by omega) (by omega)
   obtain ⟨wo,wz⟩:=preWord_at _ m0 m1
   have hw:wrap64 (i+1)=i+1:=wrap_id (by omega) (by omega)
   have s2:(⟨#[46]⟩:ByteArray).size=1:=rfl
   have ed:Plainy (⟨#[46]⟩:ByteArray):=plain_lit (l:=[46]) rfl
   by_cases h1:i > 0
   ·obtain ⟨r,e1,e2⟩:=ih (Int.tdiv x 13) (i+1) ((s++(⟨#[46]⟩:ByteArray))++rdOf ByteArray.empty preWords (Int.tmod (Int.tdiv x 4) 13)) (by omega) (by omega) v0 (by omega) ((hp.append ed).append wo)
     (by simp only [ByteArray.size_append,s2];omega)
    refine ⟨r,Ev.step (fun _ => transhumancelaw2_Make.l0.eq_2 ..) (Ev.pos hi (Ev.pos h1 ?_)),e2⟩
    rw [hy,hv,hw]
    exact Ev.pos (by omega) (Ev.pos m0 (Ev.pos (by show _<((13:Nat):Int);omega) (Ev.pos (by simp only [ByteArray.size_append,s2];omega) e1)))
   ·obtain ⟨r,e1,e2⟩:=ih (Int.tdiv x 13) (i+1) (s++rdOf ByteArray.empty preWords (Int.tmod (Int.tdiv x 4) 13)) (by omega) (by omega) v0 (by omega) (hp.append wo)
     (by simp only [ByteArray.size_append];omega)
    refine ⟨r,Ev.step (fun _ => transhumancelaw2_Make.l0.eq_2 ..) (Ev.pos hi (Ev.neg h1 ?_)),e2⟩
    rw [hy,hv,hw]
    exact Ev.pos m0 (Ev.pos (by show _<((13:Nat):Int);omega) (Ev.pos (by omega) e1))
  ·by_cases hb:(s.size:Int) > 40
   ·exact ⟨_,Ev.step (fun _ => transhumancelaw2_Make.l0.eq_2 ..) (Ev.neg hi (Ev.pos hb (Ev.now _))),plain_lit (l:=[114,99,46,49]) rfl,by decide⟩
   ·exact ⟨_,Ev.step (fun _ => transhumancelaw2_Make.l0.eq_2 ..) (Ev.neg hi (Ev.neg hb (Ev.now _))),hp,by omega⟩
theorem pre_j0 (m a b c:Int):∃ r,Ev (fun k => transhumancelaw2_Make.j0 k m a b c ⟨#[]⟩) (a,b,c,r)∧Plainy r∧r.size≤40:=by
 obtain ⟨t,ht,t0,t1⟩:=win_f transhumancelaw2_within.f (fun _ _ => rfl) m 1099511627776 (by omega) (by omega)
 obtain ⟨r,e1,e2⟩:=pre_l0 a b c 4 t 0 ⟨#[]⟩ (by omega) (by omega) t0 (by omega) (plain_lit (l:=[]) rfl) (by decide)
 exact ⟨r,Ev.step (fun _ => transhumancelaw2_Make.j0.eq_2 ..) (Ev.val ht e1),e2⟩
def partOk (a:Int):Prop:=0≤a∧a≤999999
theorem ver_make (n m:Int):∃ a b c p,Ev (fun k => transhumancelaw2_Make.f k n m) (a,b,c,p)∧partOk a∧partOk b∧partOk c∧Plainy p∧p.size≤40:=by
 obtain ⟨t,ht,t0,t1⟩:=win_f transhumancelaw2_within.f (fun _ _ => rfl) n 1099511627776 (by omega) (by omega)
 obtain ⟨a0,a1⟩:=tmod_bd 3 t0 (by omega)
 obtain ⟨d30,d31⟩:=tdiv_bd 3 t0 (by omega)
 obtain ⟨d40,d41⟩:=tdiv_bd 12 t0 (by omega)
 obtain ⟨d50,d51⟩:=tdiv_bd 48 t0 (by omega)
 obtain ⟨d60,d61⟩:=tdiv_bd 432 t0 (by omega)
 have w3:wrap64 (Int.tdiv t 3)=Int.tdiv t 3:=wrap_id (by omega) (by omega)
 have w4:wrap64 (Int.tdiv t 12)=Int.tdiv t 12:=wrap_id (by omega) (by omega)
 have w5:wrap64 (Int.tdiv t 48)=Int.tdiv t 48:=wrap_id (by omega) (by omega)
 have w6:wrap64 (Int.tdiv t 432)=Int.tdiv t 432:=wrap_id (by omega) (by omega)
 obtain ⟨b0,b1⟩:=tmod_bd 4 d30 (by omega)
 obtain ⟨c0,c1⟩:=tmod_bd 4 d40 (by omega)
 obtain ⟨e0,e1⟩:=tmod_bd 2 d60 (by omega)
 have w7:wrap64 (999999 - Int.tmod (Int.tdiv t 432) 2)=999999 - Int.tmod (Int.tdiv t 432) 2:=wrap_id (by omega) (by omega)
 unfold transhumancelaw2_Make.f
 rw [ht]
 simp only [Option.bind_some,w3,w4,w5,w6,w7]
 by_cases h0:Int.tmod (Int.tdiv t 48) 9=0
 ·obtain ⟨r,g1,g2⟩:=pre_j0 m (999999 - Int.tmod (Int.tdiv t 432) 2) (Int.tmod (Int.tdiv t 3) 4) (Int.tmod (Int.tdiv t 12) 4)
  exact ⟨_,_,_,r,Ev.pos h0 g1,⟨by omega,by omega⟩,⟨by omega,by omega⟩,⟨by omega,by omega⟩,g2⟩
 by_cases h1:Int.tmod (Int.tdiv t 48) 9=1
 ·obtain ⟨r,g1,g2⟩:=pre_j0 m (Int.tmod t 3) (999999 - Int.tmod (Int.tdiv t 432) 2) (Int.tmod (Int.tdiv t 12) 4)
  exact ⟨_,_,_,r,Ev.neg h0 (Ev.pos h1 g1),⟨by omega,by omega⟩,⟨by omega,by omega⟩,⟨by omega,by omega⟩,g2⟩
 by_cases h2:Int.tmod (Int.tdiv t 48) 9=2
 ·obtain ⟨r,g1,g2⟩:=pre_j0 m (Int.tmod t 3) (Int.tmod (Int.tdiv t 3) 4) (999999 - Int.tmod (Int.tdiv t 432) 2)
  exact ⟨_,_,_,r,Ev.neg h0 (Ev.neg h1 (Ev.pos h2 g1)),⟨by omega,by omega⟩,⟨by omega,by omega⟩,⟨by omega,by omega⟩,g2⟩
 ·obtain ⟨r,g1,g2⟩:=pre_j0 m (Int.tmod t 3) (Int.tmod (Int.tdiv t 3) 4) (Int.tmod (Int.tdiv t 12) 4)
  exact ⟨_,_,_,r,Ev.neg h0 (Ev.neg h1 (Ev.neg h2 g1)),⟨by omega,by omega⟩,⟨by omega,by omega⟩,⟨by omega,by omega⟩,g2⟩
def revSigns:ByteArray:=(⟨#[48,49,50,51,52,53,54,55,56,57,97,98,99,100,101,102,48,49,50,51,52,53,54,55]⟩:ByteArray)
theorem rev_ok:∀ j:Fin 12,Plainy (revSigns.extract 0 (12+j.val))∧(revSigns.extract 0 (12+j.val)).data.toList≠[]∧(revSigns.extract 0 (12+j.val)).size≤24:=by unfold Plainy;decide +kernel
theorem plainy_nil:Plainy ⟨#[]⟩:=rfl
def lim (k:Nat):Nat:=if k=1 then 100 else if k=2 then 24 else if k=3 then 20 else 40
def Fine (x:Lk):Prop:=OkLk x∧∀ k,k<5→(x.get k).size≤lim k
theorem Fine.le {x:Lk} (h:Fine x) (k:Nat) (hk:k<5):(x.get k).size≤100:=by
 have:=h.2 k hk
 unfold lim at this
 split at this
 ·exact this
 ·split at this
  ·omega
  ·split at this <;> omega
theorem fine_mk {r v e i o:ByteArray} (h1:rightL r.data.toList=true) (h1z:r.size≤40) (h2:Plainy v) (h2z:v.size≤100) (h3:Plainy e) (h3z:e.size≤24) (h4:Plainy i) (h4z:i.size≤20)
  (h5:o.data.toList≠[]→rightL o.data.toList=true) (h5z:o.size≤40) (h6:e.data.toList≠[]∨v.data.toList≠[]):Fine ⟨r,v,e,i,o⟩:=by
 have ho:Plainy o:=by
  by_cases h:o.data.toList=[]
  ·unfold Plainy;rw [h];rfl
  ·exact right_plain (h5 h)
 refine ⟨⟨h1,h6,h5,?_⟩,?_⟩
 ·intro k hk
  rcases k with _|_|_|_|_|k
  ·exact right_plain h1
  ·exact h2
  ·exact h3
  ·exact h4
  ·exact ho
  ·omega
 ·intro k hk
  rcases k with _|_|_|_|_|k
  ·exact h1z
  ·exact h2z
  ·exact h3z
  ·exact h4z
  ·exact h5z
  ·omega
theorem lock_j1 (m:Int) (s:List Int) (x:Int) (r v e:ByteArray) (h1:rightL r.data.toList=true) (h1z:r.size≤40) (h2:Plainy v) (h2z:v.size≤100) (h3:Plainy e) (h3z:e.size≤24) (h6:e.data.toList≠[]∨v.data.toList≠[]) :
  ∃ y:Lk,Ev (fun k => transhumancelaw5_Lock.j1 k m s x r v e ⟨#[]⟩ ⟨#[]⟩) (y.root,y.version,y.rev,y.within,y.source)∧Fine y:=by
 obtain ⟨q,q1,q2,q3⟩:=plain_make s 20 (by omega)
 obtain ⟨o,o1,o2,o3⟩:=path_make m
 by_cases c1:Int.tmod (wrap64 (Int.tdiv x 36)) 3=0 <;> by_cases c2:Int.tmod (wrap64 (Int.tdiv x 108)) 4=0
 ·exact ⟨⟨r,v,e,q,o⟩,Ev.step (fun _ => transhumancelaw5_Lock.j1.eq_2 ..) (Ev.pos c1 (Ev.bind q1 (Ev.pos c2 (Ev.bind o1 (Ev.now _))))),fine_mk h1 h1z h2 h2z h3 h3z q2 (by omega) (fun _ => o2) o3 h6⟩
 ·exact ⟨⟨r,v,e,q,⟨#[]⟩⟩,Ev.step (fun _ => transhumancelaw5_Lock.j1.eq_2 ..) (Ev.pos c1 (Ev.bind q1 (Ev.neg c2 (Ev.now _)))),fine_mk h1 h1z h2 h2z h3 h3z q2 (by omega) (fun h => absurd rfl h) (by decide) h6⟩
 ·exact ⟨⟨r,v,e,⟨#[]⟩,o⟩,Ev.step (fun _ => transhumancelaw5_Lock.j1.eq_2 ..) (Ev.neg c1 (Ev.pos c2 (Ev.bind o1 (Ev.now _)))),fine_mk h1 h1z h2 h2z h3 h3z plainy_nil (by decide) (fun _ => o2) o3 h6⟩
 ·exact ⟨⟨r,v,e,⟨#[]⟩,⟨#[]⟩⟩,Ev.step (fun _ => transhumancelaw5_Lock.j1.eq_2 ..) (Ev.neg c1 (Ev.neg c2 (Ev.now _))),fine_mk h1 h1z h2 h2z h3 h3z plainy_nil (by decide) (fun h => absurd rfl h) (by decide) h6⟩
theorem lock_j0 (m:Int) (s:List Int) (x:Int) (r v:ByteArray) (hx:0≤x) (hx2:x≤1099511627776) (h1:rightL r.data.toList=true) (h1z:r.size≤40) (h2:Plainy v) (h2z:v.size≤100) (h6:Int.tmod x 3=1→v.data.toList≠[]) :
  ∃ y:Lk,Ev (fun k => transhumancelaw5_Lock.j0 k m s x r v ⟨#[]⟩ ⟨#[]⟩ ⟨#[]⟩) (y.root,y.version,y.rev,y.within,y.source)∧Fine y:=by
 by_cases c:Int.tmod x 3=1
 ·obtain ⟨y,y1,y2⟩:=lock_j1 m s x r v ⟨#[]⟩ h1 h1z h2 h2z plainy_nil (by decide) (.inr (h6 c))
  exact ⟨y,Ev.step (fun _ => transhumancelaw5_Lock.j0.eq_2 ..) (Ev.pos c y1),y2⟩
 ·obtain ⟨d0,d1⟩:=tdiv_bd 3 hx (by omega)
  have w:wrap64 (Int.tdiv x 3)=Int.tdiv x 3:=wrap_id (by omega) (by omega)
  obtain ⟨m0,m1⟩:=tmod_bd 12 d0 (by omega)
  have w2:wrap64 (12+Int.tmod (Int.tdiv x 3) 12)=12+Int.tmod (Int.tdiv x 3) 12:=wrap_id (by omega) (by omega)
  obtain ⟨g1,g2,g3⟩:=rev_ok ⟨(Int.tmod (Int.tdiv x 3) 12).toNat,by omega⟩
  have e:(12+Int.tmod (Int.tdiv x 3) 12).toNat=12+(Int.tmod (Int.tdiv x 3) 12).toNat:=by omega
  obtain ⟨y,y1,y2⟩:=lock_j1 m s x r v _ h1 h1z h2 h2z g1 (by omega) (.inl g2)
  refine ⟨y,Ev.step (fun _ => transhumancelaw5_Lock.j0.eq_2 ..) (Ev.neg c ?_),y2⟩
  rw [w,w2,e]
  exact Ev.pos (by omega) (Ev.pos (by omega) y1)
theorem lock_make (n m:Int) (s:List Int):∃ y:Lk,Ev (fun k => transhumancelaw5_Lock.f k n m s) (y.root,y.version,y.rev,y.within,y.source)∧Fine y:=by
 obtain ⟨t,ht,t0,t1⟩:=win_f transhumancelaw5_within.f (fun _ _ => rfl) n 1099511627776 (by omega) (by omega)
 obtain ⟨r,r1,r2,r3⟩:=path_make t
 obtain ⟨m0,m1⟩:=tmod_bd 3 t0 (by omega)
 unfold transhumancelaw5_Lock.f
 rw [ht]
 simp only [Option.bind_some]
 by_cases c:Int.tmod t 3 > 0
 ·obtain ⟨a,b,cc,p,v1,v2,v3,v4,v5,v6⟩:=ver_make m n
  obtain ⟨q,q1,q2,q3,q4⟩:=ver_text a b cc p v2 v3 v4 v5 (by omega)
  obtain ⟨y,y1,y2⟩:=lock_j0 m s t r q t0 (by omega) r2 r3 q2 q4 (fun _ => q3)
  exact ⟨y,Ev.bind r1 (Ev.pos c (Ev.bind v1 (Ev.bind q1 y1))),y2⟩
 ·obtain ⟨y,y1,y2⟩:=lock_j0 m s t r ⟨#[]⟩ t0 (by omega) r2 r3 plainy_nil (by decide) (fun h => by omega)
  exact ⟨y,Ev.bind r1 (Ev.neg c y1),y2⟩
structure Fines (l:List Lk):Prop where
 each:∀ x ∈ l,Fine x
 apart:(l.map fun x => x.root.data.toList).Nodup
theorem Fines.ok {l:List Lk} (h:Fines l) (hl:l.length≤40):OkLks l:=⟨fun x hx => (h.each x hx).1,h.apart,hl⟩
theorem there_l1 (ns s:List Int) (most:Int) (l:List Lk) (j:Int) (x:Lk) (hl:l.length≤1000) (R:List S43):∀ (d i:Nat) (there:Bool),i+d=l.length →
  (there || (l.drop i).any (fun y => y.root.toList == x.root.toList))=true→Ev (fun k => transhumancelaw5_Locks.l0 k ns s most (outs l) (wrap64 (j+1))) R →
  Ev (fun k => transhumancelaw5_Locks.l1 k ns s most (outs l) j there i x.root x.version x.rev x.within x.source) R
 | 0,i,there,hd,ht,h => by
  rw [List.drop_eq_nil_of_le (by omega)] at ht
  simp only [List.any_nil,Bool.or_false] at ht
  exact Ev.step (fun _ => transhumancelaw5_Locks.l1.eq_2 ..) (Ev.neg (by simp only [outs,List.length_map];omega) (Ev.pos ht h))
 | d+1,i,there,hd,ht,h => by
  have hi:i<l.length:=by omega
  have hw:wrap64 ((i:Int)+1)=((i+1:Nat):Int):=wrap_id (by omega) (by omega)
  rw [List.drop_eq_getElem_cons hi,List.any_cons] at ht
  refine Ev.step (fun _ => transhumancelaw5_Locks.l1.eq_2 ..) (Ev.pos (by simp only [outs,List.length_map];omega) ?_)
  rw [hw]
  cases there with
  | true => exact Ev.pos rfl (there_l1 ns s most l j x hl R d (i+1) true (by omega) (by simp) h)
  | false =>
   refine Ev.neg (by simp) (Ev.pos (by omega) ?_)
   rw [rd_out l i hi]
   exact there_l1 ns s most l j x hl R d (i+1) _ (by omega) (by simpa [Lk.out] using ht) h
theorem new_l1 (ns s:List Int) (most:Int) (l:List Lk) (j:Int) (x:Lk) (hl:l.length≤1000) (R:List S43):∀ (d i:Nat),i+d=l.length →
  ((l.drop i).any (fun y => y.root.toList == x.root.toList))=false→Ev (fun k => transhumancelaw5_Locks.l0 k ns s most (outs (l++[x])) (wrap64 (j+1))) R →
  Ev (fun k => transhumancelaw5_Locks.l1 k ns s most (outs l) j false i x.root x.version x.rev x.within x.source) R
 | 0,i,hd,ht,h => by
  refine Ev.step (fun _ => transhumancelaw5_Locks.l1.eq_2 ..) (Ev.neg (by simp only [outs,List.length_map];omega) (Ev.neg (by simp) (Ev.pos (by simp only [outs,List.length_map];omega) ?_)))
  have:outs (l++[x])=outs l++[(⟨x.root,x.version,x.rev,x.within,x.source⟩:S43)]:=by simp [outs,Lk.out]
  rw [← this]
  exact h
 | d+1,i,hd,ht,h => by
  have hi:i<l.length:=by omega
  have hw:wrap64 ((i:Int)+1)=((i+1:Nat):Int):=wrap_id (by omega) (by omega)
  rw [List.drop_eq_getElem_cons hi,List.any_cons,Bool.or_eq_false_iff] at ht
  refine Ev.step (fun _ => transhumancelaw5_Locks.l1.eq_2 ..) (Ev.pos (by simp only [outs,List.length_map];omega) (Ev.neg (by simp) (Ev.pos (by omega) ?_)))
  rw [hw,rd_out l i hi]
  have:(((l[i]).out.f0).toList == x.root.toList)=false:=ht.1
  rw [this]
  exact new_l1 ns s most l j x hl R d (i+1) (by omega) ht.2 h
theorem locks_l0 (ns s:List Int) (most:Nat) (hm:most≤100):∀ (d i:Nat) (l:List Lk),i+d=most→l.length≤i→Fines l →
  ∃ r:List Lk,Ev (fun k => transhumancelaw5_Locks.l0 k ns s most (outs l) i) (outs r)∧Fines r∧r.length≤most
 | 0,i,l,hd,hl,hf => by
  refine ⟨l,?_,hf,by omega⟩
  refine Ev.step (fun _ => transhumancelaw5_Locks.l0.eq_2 ..) ?_
  have fin:Ev (fun k => transhumancelaw5_Locks.j1 k ns s most (outs l) i false) (outs l):=Ev.step (fun _ => transhumancelaw5_Locks.j1.eq_2 ..) (Ev.neg (by simp) (Ev.now _))
  by_cases c:(i:Int)<(ns.length:Int)
  ·refine Ev.pos c ?_
   rw [decide_eq_false (by omega)]
   exact fin
  ·exact Ev.neg c fin
 | d+1,i,l,hd,hl,hf => by
  have fin:Ev (fun k => transhumancelaw5_Locks.j1 k ns s most (outs l) i false) (outs l):=Ev.step (fun _ => transhumancelaw5_Locks.j1.eq_2 ..) (Ev.neg (by simp) (Ev.now _))
  by_cases c:(i:Int)<(ns.length:Int)
  ·obtain ⟨y,y1,y2⟩:=lock_make (rd ns i) (wrap64 (Int.tdiv (rd ns i) 7)) s
   have hw:wrap64 ((i:Int)+1)=((i+1:Nat):Int):=wrap_id (by omega) (by omega)
   cases ha:l.any (fun z => z.root.toList == y.root.toList) with
   | true =>
    obtain ⟨r,r1,r2,r3⟩:=locks_l0 ns s most hm d (i+1) l (by omega) (by omega) hf
    refine ⟨r,Ev.step (fun _ => transhumancelaw5_Locks.l0.eq_2 ..) (Ev.pos c ?_),r2,r3⟩
    rw [decide_eq_true (by omega)]
    refine Ev.step (fun _ => transhumancelaw5_Locks.j1.eq_2 ..) (Ev.pos rfl (Ev.pos (by omega) (Ev.pos c (Ev.bind y1 ?_))))
    exact there_l1 ns s most l i y (by omega) _ l.length 0 false (by omega) (by simpa using ha) (by rw [hw];exact r1)
   | false =>
    have hf':Fines (l++[y]):=by
     refine ⟨?_,?_⟩
     ·intro x hx
      rcases List.mem_append.1 hx with h|h
      ·exact hf.each x h
      ·simp at h;subst h;exact y2
     ·rw [List.map_append,List.nodup_append]
      refine ⟨hf.apart,by simp,?_⟩
      intro a ha2 b hb e
      simp at hb
      subst hb
      subst e
      obtain ⟨z,hz,he⟩:=List.mem_map.1 ha2
      have:=List.any_eq_false.1 ha z hz
      simp only [Lib.toList_data,beq_iff_eq] at this
      exact this he
    obtain ⟨r,r1,r2,r3⟩:=locks_l0 ns s most hm d (i+1) (l++[y]) (by omega) (by simp;omega) hf'
    refine ⟨r,Ev.step (fun _ => transhumancelaw5_Locks.l0.eq_2 ..) (Ev.pos c ?_),r2,r3⟩
    rw [decide_eq_true (by omega)]
    refine Ev.step (fun _ => transhumancelaw5_Locks.j1.eq_2 ..) (Ev.pos rfl (Ev.pos (by omega) (Ev.pos c (Ev.bind y1 ?_))))
    exact new_l1 ns s most l i y (by omega) _ l.length 0 (by omega) (by simpa using ha) (by rw [hw];exact r1)
  ·exact ⟨l,Ev.step (fun _ => transhumancelaw5_Locks.l0.eq_2 ..) (Ev.neg c fin),hf,by omega⟩
theorem locks_make (ns s:List Int) (most:Nat) (hm:most≤100):∃ r:List Lk,Ev (fun k => transhumancelaw5_Locks.f k ns s most) (outs r)∧Fines r∧r.length≤most :=
 locks_l0 ns s most hm most 0 [] (by omega) (by simp) ⟨by simp,by simp⟩
end Go.Proofs.YtjdjljgbfpkbdaaGreatDoor.Q
