import Derived.Test.YtjdjljgbfpkbdaaGreatDoorZDLocks
import Derived.Test.YtjdjljgbfpkbdaaGreatDoorZDPm
import Derived.Test.YtjdjljgbfpkbdaaGreatDoorZCutg
import Derived.Test.YtjdjljgbfpkbdaaGreatDoorZQ21
import Derived.Test.YtjdjljgbfpkbdaaGreatDoorZQ22
import Derived.Test.YtjdjljgbfpkbdaaGreatDoorZQ7g
set_option linter.unusedVariables false
set_option linter.unusedSimpArgs false
namespace Go.Proofs.YtjdjljgbfpkbdaaGreatDoor.Q
open Go.RowKit Go.Proofs.YtjdjljgbfpkbdaaGreatDoorW.PrintWords Go.Proofs.YtjdjljgbfpkbdaaGreatDoorW.PrintLast Go.Proofs.YtjdjljgbfpkbdaaGreatDoorW.PrintMore
theorem parts_plain {c:UInt8}:∀ {m:List UInt8},(∀ x ∈ m,x≠c)→parts c m=[m]
 | [],_ => rfl
 | x :: m,h => by
  rw [parts_cons,if_neg (h x List.mem_cons_self),parts_plain (fun y hy => h y (List.mem_cons_of_mem _ hy))]
def Pathy (s:ByteArray):Prop:=(parts 47 s.data.toList).all okWord=true∧1≤s.size
theorem okWord_47 {w:List UInt8} (h:okWord w=true):∀ x ∈ w,x≠47:=by
 intro x hx e
 subst e
 simp only [okWord,Bool.and_eq_true,List.all_eq_true] at h
 have:=h.2 47 hx
 revert this
 decide
theorem okWord_ne {w:List UInt8} (h:okWord w=true):w≠[]:=by
 rintro rfl
 simp [okWord] at h
theorem Pathy.one {w:ByteArray} (hw:okWord w.data.toList=true):Pathy w:=by
 refine ⟨?_,?_⟩
 ·rw [parts_plain (okWord_47 hw)]
  simp [hw]
 ·have:=okWord_ne hw
  have h2:=List.length_pos_iff.2 this
  rw [data_length] at h2
  omega
def Plainy (s:ByteArray):Prop:=s.data.toList.all plainB=true
theorem Plainy.append {s t:ByteArray} (h:Plainy s) (k:Plainy t):Plainy (s++t):=by
 unfold Plainy at *
 rw [ByteArray.data_append,Array.toList_append,List.all_append,h,k]
 rfl
def Lk.get (x:Lk) (k:Nat):ByteArray :=
 match k with
 | 0 => x.root
 | 1 => x.version
 | 2 => x.rev
 | 3 => x.within
 | _ => x.source
structure OkLk (x:Lk):Prop where
 root:rightL x.root.data.toList=true
 some:x.rev.data.toList≠[]∨x.version.data.toList≠[]
 source:x.source.data.toList≠[]→rightL x.source.data.toList=true
 plain:∀ k,k<5→(x.get k).data.toList.all plainB=true
structure OkLks (l:List Lk):Prop where
 each:∀ x ∈ l,OkLk x
 apart:(l.map fun x => x.root.data.toList).Nodup
 few:l.length≤40
theorem extract_one (s:ByteArray) (i:Nat) (h:i<s.size):s.extract i (i+1)=bs [s[i]]:=by
 apply ext_bs
 rw [data_bs,ByteArray.data_extract]
 simp only [Array.toList_extract,List.extract_eq_take_drop]
 rw [drop_at s i h]
 simp
theorem bs_append (l m:List UInt8):bs l++bs m=bs (l++m):=ext_bs (by rw [ByteArray.data_append];simp [bs])
theorem quote_l0 (s:ByteArray) (hs:s.size≤1000000):∀ (d i:Nat) (acc:List UInt8),i+d=s.size→acc.length≤2 * i+1 →
  Ev (fun k => transhumanceref1_Quote.l0 k s (bs acc) i) (bs (acc++((s.data.toList.drop i).flatMap R.quoteB++[34])))
 | 0,i,acc,hd,ha => by
  refine Ev.step (fun _ => transhumanceref1_Quote.l0.eq_2 ..) (Ev.neg (by omega) (Ev.pos (by rw [size_bs];omega) (Ev.ret ?_)))
  rw [List.drop_eq_nil_of_le (by rw [data_length];omega)]
  exact congrArg some (bs_append acc [34])
 | d+1,i,acc,hd,ha => by
  have hi:i<s.size:=by omega
  have hw:wrap64 ((i:Int)+1)=((i+1:Nat):Int):=wrap_id (by omega) (by omega)
  rw [drop_at s i hi,List.flatMap_cons]
  refine Ev.step (fun _ => transhumanceref1_Quote.l0.eq_2 ..) (Ev.pos (by omega) (Ev.pos (by omega) ?_))
  rw [hw,bt_get s i hi]
  have step:∀ q:List UInt8,R.quoteB s[i]=q→q.length≤2→Ev (fun k => transhumanceref1_Quote.l0 k s (bs acc++bs q) ((i+1:Nat):Int)) (bs (acc++(R.quoteB s[i]++(s.data.toList.drop (i+1)).flatMap R.quoteB++[34]))):=by
   intro q hq hl
   have:=quote_l0 s hs d (i+1) (acc++q) (by omega) (by rw [List.length_append];omega)
   rw [bs_append,hq]
   simpa [List.append_assoc] using this
  by_cases h0:s[i]=34
  ·exact Ev.pos ((byte_int (by decide)).2 h0) (Ev.pos (by rw [size_bs];omega) (step [92,34] (by rw [h0];rfl) (by decide)))
  refine Ev.neg (fun h => h0 ((byte_int (n:=34) (by decide)).1 h)) ?_
  by_cases h1:s[i]=92
  ·exact Ev.pos ((byte_int (by decide)).2 h1) (Ev.pos (by rw [size_bs];omega) (step [92,92] (by rw [h1];rfl) (by decide)))
  refine Ev.neg (fun h => h1 ((byte_int (n:=92) (by decide)).1 h)) ?_
  by_cases h2:s[i]=10
  ·exact Ev.pos ((byte_int (by decide)).2 h2) (Ev.pos (by rw [size_bs];omega) (step [92,110] (by rw [h2];rfl) (by decide)))
  refine Ev.neg (fun h => h2 ((byte_int (n:=10) (by decide)).1 h)) ?_
  by_cases h3:s[i]=9
  ·exact Ev.pos ((byte_int (by decide)).2 h3) (Ev.pos (by rw [size_bs];omega) (step [92,116] (by rw [h3];rfl) (by decide)))
  refine Ev.neg (fun h => h3 ((byte_int (n:=9) (by decide)).1 h)) ?_
  refine Ev.pos (by omega) (Ev.pos (by omega) ?_)
  rw [show (i:Int).toNat=i from by omega,show (((i+1:Nat):Int)).toNat=i+1 from by omega,extract_one s i hi]
  refine Ev.pos (by rw [size_bs,size_bs];simp only [List.length_cons,List.length_nil];omega) (step [s[i]] ?_ (by simp))
  unfold R.quoteB
  rw [if_neg h0,if_neg h1,if_neg h2,if_neg h3]
theorem quote_ev (s:ByteArray) (hs:s.size≤1000000):Ev (fun k => transhumanceref1_Quote.f k s) (bs (R.quoteL s.data.toList)):=by
 have:=quote_l0 s hs s.size 0 [34] (by omega) (by simp)
 rw [List.drop_zero] at this
 exact this
def outs (l:List Lk):List S43:=l.map Lk.out
theorem rd_out (l:List Lk) (j:Nat) (h:j<l.length):rd_T43 (outs l) (j:Int)=(l[j]).out:=by
 simp [rd_T43,outs,List.getD,List.getElem?_eq_getElem h]
theorem strOf_list (l:List UInt8):strOfNums (R.nats l)=bs l:=R.strOf_nats l
def lim (k:Nat):Nat:=if k=1 then 100 else if k=2 then 24 else if k=3 then 20 else 40
def Fine (x:Lk):Prop:=OkLk x∧∀ k,k<5→(x.get k).size≤lim k
theorem Fine.le {x:Lk} (h:Fine x) (k:Nat) (hk:k<5):(x.get k).size≤100:=by
 have:=h.2 k hk
 unfold lim at this
 split at this
 ·exact this
 ·split at this
  ·omega
  ·split at this <;> omega
structure Fines (l:List Lk):Prop where
 each:∀ x ∈ l,Fine x
 apart:(l.map fun x => x.root.data.toList).Nodup
theorem Fines.ok {l:List Lk} (h:Fines l) (hl:l.length≤40):OkLks l:=⟨fun x hx => (h.each x hx).1,h.apart,hl⟩
end Go.Proofs.YtjdjljgbfpkbdaaGreatDoor.Q
