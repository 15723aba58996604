/- DentReads answers true for every input: plain part. -/
import Derived.Test.YtjdjljgbfpkbdaaGreatDoorZDk
import Derived.Test.YtjdjljgbfpkbdaaGreatDoorZDPyg
import Derived.Test.YtjdjljgbfpkbdaaGreatDoorZDRs
import Derived.Test.YtjdjljgbfpkbdaaGreatDoorZQ25
set_option linter.unusedVariables false
set_option linter.unusedSimpArgs false
namespace Go.Proofs.YtjdjljgbfpkbdaaGreatDoor.Pure
open Go.RowKit Go.Proofs.YtjdjljgbfpkbdaaGreatDoor.Q Go.Proofs.YtjdjljgbfpkbdaaGreatDoorW.PrintWords Go.Proofs.YtjdjljgbfpkbdaaGreatDoorW.PrintLast
theorem rd_list (l:List ByteArray) (i:Nat) (h:i<l.length):rdOf ByteArray.empty l (i:Int)=l[i]:=by
 show l.getD _ _=_
 rw [List.getD_eq_getElem?_getD,Int.toNat_natCast,List.getElem?_eq_getElem h]
 rfl
theorem reads_l0 (rows:List ByteArray) (hr:∀ x ∈ rows,x.size≤1000000) (hl:rows.length≤100):∀ (d i:Nat),i+d=rows.length→Ev (fun k => transhumancelaw7_DentReads.l0 k rows i) true
 | 0,i,hi => Ev.step (fun _ => transhumancelaw7_DentReads.l0.eq_2 ..) (Ev.neg (by omega) (Ev.now _))
 | d+1,i,hi => by
  have hlt:i<rows.length:=by omega
  have hw:wrap64 ((i:Int)+1)=((i+1:Nat):Int):=wrap_id (by omega) (by omega)
  have hz:=hr rows[i] (List.getElem_mem hlt)
  obtain ⟨l,x,y,e,hq,hle⟩:=both_read rows[i] (by omega)
  refine Ev.step (fun _ => transhumancelaw7_DentReads.l0.eq_2 ..) (Ev.pos (by omega) (Ev.pos (by omega) ?_))
  rw [rd_list rows i hlt,hw]
  refine Ev.val hq (Ev.val hq (Ev.pos rfl (Ev.neg (by simp) (Ev.bind (rows_ev l (by omega)) (Ev.pos rfl (reads_l0 rows hr hl d (i+1) (by omega)))))))
def lays:List ByteArray:=[(⟨#[10]⟩:ByteArray),(⟨#[32]⟩:ByteArray),(⟨#[35]⟩:ByteArray),(⟨#[35,32,120,10]⟩:ByteArray),(⟨#[45,32,114,111,111,116,58,32,113,10]⟩:ByteArray),(⟨#[32,32,114,111,111,116,58,32,113,10]⟩:ByteArray),(⟨#[32,32,118,101,114,115,105,111,110,58,32,118,49,46,48,46,48,10]⟩:ByteArray),(⟨#[58]⟩:ByteArray),(⟨#[34]⟩:ByteArray),(⟨#[45]⟩:ByteArray),(⟨#[32,32,119,105,116,104,105,110,58,32,34,34,10]⟩:ByteArray),(⟨#[32,32,120,58,32,121,10]⟩:ByteArray),(⟨#[9]⟩:ByteArray),(⟨#[108,111,99,107,115,58,10]⟩:ByteArray),(⟨#[32,32,115,111,117,114,99,101,58,32,34,34,10]⟩:ByteArray),(⟨#[32,32,32]⟩:ByteArray)]
theorem lays_sz:∀ j:Fin 16,(rdOf ByteArray.empty lays (j.val:Int)).size≤20:=by decide +kernel
theorem DentReads:transhumancelaw7_DentReads.Pure:=by
 intro l0 l1 a2 a3 a4 a5 a6 _ _ _ _ _ _ h2 h3 h4 h5 h6
 apply Ev.rounds
 unfold transhumancelaw7_DentReads.f
 have jt:Ev (fun k => transhumancelaw7_DentReads.j0 k l0 l1 a2 a3 a4 a5 a6 true) true:=Ev.step (fun _ => transhumancelaw7_DentReads.j0.eq_2 ..) (Ev.pos rfl (Ev.now _))
 refine Ev.val known_true (Ev.pos rfl ?_)
 by_cases c1:(l1.length:Int) > 60
 ·exact Ev.pos c1 jt
 refine Ev.neg c1 ?_
 by_cases c2:(a5.size:Int) > 30
 ·exact Ev.pos c2 jt
 refine Ev.neg c2 ?_
 by_cases c3:(a6.size:Int) > 200
 ·rw [decide_eq_true c3]
  exact jt
 rw [decide_eq_false c3]
 obtain ⟨r,r1,r2,r3⟩:=locks_make l0 l1 6 (by omega)
 have hW:=w7x_ev r (by omega) r2.each
 have hdl:(bs (wtext r)).size≤4000:=by
  rw [size_bs]
  unfold wtext
  split
  ·simp
  ·have:=doc_len r r2.each
   omega
 generalize bs (wtext r)=T at *
 have hw:wrap64 ((T.size:Int)+1)=((T.size+1:Nat):Int):=wrap_id (by omega) (by omega)
 have hk1:=within_f a4 ((T.size+1:Nat):Int) (by omega) (by omega)
 have hk2:=within_f a2 16 (by omega) (by omega)
 obtain ⟨b1,b2⟩:=win_bd a4 ((T.size+1:Nat):Int) (by omega)
 obtain ⟨j,hj⟩:=win_fin a2 16 (by omega)
 have hj':win a2 16=(j.val:Int):=hj
 have hlz:=lays_sz j
 obtain ⟨q,hq,hqz⟩:=turned_some T a2 a3 (by omega)
 refine Ev.step (fun _ => transhumancelaw7_DentReads.j0.eq_2 ..) (Ev.neg (by simp) (Ev.bind r1 (Ev.bind hW ?_)))
 rw [hw]
 refine Ev.val hk1 (Ev.val (a:=lays) rfl (Ev.val hk2 ?_))
 rw [hj']
 generalize win a4 ((T.size+1:Nat):Int)=c at *
 obtain ⟨c,rfl⟩:∃ n:Nat,c=n:=⟨c.toNat,by omega⟩
 have hll:lays.length=16:=rfl
 have e1:(T.extract 0 c).size≤4000:=by rw [ByteArray.size_extract];omega
 have e2:(T.extract c T.size).size≤4000:=by rw [ByteArray.size_extract];omega
 refine Ev.pos (by omega) (Ev.pos (by rw [hll];have:=j.isLt;omega) (Ev.val hq (Ev.pos (by omega) (Ev.pos (by omega) ?_))))
 simp only [Int.toNat_natCast]
 generalize rdOf ByteArray.empty lays (j.val:Int)=y at *
 generalize T.extract 0 c=u at *
 generalize T.extract c T.size=v at *
 have s9:(⟨#[108,111,99,107,115,58,10,45,32]⟩:ByteArray).size=9:=rfl
 have s15:(⟨#[108,111,99,107,115,58,10,45,32,114,111,111,116,58,32]⟩:ByteArray).size=15:=rfl
 refine Ev.pos (by omega) (Ev.pos (by rw [ByteArray.size_append];omega) (Ev.pos (by omega) (Ev.pos (by rw [ByteArray.size_append];omega) (Ev.pos (by omega) (Ev.pos (by omega) (Ev.pos (by omega) (Ev.pos (by omega) (Ev.pos (by omega) ?_))))))))
 refine reads_l0 _ ?_ (by simp) 10 0 rfl
 intro x hx
 simp only [List.mem_cons,List.not_mem_nil,or_false] at hx
 rcases hx with rfl|rfl|rfl|rfl|rfl|rfl|rfl|rfl|rfl|rfl
 all_goals (try simp only [ByteArray.size_append,s9,s15])
 all_goals omega
end Go.Proofs.YtjdjljgbfpkbdaaGreatDoor.Pure
