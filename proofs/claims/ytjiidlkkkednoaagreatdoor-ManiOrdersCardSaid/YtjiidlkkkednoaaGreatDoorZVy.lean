import Derived.Test.YtjiidlkkkednoaaGreatDoorZEvg
import Derived.Test.YtjiidlkkkednoaaGreatDoorZVrg
import Derived.Test.YtjiidlkkkednoaaGreatDoorZQ11g
import Derived.Test.YtjiidlkkkednoaaGreatDoorZMpmg
set_option linter.unusedVariables false
set_option linter.unusedSimpArgs false
namespace Go.Proofs.YtjiidlkkkednoaaGreatDoor.Q
open Go.RowKit Go.Proofs.YtjiidlkkkednoaaGreatDoorW.PrintWords Go.Proofs.YtjiidlkkkednoaaGreatDoorW.PrintLast Go.Proofs.YtjiidlkkkednoaaGreatDoorW.PrintMore
theorem rsize_list (s:ByteArray):s.data.toList.length=s.size:=rfl
theorem rdrop_seg (s:ByteArray) (a i:Nat) (ha:a≤i) (hi:i<s.size):s.data.toList.drop a=(s.data.toList.drop a).take (i - a)++s[i] :: s.data.toList.drop (i+1):=by
 have h:=drop_byte s i hi
 rw [← h]
 have:s.data.toList.drop i=(s.data.toList.drop a).drop (i - a):=by rw [List.drop_drop];congr 1;omega
 rw [this,List.take_append_drop]
theorem rseg_extract (s:ByteArray) (a i:Nat):s.extract a i=bs ((s.data.toList.drop a).take (i - a)):=by
 apply ext_bs
 rw [data_bs,ByteArray.data_extract,Array.toList_extract,List.extract_eq_take_drop]
theorem rseg_succ (s:ByteArray) (a i:Nat) (ha:a≤i) (hi:i<s.size) (h:∀ x ∈ (s.data.toList.drop a).take (i - a),x≠46) (hb:s[i]≠46):∀ x ∈ (s.data.toList.drop a).take (i+1 - a),x≠46:=by
 have e:(s.data.toList.drop a).take (i+1 - a)=(s.data.toList.drop a).take (i - a)++[s[i]]:=by
  conv => lhs;rw [rdrop_seg s a i ha hi]
  have hl:((s.data.toList.drop a).take (i - a)).length=i - a:=by rw [List.length_take,List.length_drop,rsize_list];omega
  rw [List.take_append,hl,List.take_of_length_le (by omega),show i+1 - a - (i - a)=1 from by omega]
  rfl
 rw [e]
 intro x hx
 rcases List.mem_append.1 hx with hx|hx
 ·exact h x hx
 ·rw [List.mem_singleton.1 hx]
  exact hb
theorem rwords_l0 (s:ByteArray) (hs:s.size≤1000000):∀ (d i a:Nat) (acc:List (List UInt8)),s.size+1=i+d→1≤d→a≤i→acc.length≤i→(∀ x ∈ (s.data.toList.drop a).take (i - a),x≠46) →
  Ev (fun k => transhumanceref2_words.l0 k s (acc.map bs) (a:Int) (i:Int)) ((acc++parts 46 (s.data.toList.drop a)).map bs)
 | 0,i,a,acc,hd,h1,ha,hacc,hseg => by omega
 | d+1,i,a,acc,hd,h1,ha,hacc,hseg => by
  have hw:wrap64 ((i:Int)+1)=((i+1:Nat):Int):=wrap_id (by omega) (by omega)
  have hadd:acc.map bs++[s.extract a i]=(acc++[(s.data.toList.drop a).take (i - a)]).map bs:=by rw [rseg_extract s a i];simp
  refine Ev.step (fun _ => transhumanceref2_words.l0.eq_2 ..) (Ev.pos (by omega) ?_)
  rw [hw]
  by_cases he:i=s.size
  ·refine Ev.pos (by omega) (Ev.pos (by omega) (Ev.pos (by omega) (Ev.pos (by rw [List.length_map];omega) ?_)))
   rw [show ((a:Int)).toNat=a from by omega,show ((i:Int)).toNat=i from by omega,hadd]
   refine Ev.step (fun _ => transhumanceref2_words.l0.eq_2 ..) (Ev.neg (by omega) (Ev.ret ?_))
   have hl:(s.data.toList.drop a).take (i - a)=s.data.toList.drop a:=List.take_of_length_le (by rw [List.length_drop,rsize_list];omega)
   rw [hl] at hseg ⊢
   rw [parts_free 46 _ hseg]
  ·have hi:i<s.size:=by omega
   refine Ev.neg (by omega) (Ev.pos (by omega) (Ev.pos (by omega) ?_))
   rw [bt_int s i hi]
   by_cases hb:s[i]=46
   ·refine Ev.pos (by rw [hb];rfl) (Ev.pos (by omega) (Ev.pos (by omega) (Ev.pos (by rw [List.length_map];omega) ?_)))
    rw [show ((a:Int)).toNat=a from by omega,show ((i:Int)).toNat=i from by omega,hadd]
    have ih:=rwords_l0 s hs d (i+1) (i+1) (acc++[(s.data.toList.drop a).take (i - a)]) (by omega) (by omega) (by omega) (by simp;omega) (by simp)
    have e:=rdrop_seg s a i ha hi
    rw [hb] at e
    have hp:=parts_app 46 _ (s.data.toList.drop (i+1)) hseg
    rw [← e] at hp
    rw [hp]
    simpa using ih
   ·refine Ev.neg (fun h => hb (UInt8.toNat_inj.mp (by show s[i].toNat=46;omega))) ?_
    exact rwords_l0 s hs d (i+1) a acc (by omega) (by omega) (by omega) (by omega) (rseg_succ s a i ha hi hseg hb)
theorem rwords_ev (s:ByteArray) (hs:s.size≤1000000):Ev (fun k => transhumanceref2_words.f k s) ((parts 46 s.data.toList).map bs):=by
 have:=rwords_l0 s hs (s.size+1) 0 0 [] (by omega) (by omega) (by omega) (by simp) (by simp)
 rw [List.drop_zero] at this
 exact this
end Go.Proofs.YtjiidlkkkednoaaGreatDoor.Q
