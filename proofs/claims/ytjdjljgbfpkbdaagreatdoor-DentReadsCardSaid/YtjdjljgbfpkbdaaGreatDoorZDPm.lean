import Derived.Test.YtjdjljgbfpkbdaaGreatDoorZEv
import Derived.Test.YtjdjljgbfpkbdaaGreatDoorZCutg
import Derived.Test.YtjdjljgbfpkbdaaGreatDoorZQ4g
set_option linter.unusedVariables false
set_option linter.unusedSimpArgs false
namespace Go.Proofs.YtjdjljgbfpkbdaaGreatDoor.Q
open Go.RowKit Go.Proofs.YtjdjljgbfpkbdaaGreatDoorW.PrintWords Go.Proofs.YtjdjljgbfpkbdaaGreatDoorW.PrintLast Go.Proofs.YtjdjljgbfpkbdaaGreatDoorW.PrintMore
theorem data_length (s:ByteArray):s.data.toList.length=s.size:=by simp
theorem bt_get (s:ByteArray) (i:Nat) (h:i<s.size):bt s (i:Int)=(s[i].toNat:Int):=by
 simp [bt,h]
theorem byte_int {b:UInt8} {n:Nat} (hn:n<256):((b.toNat:Int)=n)↔b=UInt8.ofNat n:=by
 constructor
 ·intro h
  have:b.toNat=n:=by omega
  rw [← UInt8.toNat_inj]
  simp
  omega
 ·rintro rfl
  simp
  omega
theorem place_fold (l:List UInt8):∀ p:Nat × Nat,1≤p.2→(l.foldl (fun p c => if c=10 then (p.1+1,1) else (p.1,p.2+1)) p).1≤p.1+l.length∧(l.foldl (fun p c => if c=10 then (p.1+1,1) else (p.1,p.2+1)) p).2≤p.2+l.length:=by
 induction l with
 | nil => intro p _;simp
 | cons c l ih =>
  intro p hp
  rw [List.foldl_cons,List.length_cons]
  by_cases hc:c=10
  ·rw [if_pos hc]
   have:=ih (p.1+1,1) (by simp)
   simp only at this
   omega
  ·rw [if_neg hc]
   have:=ih (p.1,p.2+1) (by simp)
   simp only at this
   omega
theorem place_bd (l:List UInt8):(place l).1≤l.length+1∧(place l).2≤l.length+1:=by
 have:=place_fold l (1,1) (Nat.le_refl _)
 unfold place
 simp only at this
 omega
theorem place_l0 (s:ByteArray) (hs:s.size≤140737488351232) (at_:Nat) (ha:at_≤s.size):∀ (d i:Nat),i+d=at_ →
  Ev (fun k => transhumanceref1_Place.l0 k s at_ i ((place (s.data.toList.take i)).1:Int) ((place (s.data.toList.take i)).2:Int)) (((place (s.data.toList.take at_)).1:Int),((place (s.data.toList.take at_)).2:Int))
 | 0,i,hd => by
  obtain rfl:i=at_:=by omega
  by_cases h:i<s.size
  ·refine Ev.step (fun _ => transhumanceref1_Place.l0.eq_2 ..) (Ev.pos (by omega) (Ev.step (fun _ => transhumanceref1_Place.j1.eq_2 ..) (Ev.neg ?_ (Ev.now _))))
   simp
  ·exact Ev.step (fun _ => transhumanceref1_Place.l0.eq_2 ..) (Ev.neg (by omega) (Ev.step (fun _ => transhumanceref1_Place.j1.eq_2 ..) (Ev.neg (by simp) (Ev.now _))))
 | d+1,i,hd => by
  have hi:i<s.size:=by omega
  have hw:wrap64 ((i:Int)+1)=((i+1:Nat):Int):=wrap_id (by omega) (by omega)
  have ht:s.data.toList.take (i+1)=s.data.toList.take i++[s[i]]:=by
   rw [List.take_succ_eq_append_getElem (by rw [data_length];exact hi)]
   rfl
  have hb:=place_bd (s.data.toList.take i)
  have hlen:(s.data.toList.take i).length≤i:=List.length_take_le _ _
  have hr:=place_l0 s hs at_ ha d (i+1) (by omega)
  rw [ht,place_snoc] at hr
  refine Ev.step (fun _ => transhumanceref1_Place.l0.eq_2 ..) (Ev.pos (by omega) (Ev.step (fun _ => transhumanceref1_Place.j1.eq_2 ..) (Ev.pos (decide_eq_true (by omega)) (Ev.pos (by omega) (Ev.pos (by omega) ?_)))))
  rw [bt_get s i hi,hw]
  by_cases h:s[i]=10
  ·rw [if_pos h] at hr
   refine Ev.pos ((byte_int (by decide)).2 h) ?_
   rw [wrap_id (by omega) (by omega)]
   exact hr
  ·rw [if_neg h] at hr
   refine Ev.neg (fun h' => h ((byte_int (n:=10) (by decide)).1 h')) ?_
   rw [wrap_id (x:=((place (s.data.toList.take i)).2:Int)+1) (by omega) (by omega)]
   exact hr
theorem place_ev (s:ByteArray) (hs:s.size≤140737488351232) (at_:Nat) (ha:at_≤s.size) :
  Ev (fun k => transhumanceref1_Place.f k s at_) (((place (s.data.toList.take at_)).1:Int),((place (s.data.toList.take at_)).2:Int)):=by
 have:=place_l0 s hs at_ ha at_ 0 (by omega)
 exact this
end Go.Proofs.YtjdjljgbfpkbdaaGreatDoor.Q
