/- DentValues answers true for every input: plain part. -/
import Derived.Test.YtjdjljgbfpkbdaaGreatDoorZDk
import Derived.Test.YtjdjljgbfpkbdaaGreatDoorZDPyg
import Derived.Test.YtjdjljgbfpkbdaaGreatDoorZDRs
import Derived.Test.YtjdjljgbfpkbdaaGreatDoorZQ26
set_option linter.unusedVariables false
set_option linter.unusedSimpArgs false
namespace Go.Proofs.YtjdjljgbfpkbdaaGreatDoor.Pure
open Go.RowKit Go.Proofs.YtjdjljgbfpkbdaaGreatDoor.Q Go.Proofs.YtjdjljgbfpkbdaaGreatDoorW.PrintWords Go.Proofs.YtjdjljgbfpkbdaaGreatDoorW.PrintLast
theorem nats_of (l:List Int) (h:∀ x ∈ l,(Lit.int .u8 x).wf=true):∃ m:List UInt8,l=R.nats m:=by
 refine ⟨l.map fun x => UInt8.ofNat x.toNat,?_⟩
 unfold R.nats
 rw [List.map_map]
 conv => lhs;rw [← List.map_id l]
 refine List.map_congr_left fun x hx => ?_
 have:=h x hx
 have hwf:(decide (IntKind.u8.min≤x) && decide (x≤IntKind.u8.max))=true:=this
 rw [Bool.and_eq_true,decide_eq_true_eq,decide_eq_true_eq] at hwf
 have h1':0≤x:=hwf.1
 have h2':x<256:=by
  have:x≤255:=hwf.2
  omega
 show x=((UInt8.ofNat x.toNat).toNat:Int)
 have e:(UInt8.ofNat x.toNat).toNat=x.toNat % 256:=rfl
 rw [e]
 omega
theorem rd_nats (m:List UInt8) (i:Nat) (h:i<m.length):rd (R.nats m) (i:Int)=(m[i].toNat:Int):=by
 unfold rd R.nats
 rw [List.getD_eq_getElem?_getD,Int.toNat_natCast,List.getElem?_map,List.getElem?_eq_getElem h]
 rfl
def aheadV:ByteArray:=(⟨#[108,111,99,107,115,58,10,45,32,114,111,111,116,58,32,97,10,32,32,114,101,118,105,115,105,111,110,58,32,49,10,32,32,119,105,116,104,105,110,58,32]⟩:ByteArray)
def valBlk (v:List UInt8):List Fl:=[⟨0,[97],[97]⟩,⟨2,[49],[49]⟩,⟨3,R.quoteL v,v⟩]
theorem valBlk_text (v:List UInt8):blocksDoc [valBlk v]=aheadV.data.toList++(R.quoteL v++[10]):=by
 unfold blocksDoc valBlk blocksText
 simp only [List.flatMap_cons,List.flatMap_nil,List.append_nil,blockLines,nextLines,List.map_cons,List.map_nil,List.flatten_cons,List.flatten_nil]
 have e0:lineOf true 0 [97]=[45,32,114,111,111,116,58,32,97]:=by decide +kernel
 have e1:lineOf false 2 [49]=[32,32,114,101,118,105,115,105,111,110,58,32,49]:=by decide +kernel
 have e2:lineOf false 3 (R.quoteL v)=[32,32,119,105,116,104,105,110,58,32]++R.quoteL v:=by
  unfold lineOf
  have:(nm 3).data.toList=[119,105,116,104,105,110]:=by decide +kernel
  rw [this]
  rfl
 have e3:locksWordL=[108,111,99,107,115,58]:=rfl
 have e4:aheadV.data.toList=[108,111,99,107,115,58,10,45,32,114,111,111,116,58,32,97,10,32,32,114,101,118,105,115,105,111,110,58,32,49,10,32,32,119,105,116,104,105,110,58,32]:=rfl
 rw [e0,e1,e2,e3,e4]
 simp
def valLk (v:List UInt8):Lk:=⟨⟨#[97]⟩,⟨#[]⟩,⟨#[49]⟩,ofL v,⟨#[]⟩⟩
theorem val_read (v:List UInt8) (hv:v.all plainB=true) (hl:v.length≤60):locksD (blocksDoc [valBlk v])=([valLk v],0,0):=by
 have hset:blocksLocks [valBlk v]=[valLk v]:=rfl
 have hf0:Fl.tidy ⟨0,[97],[97]⟩:=⟨⟨by decide,by decide +kernel,by decide +kernel⟩,by decide,by decide⟩
 have hf1:Fl.tidy ⟨2,[49],[49]⟩:=⟨⟨by decide,by decide +kernel,by decide⟩,by decide,by decide⟩
 have hf2:Fl.tidy ⟨3,R.quoteL v,v⟩:=⟨⟨by show (3:Nat)<5;decide,value_quote v hv,by simp⟩,quote_plain hv,by
  cases v with
  | nil => decide
  | cons b v => exact quote_qk.ends _ hv (by simp)⟩
 have ht:∀ b ∈ [valBlk v],∀ f ∈ b,f.tidy:=by
  intro b hb f hf
  simp only [List.mem_cons,List.not_mem_nil,or_false] at hb
  subst hb
  simp only [valBlk,List.mem_cons,List.not_mem_nil,or_false] at hf
  rcases hf with rfl|rfl|rfl
  ·exact hf0
  ·exact hf1
  ·exact hf2
 have hb:∀ b ∈ [valBlk v],Bl b:=by
  intro b hb
  have hb':=hb
  simp only [List.mem_cons,List.not_mem_nil,or_false] at hb
  subst hb
  exact ⟨by simp [valBlk],fun f hf => (ht _ hb' f hf).1,by show ([nm 0,nm 2,nm 3]:List ByteArray).Nodup;decide +kernel⟩
 have ho:OkLks (blocksLocks [valBlk v]):=by
  rw [hset]
  refine ⟨?_,by simp,by simp⟩
  intro x hx
  simp only [List.mem_cons,List.not_mem_nil,or_false] at hx
  subst hx
  refine ⟨by show rightL [97]=true;decide +kernel,.inl (by simp [valLk]),fun h => absurd rfl h,?_⟩
  intro k hk
  rcases k with _|_|_|_|_|k
  ·show ([97]:List UInt8).all plainB=true;decide
  ·rfl
  ·show ([49]:List UInt8).all plainB=true;decide
  ·show (ofL v).data.toList.all plainB=true
   have:(ofL v).data.toList=v:=by simp [ofL]
   rw [this]
   exact hv
  ·rfl
  ·omega
 have hz:(blocksDoc [valBlk v]).length≤8000:=by
  rw [valBlk_text]
  have h1:=R.quoteL_length v
  have h2:aheadV.data.toList.length=41:=rfl
  rw [List.length_append,List.length_append,h2]
  simp only [List.length_cons,List.length_nil]
  omega
 rw [doc_read [valBlk v] hb ht ho hz,hset]
theorem values_end (m:List UInt8) (hm:∀ b ∈ m,32≤b∧b≤126) (hl:m.length≤60) (q:Bool) (i:Int) (hi:¬ i<((R.nats m).length:Int)):Ev (fun k => transhumancelaw7_DentValues.l0 k (R.nats m) q (bs m) i) true:=by
 have hp:m.all plainB=true:=List.all_eq_true.2 fun b hb => by
  have:=hm b hb
  simp [plainB,this.1,this.2]
 have hsz:(bs m).size≤60:=by rw [size_bs];exact hl
 have h41:aheadV.size=41:=rfl
 have h1:(⟨#[10]⟩:ByteArray).size=1:=rfl
 refine Ev.step (fun _ => transhumancelaw7_DentValues.l0.eq_2 ..) (Ev.neg hi (Ev.pos (by omega) (Ev.pos (by rw [ByteArray.size_append];show aheadV.size+_+1≤_;omega) ?_)))
 cases q with
 | false =>
  obtain ⟨l,x,y,e,hq,hle⟩:=both_read ((aheadV++bs m)++(⟨#[10]⟩:ByteArray)) (by rw [ByteArray.size_append,ByteArray.size_append];omega)
  exact Ev.neg (by simp) (Ev.val hq (Ev.val hq (Ev.pos rfl (Ev.pos (by simp) (Ev.bind (rows_ev l (by omega)) (Ev.pos rfl (Ev.now _)))))))
 | true =>
  have hqt:=quote_ev (bs m) (by omega)
  rw [data_bs] at hqt
  have hql:=R.quoteL_length m
  have hqz:(bs (R.quoteL m)).size≤130:=by rw [size_bs];omega
  have hdata:((aheadV++bs (R.quoteL m))++(⟨#[10]⟩:ByteArray)).data.toList=blocksDoc [valBlk m]:=by
   rw [valBlk_text]
   simp [ByteArray.data_append,data_bs]
  have hD:=dent_read (T:=(aheadV++bs (R.quoteL m))++(⟨#[10]⟩:ByteArray)) (l:=[valLk m]) (by rw [hdata];exact val_read m hp hl) (by rw [ByteArray.size_append,ByteArray.size_append];omega)
  refine Ev.pos rfl (Ev.bind hqt (Ev.pos (by omega) (Ev.pos (by rw [ByteArray.size_append];show aheadV.size+_+1≤_;omega) (Ev.val hD (Ev.val hD (Ev.pos rfl (Ev.pos (by simp) (Ev.bind (rows_ev [valLk m] (by simp)) (Ev.pos rfl (Ev.pos rfl (Ev.pos rfl (Ev.pos (by simp [outs]) (Ev.ret ?_)))))))))))))
  show some ((bs m).toList == (bs m).toList)=some true
  simp
theorem values_l0 (m:List UInt8) (hl:m.length≤60) (q:Bool):∀ (d i:Nat),i+d=m.length→(∀ b ∈ m.take i,32≤b∧b≤126)→Ev (fun k => transhumancelaw7_DentValues.l0 k (R.nats m) q (bs m) i) true
 | 0,i,hi,h => by
  have hm:∀ b ∈ m,32≤b∧b≤126:=by rwa [List.take_of_length_le (by omega)] at h
  exact values_end m hm hl q i (by rw [R.nats_length];omega)
 | d+1,i,hi,h => by
  have hlt:i<m.length:=by omega
  have hw:wrap64 ((i:Int)+1)=((i+1:Nat):Int):=wrap_id (by omega) (by omega)
  refine Ev.step (fun _ => transhumancelaw7_DentValues.l0.eq_2 ..) (Ev.pos (by rw [R.nats_length];omega) (Ev.pos (by omega) ?_))
  rw [rd_nats m i hlt,hw]
  by_cases c1:(m[i].toNat:Int)<32
  ·exact Ev.pos c1 (Ev.now _)
  by_cases c2:(m[i].toNat:Int) > 126
  ·exact Ev.neg c1 (Ev.pos c2 (Ev.now _))
  refine Ev.neg c1 (Ev.neg c2 (values_l0 m hl q d (i+1) (by omega) ?_))
  intro b hb
  rw [List.take_add_one,List.getElem?_eq_getElem hlt] at hb
  rcases List.mem_append.1 hb with hb|hb
  ·exact h b hb
  ·simp only [Option.toList_some,List.mem_cons,List.not_mem_nil,or_false] at hb
   subst hb
   rw [UInt8.le_iff_toNat_le,UInt8.le_iff_toNat_le]
   show 32≤m[i].toNat∧m[i].toNat≤126
   omega
theorem DentValues:transhumancelaw7_DentValues.Pure:=by
 intro l0 a1 _ _ hwf
 apply Ev.rounds
 unfold transhumancelaw7_DentValues.f
 refine Ev.val known_true (Ev.pos rfl ?_)
 by_cases c1:(l0.length:Int) > 60
 ·exact Ev.pos c1 (Ev.now _)
 refine Ev.neg c1 ?_
 obtain ⟨m,rfl⟩:=nats_of l0 hwf
 rw [R.nats_length] at c1
 rw [strOf_list]
 exact values_l0 m (by omega) a1 m.length 0 (by omega) (by simp)
end Go.Proofs.YtjdjljgbfpkbdaaGreatDoor.Pure
