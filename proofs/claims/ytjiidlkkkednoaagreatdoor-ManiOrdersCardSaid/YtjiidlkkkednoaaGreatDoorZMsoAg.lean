import Derived.Test.YtjiidlkkkednoaaGreatDoorZMsiAg
import Derived.Lib.SliceRun
import Derived.Test.YtjiidlkkkednoaaGreatDoorZR0g
import Derived.Lib.SlicesCompact
set_option linter.unusedVariables false
set_option linter.unusedSimpArgs false
section
namespace Go.Proofs.YtjiidlkkkednoaaGreatDoor.Q
open Go.RowKit Go.Proofs.YtjiidlkkkednoaaGreatDoorW.PrintWords
def sortedA (cf:S45→S45→Int) (d:Array S45):Array S45:=Sort.insertionSort (ltA cf) d 0 d.size
section
variable {w0:World} {Ok:S45→Prop} {cf:S45→S45→Int}
set_option maxHeartbeats 4000000 in
set_option maxRecDepth 100000 in
theorem stabA_calls (hC:CmpA w0 Ok cf) (w:World) (b c:Nat) (d:Array S45) (z:List Value)
  (hB:Below w0.heap.size w0 w) (hb:w0.heap.size≤b) (hR:Rw encA 45 w b d.toList z) (hok:∀ i,i<d.size→Ok d[i]!) (hsz:d.size≤20) :
  Calls Tryz.prog 119 #[.slice (some ⟨b,0,none⟩) d.size c,.int .i64 d.size,.func (.func 41) #[] #[]] w fun r w' =>
   r=.returned (.tuple #[])∧Rw encA 45 w' b (sortedA cf d).toList z∧Below w0.heap.size w0 w'∧(∀ i,i<(sortedA cf d).size→Ok (sortedA cf d)[i]!)∧(sortedA cf d).size=d.size:=by
 have c1:=insA_calls hC w b c 0 d.size d z hB hb hR hok (Nat.zero_le _) (Nat.le_refl _) (by omega)
 by_cases h20:d.size<20
 ·have HC1:=Lib.hid c1
  clear c1 hR hok
  have d0:¬ (20:Int)≤(d.size:Int):=by omega
  have d1:¬ (20:Int)<(d.size:Int):=by omega
  go_enter Tryz.func119,Tryz.ntmps119
  go_wp2_with (fail)
  refine wp_loop_rounds 1 ?_
  rw [rounds_succ]
  go_wp2_with (go_at_call 136;refine HC1.out.mono ?_;rintro e w1 ⟨rfl,hp⟩;have HP:=Lib.hid hp;clear hp)
  refine wp_loop_rounds 1 ?_
  rw [rounds_succ]
  go_wp2_with (fail)
  go_end0
  exact ⟨rfl,HP.out⟩
 ·have hd:d.size=20:=by omega
  have c2:∀ w1 (d1:Array S45),d1.size=20→Below w0.heap.size w0 w1→Rw encA 45 w1 b d1.toList z→(∀ i,i<d1.size→Ok d1[i]!)→Calls Tryz.prog 136 #[.slice (some ⟨b,0,none⟩) 20 c,.int .i64 20,.int .i64 20,.func (.func 41) #[] #[]] w1 fun r w' =>
    r=.returned (.tuple #[])∧Rw encA 45 w' b d1.toList z∧Below w0.heap.size w0 w':=fun w1 d1 hd1 hB1 hR1 ho1 => by
   have:=insA_calls hC w1 b c 20 20 d1 z hB1 hb hR1 ho1 (by omega) (by omega) (by omega)
   rw [hd1] at this
   refine this.mono ?_
   rintro e w' ⟨h1,h2,h3,-⟩
   have e1:Sort.insertionSort (ltA cf) d1 20 20=d1:=by unfold Sort.insertionSort;exact insO_stop _ _ _ _ _ (by omega)
   rw [e1] at h2
   exact ⟨h1,h2,h3⟩
  unfold sortedA
  rw [hd] at c1 ⊢
  have HC1:=Lib.hid c1
  have HC2:=Lib.hid c2
  have HD:=Lib.hid hd
  clear c1 c2 hR hok hd hsz h20
  go_enter Tryz.func119,Tryz.ntmps119
  go_wp2_with (fail)
  refine wp_loop_rounds 2 ?_
  rw [rounds_succ]
  go_wp2_with (go_at_call 136;refine HC1.out.mono ?_;rintro e w1 ⟨rfl,hp1,hp2,hp3,hp4⟩;have HP:=Lib.hid hp1;have HPB:=Lib.hid hp2;have HPO:=Lib.hid hp3;have HPS:=Lib.hid hp4;clear hp1 hp2 hp3 hp4)
  rw [rounds_succ]
  go_wp2_with (go_at_call 136;refine (HC2.out _ _ HPS.out HPB.out HP.out HPO.out).mono ?_;rintro e w2 ⟨rfl,hp1,hp2⟩;have HP1:=Lib.hid hp1;have HPB1:=Lib.hid hp2;clear hp1 hp2)
  refine wp_loop_rounds 1 ?_
  rw [rounds_succ]
  go_wp2_with (fail)
  go_end0
  exact ⟨rfl,HP1.out,HPB1.out,HPO.out,HPS.out⟩
set_option maxHeartbeats 1000000 in
theorem stableA_calls (hC:CmpA w0 Ok cf) (w:World) (b c:Nat) (d:Array S45) (z:List Value)
  (hB:Below w0.heap.size w0 w) (hb:w0.heap.size≤b) (hR:Rw encA 45 w b d.toList z) (hok:∀ i,i<d.size→Ok d[i]!) (hsz:d.size≤20) :
  Calls Tryz.prog 81 #[.slice (some ⟨b,0,none⟩) d.size c,.func (.func 41) #[] #[]] w fun r w' =>
   r=.returned (.tuple #[])∧Rw encA 45 w' b (sortedA cf d).toList z∧Below w0.heap.size w0 w'∧(∀ i,i<(sortedA cf d).size→Ok (sortedA cf d)[i]!)∧(sortedA cf d).size=d.size:=by
 have HC1:=Lib.hid (stabA_calls hC w b c d z hB hb hR hok hsz)
 clear hR hok
 go_enter Tryz.func81,Tryz.ntmps81
 go_wp2_with (go_at_call 119;refine HC1.out.mono ?_;rintro e w1 ⟨rfl,hp⟩;have HP:=Lib.hid hp;clear hp)
 go_end0
 exact ⟨rfl,HP.out⟩
end
set_option maxHeartbeats 1000000 in
theorem clipA_calls (w:World) (A:Option Addr) (n c:Nat) (hn:n≤c) :
  Calls Tryz.prog 82 #[.slice A n c] w fun r w' => r=.returned (.slice A n n)∧w'=w:=by
 have d0:(0:Int)≤(n:Int)∧(n:Int)≤(c:Int):=⟨by omega,by omega⟩
 go_enter Tryz.func82,Tryz.ntmps82
 go_wp2_with (fail)
 go_ret
 exact ⟨rfl,rfl⟩
end Go.Proofs.YtjiidlkkkednoaaGreatDoor.Q
end
section
namespace Go.Proofs.YtjiidlkkkednoaaGreatDoor.Q
open Go.RowKit Go.Shelf Go.Proofs.YtjiidlkkkednoaaGreatDoorW.PrintWords
theorem infoRA:(Tryz.prog.info? 45).map (fun i => (i.zero,i.size,i.bytes))=some (some (.agg #[(.string ⟨#[]⟩),(.int .i64 0),(.int .i64 0),(.int .i64 0),(.string ⟨#[]⟩)]),5,56):=by kernel_rfl
theorem encA_one (l:List S45):∀ u ∈ flatR encA l,u.oneCell'=true:=by
 intro u hu
 obtain ⟨x,_,hx⟩:=List.mem_flatMap.1 hu
 simp only [encA,List.mem_cons,List.not_mem_nil,or_false] at hx
 rcases hx with rfl|rfl|rfl|rfl|rfl <;> rfl
theorem reads_flatA {w:World} {ad:Addr} {n:Nat} {l:List S45} (h:Kd.C k45 w (some ad) n l) (j:Nat) (u:Value) (hj:(flatR encA l)[j]?=some u):w.cell? (ad.add j)=some u:=by
 have hl:j<(flatR encA l).length:=(List.getElem?_eq_some_iff.1 hj).1
 rw [flatR_length encA_len] at hl
 have hi:j / 5<l.length:=by omega
 have hm:j % 5<5:=Nat.mod_lt _ (by decide)
 have e:j=j / 5 * 5+j % 5:=by omega
 rw [e,flatR_get encA_len l (j / 5) (j % 5) hi hm] at hj
 have hn:0<n:=by have:=h.1;omega
 obtain ⟨ad',ha,hc⟩:=h.2.2 hn
 cases ha
 obtain ⟨c,_,hk,hcell⟩:=hc (j / 5) l[j / 5] (List.getElem?_eq_getElem hi)
 obtain rfl:=k45_open hk
 rw [e]
 exact hcell (j % 5) u hj
set_option maxHeartbeats 1000000 in
theorem cloneA_calls (w:World) (A:Option Addr) (c:Nat) (l:List S45) (h:Kd.C k45 w A l.length l) (hc:l.length≤c) (hn:l.length≤100000) :
  Calls Tryz.prog 80 #[.slice A l.length c] w fun e w' => ∃ v,e=.returned v∧w'.ownsRow w.heap.size 45 5 v l.length (flatR encA l)∧Below w.heap.size w w':=by
 have qn:∀ (w:World) (a:Option Addr) (n c n' c':Nat),(binOp .eql 24 (.slice a n c) (.slice none n' c')).run Tryz.prog w=.ok (.bool a.isNone) w:=fun w a n c n' c' => Lib.run_eql_slice_nil w _ _ a n c n' c' Tryz.underlying24
 cases A with
 | none =>
  have:l=[]:=by
   cases l with
   | nil => rfl
   | cons x l =>
    obtain ⟨ad,e,_⟩:=h.2.2 (by simp)
    cases e
  subst this
  clear h
  go_enter Tryz.func80,Tryz.ntmps80
  go_wp2_with (fail)
  go_ret
  exact ⟨_,rfl,own_nil _ _ _ _,Below.refl _ _⟩
 | some ad =>
  have HC:Hid (∀ j u,(flatR encA l)[j]?=some u→w.cell? (ad.add j)=some u):=Lib.hid (reads_flatA h)
  clear h
  obtain ⟨i0,hi,hz0,hz1,hz2⟩:=info_parts infoRA
  go_enter Tryz.func80,Tryz.ntmps80
  go_wp2_with (at_builtin;refine wpList_append_own _ rfl _ _ 24 rfl w.heap.size 45 i0 (.agg #[(.string ⟨#[]⟩),(.int .i64 0),(.int .i64 0),(.int .i64 0),(.string ⟨#[]⟩)]) 5 56 Tryz.underlying24 hi hz0 hz1 hz2 rfl (by decide) _ _ _ rfl (World.ownsRow_made w #[] 0 (Nat.le_refl _) (Nat.zero_le _) rfl) ad l.length c (flatR encA l) rfl ?qc1 ?qc2 ?qc3 ?qc4 ?qc5 ?qc6 ?_)
  case qc1 => exact flatR_length encA_len l
  case qc2 =>
   intro j u hj
   exact Lib.cell?_alloc_some _ (HC.out j u hj)
  case qc3 => exact encA_one l
  case qc4 => unfold maxLen;omega
  case qc5 => omega
  case qc6 => simp
  intro v' w1 hown hgrow hnil
  go_wp2
  go_ret
  refine ⟨v',rfl,by simpa using hown,?_⟩
  exact ((Below.refl _ w).alloc (Nat.le_refl _) _).grown hgrow (by simp) (by intro k hk;simp [Value.ownBlock] at hk;omega)
theorem own_rwA {w:World} {base:Nat} {v:Value} {l:List S45} (h:w.ownsRow base 45 5 v l.length (flatR encA l)) :
  (v=.slice none 0 0∧l=[])∨∃ g cap z,v=.slice (some ⟨g,0,none⟩) l.length cap∧base≤g∧l.length≤cap∧Rw encA 45 w g l z:=by
 obtain ⟨h1,h2⟩:=h
 rcases h2 with ⟨rfl,h2⟩|⟨q,cap,cs,rfl,hb,hh,hle,hcap,hs,ht⟩
 ·exact .inl ⟨rfl,List.eq_nil_of_length_eq_zero h2⟩
 ·refine .inr ⟨q,cap,cs.toList.drop (l.length * 5),rfl,hb,hle,⟨?_⟩⟩
  have e:(flatR encA l++cs.toList.drop (l.length * 5)).toArray=cs:=by
   rw [← ht,List.take_append_drop]
  rw [e]
  exact hh
end Go.Proofs.YtjiidlkkkednoaaGreatDoor.Q
end
section
namespace Go.Proofs.YtjiidlkkkednoaaGreatDoor.Q
open Go.RowKit Go.Shelf Go.Proofs.YtjiidlkkkednoaaGreatDoorW.PrintWords Go.Proofs.YtjiidlkkkednoaaGreatDoorW.PrintLast Go.Proofs.YtjiidlkkkednoaaGreatDoorW.PrintMore
theorem extA (x y:S45):(x.f0=y.f0∧x.f1.f0=y.f1.f0∧x.f1.f1=y.f1.f1∧x.f1.f2=y.f1.f2∧x.f1.f3=y.f1.f3)↔x=y:=by
 constructor
 ·rintro ⟨h0,h1,h2,h3,h4⟩
  obtain ⟨a0,⟨a1,a2,a3,a4⟩⟩:=x
  obtain ⟨b0,⟨b1,b2,b3,b4⟩⟩:=y
  simp only at h0 h1 h2 h3 h4
  subst h0 h1 h2 h3 h4
  rfl
 ·rintro rfl
  exact ⟨rfl,rfl,rfl,rfl,rfl⟩
instance decA:DecidableEq S45:=fun x y => decidable_of_iff _ (extA x y)
theorem eqVA (d:Nat) (w:World) (x y:S43) :
  (Op.equalIn (d+2) 43 (.agg #[.int .i64 x.f0,.int .i64 x.f1,.int .i64 x.f2,.string x.f3]) (.agg #[.int .i64 y.f0,.int .i64 y.f1,.int .i64 y.f2,.string y.f3])).run Tryz.prog w=.ok (x.f0 == y.f0 && (x.f1 == y.f1 && (x.f2 == y.f2 && (x.f3.toList == y.f3.toList)))) w:=by
 refine eqA_of Tryz.underlying43 (by kernel_rfl) ?_
 refine eqf_cons (by rfl) (by go_simp;rfl) (by go_simp;rfl) (by go_simp) ?_
 refine eqf_cons (by rfl) (by go_simp;rfl) (by go_simp;rfl) (by go_simp) ?_
 refine eqf_cons (by rfl) (by go_simp;rfl) (by go_simp;rfl) (by go_simp) ?_
 exact eqf_last (by rfl) (by go_simp;rfl) (by go_simp;rfl) (by go_simp)
theorem sl_eq (x y:ByteArray):(x.toList == y.toList)=decide (x=y):=by
 rw [Bool.eq_iff_iff]
 simp only [beq_iff_eq,decide_eq_true_eq,ByteArray.toList_eq]
 exact ⟨ext_bs,fun h => by rw [h]⟩
theorem il_eq (x y:Int):(x == y)=decide (x=y):=by
 rw [Bool.eq_iff_iff]
 simp
theorem eqRA (d:Nat) (w:World) (x y:S45) :
  (Op.equalIn (d+3) 45 (.agg #[.string x.f0,.int .i64 x.f1.f0,.int .i64 x.f1.f1,.int .i64 x.f1.f2,.string x.f1.f3]) (.agg #[.string y.f0,.int .i64 y.f1.f0,.int .i64 y.f1.f1,.int .i64 y.f1.f2,.string y.f1.f3])).run Tryz.prog w=.ok (decide (x=y)) w:=by
 have e:((x.f0.toList == y.f0.toList) && (x.f1.f0 == y.f1.f0) && (x.f1.f1 == y.f1.f1) && (x.f1.f2 == y.f1.f2) && (x.f1.f3.toList == y.f1.f3.toList))=decide (x=y):=by
  simp only [sl_eq,il_eq,← Bool.decide_and,and_assoc]
  exact decide_eq_decide.2 (extA x y)
 rw [← e]
 simp only [Bool.and_assoc]
 refine eqA_of Tryz.underlying45 (by kernel_rfl) ?_
 refine eqf_cons (by rfl) (by go_simp;rfl) (by go_simp;rfl) (by go_simp) ?_
 exact eqf_last (by rfl) (by go_simp) (by go_simp) (eqVA d w _ _)
end Go.Proofs.YtjiidlkkkednoaaGreatDoor.Q
end
section
namespace Go.Proofs.YtjiidlkkkednoaaGreatDoor.Q
open Go.RowKit Go.Shelf Go.Proofs.YtjiidlkkkednoaaGreatDoorW.PrintWords
attribute [local go_sem high] eqRA
def cpA (d:Array S45):List S45:=Lib.compactUpTo d d.size
theorem comp_takeA {d dk:Array S45} {k:Nat} (h:Lib.CompInv d d.size k dk):dk.toList.take k=cpA d:=by
 have hk:=h.lt
 have hs:=h.size
 unfold cpA
 apply List.ext_getElem?
 intro j
 rw [List.getElem?_take]
 by_cases c:j<k
 ·rw [if_pos c,h.low j c,getElem!_pos dk j (by omega)]
  simp
 ·rw [if_neg c]
  exact (List.getElem?_eq_none (by rw [h.len];omega)).symm
theorem clear_runA (w:World) (b o n c:Nat) (cs:Array Value) (hn:0<n) (hb:Blk w b 45 cs) (ho:o+n * 5≤cs.size) :
  ∃ zs:List Value,zs.length=n * 5∧∀ ty,(Builtin.clear_ #[24] ty #[.slice (some ⟨b,o,none⟩) n c]).run Tryz.prog w=.ok (.tuple #[]) (putL w b o zs):=by
 have hl:(Builtin.zeroCells #[(.string ⟨#[]⟩),(.int .i64 0),(.int .i64 0),(.int .i64 0),(.string ⟨#[]⟩)] n).toList.length=n * 5:=by simp [Builtin.zeroCells]
 have h1:∀ v ∈ (Builtin.zeroCells #[(.string ⟨#[]⟩),(.int .i64 0),(.int .i64 0),(.int .i64 0),(.string ⟨#[]⟩)] n).toList,v.oneCell'=true:=by
  intro v hv
  simp only [Builtin.zeroCells,Array.toList_map,List.mem_map] at hv
  obtain ⟨i,_,rfl⟩:=hv
  have hs:(#[(.string ⟨#[]⟩),(.int .i64 0),(.int .i64 0),(.int .i64 0),(.string ⟨#[]⟩)]:Array Value).size=5:=rfl
  rw [hs]
  have:i % 5<5:=Nat.mod_lt _ (by decide)
  revert this
  generalize i % 5=r
  intro hr
  rcases r with _|_|_|_|_|r
  all_goals first|rfl|omega
 have hst:=run_storeCells_cells (P:=Tryz.prog) b o (Builtin.zeroCells #[(.string ⟨#[]⟩),(.int .i64 0),(.int .i64 0),(.int .i64 0),(.string ⟨#[]⟩)] n).toList 0 w
  (fun j hj => by rw [hl] at hj;rw [hb.cell,Nat.add_zero,Array.getElem?_eq_getElem (by omega)];rfl) (fun j _ => hb.unfrozen _) h1
 refine ⟨(Builtin.zeroCells #[(.string ⟨#[]⟩),(.int .i64 0),(.int .i64 0),(.int .i64 0),(.string ⟨#[]⟩)] n).toList,hl,fun ty => ?_⟩
 rw [Nat.add_zero] at hst
 rw [putL_set]
 have hv:=Tryz.zeroValue45
 have hu:=Tryz.underlying24
 generalize hzz:(Builtin.zeroCells #[(.string ⟨#[]⟩),(.int .i64 0),(.int .i64 0),(.int .i64 0),(.string ⟨#[]⟩)] n).toList=zs at *
 obtain ⟨m,rfl⟩:∃ m,n=m+1:=⟨n - 1,by omega⟩
 simp [Builtin.clear_,run_underlying hu,hv,Value.cells,hzz,hst]
set_option maxHeartbeats 4000000 in
set_option maxRecDepth 100000 in
theorem compactA_calls {w0:World} (w:World) (b c:Nat) (d:Array S45) (z:List Value) (hB:Below w0.heap.size w0 w) (hb:w0.heap.size≤b)
  (hR:Rw encA 45 w b d.toList z) (hsz:d.size≤100000) (hc:d.size≤c) :
  Calls Tryz.prog 83 #[.slice (some ⟨b,0,none⟩) d.size c] w fun r w' =>
   r=.returned (.slice (some ⟨b,0,none⟩) (cpA d).length c)∧(∃ z',Rw encA 45 w' b (cpA d) z')∧Below w0.heap.size w0 w':=by
 have hall0:(∀ j,j<d.size→Lib.keeps d j=true)→cpA d=d.toList:=fun h => by unfold cpA;rw [Lib.compactUpTo_all d _ h,Lib.range_map_get]
 have HALL:=Lib.hid hall0
 have HB:=Lib.hid hB
 have HR:=Lib.hid hR
 clear hB hR hall0
 by_cases h2:d.size<2
 ·have d2:(d.size:Int)<2:=by omega
  have E:=Lib.hid (HALL.out (fun j hj => Lib.keeps_lt_one d j (by omega)))
  go_enter Tryz.func83,Tryz.ntmps83
  go_wp2_with (fail)
  go_ret
  rw [E.out]
  exact ⟨by simp,⟨z,HR.out⟩,HB.out⟩
 ·have d2:¬ (d.size:Int)<2:=by omega
  go_enter Tryz.func83,Tryz.ntmps83
  go_wp2_with (fail)
  go_loopg [3] d.size (fun g s3 wr => ∃ k:Nat,1≤k∧k≤d.size∧d.size - k≤g∧s3=.int .i64 k∧Hid (Rw encA 45 wr b d.toList z)∧Hid (Below w0.heap.size w0 wr)∧Hid (∀ j,j<k→Lib.keeps d j=true))
  case atStart => exact ⟨1,Nat.le_refl _,by omega,by omega,rfl,HR.out,HB.out,Lib.keeps_lt_one d⟩
  case round =>
   obtain ⟨k,hk1,hk,hg,rfl,HRk,HBk,HA⟩:=hrel
   by_cases hlt:k<d.size
   ·obtain ⟨kp,rfl⟩:∃ kp,k=kp+1:=⟨k - 1,by omega⟩
    have hcj:=HRk.out.cellA encA_len (kp+1) hlt
    have hcp:=HRk.out.cellA encA_len kp (by omega)
    generalize hxj:d[kp+1]! = xj at *
    generalize hxp:d[kp]! = xp at *
    have HXJ:=Lib.hid hxj
    have HXP:=Lib.hid hxp
    have cj0:wr.cell? ⟨b,(kp+1) * 5,none⟩=some (.string xj.f0):=hcj 0 (by decide)
    have cp0:wr.cell? ⟨b,kp * 5,none⟩=some (.string xp.f0):=hcp 0 (by decide)
    have cj1:wr.cell? ⟨b,(kp+1) * 5+1,none⟩=some (.int .i64 xj.f1.f0):=hcj 1 (by decide)
    have cp1:wr.cell? ⟨b,kp * 5+1,none⟩=some (.int .i64 xp.f1.f0):=hcp 1 (by decide)
    have cj2:wr.cell? ⟨b,(kp+1) * 5+2,none⟩=some (.int .i64 xj.f1.f1):=hcj 2 (by decide)
    have cp2:wr.cell? ⟨b,kp * 5+2,none⟩=some (.int .i64 xp.f1.f1):=hcp 2 (by decide)
    have cj3:wr.cell? ⟨b,(kp+1) * 5+3,none⟩=some (.int .i64 xj.f1.f2):=hcj 3 (by decide)
    have cp3:wr.cell? ⟨b,kp * 5+3,none⟩=some (.int .i64 xp.f1.f2):=hcp 3 (by decide)
    have cj4:wr.cell? ⟨b,(kp+1) * 5+4,none⟩=some (.string xj.f1.f3):=hcj 4 (by decide)
    have cp4:wr.cell? ⟨b,kp * 5+4,none⟩=some (.string xp.f1.f3):=hcp 4 (by decide)
    clear hcj hcp hxj hxp
    have hwp:IntKind.i64.wrap (kp:Int)=(kp:Int):=by rw [IntWalk.i64_in _ ⟨by omega,by omega⟩]
    have jz:(kp:Int)+1<(d.size:Int):=by omega
    have jz1:(kp:Int)<(d.size:Int):=by omega
    have p0:(0:Int)≤(kp:Int)+1:=by omega
    have e0:((kp:Int)+1).toNat=kp+1:=by omega
    by_cases hdup:xj=xp
    ·have dd:decide (xj=xp)=true:=decide_eq_true hdup
     go_wp2_with (fail)
     go_quiet (fail)
     go_wp2_with (fail)
     have hneg:Lib.keeps d (kp+1)=false:=Lib.keeps_neg (by omega) (by rw [HXJ.out,Nat.add_sub_cancel,HXP.out];exact hdup)
     have HST:=Lib.hid (Lib.CompInv.start HA.out hneg)
     clear hneg cj0 cp0 cj1 cp1 cj2 cp2 cj3 cp3 cj4 cp4
     go_loopg [3,5] d.size (fun g s3 s5 wr => ∃ (kk k2:Nat) (dk:Array S45),s3=.int .i64 kk∧s5=.int .i64 k2∧1≤k2∧kp+1+k2≤d.size∧d.size - (kp+1+k2)≤g∧Hid (Rw encA 45 wr b dk.toList z)∧Hid (Below w0.heap.size w0 wr)∧Hid (Lib.CompInv d (kp+1+k2) kk dk))
     case atStart => exact ⟨kp+1,1,d,rfl,rfl,Nat.le_refl _,by omega,by omega,⟨HRk.out.blk⟩,below_drewR HBk.out _,HST.out⟩
     case round =>
      obtain ⟨kk,k2,dk,rfl,rfl,h1,hle,hg2,HRd,HBd,HI⟩:=hrel
      have hkk:=HI.out.lt
      have hds:=HI.out.size
      by_cases hlt2:kp+1+k2<d.size
      ·obtain ⟨q,rfl⟩:∃ q,k2=q+1:=⟨k2 - 1,by omega⟩
       have hcm:=HRd.out.cellA encA_len (kp+1+(q+1)) (by omega)
       have hcq:=HRd.out.cellA encA_len (kp+1+q) (by omega)
       have hck:=HRd.out.cellA encA_len kk (by omega)
       rw [HI.out.high (kp+1+(q+1)) (by omega)] at hcm
       rw [HI.out.high (kp+1+q) (by omega)] at hcq
       generalize hxu:d[kp+1+(q+1)]! = xu at *
       generalize hxv:d[kp+1+q]! = xv at *
       generalize dk[kk]! = old at hck
       have HXU:=Lib.hid hxu
       have HXV:=Lib.hid hxv
       have cm0:wr.cell? ⟨b,(kp+1) * 5+(q+1) * 5,none⟩=some (.string xu.f0):=by have:=hcm 0 (by decide);rwa [show (kp+1+(q+1)) * 5+0=(kp+1) * 5+(q+1) * 5+0 by omega] at this
       have cq0:wr.cell? ⟨b,(kp+1) * 5+q * 5,none⟩=some (.string xv.f0):=by have:=hcq 0 (by decide);rwa [show (kp+1+q) * 5+0=(kp+1) * 5+q * 5+0 by omega] at this
       have ck0:wr.cell? ⟨b,kk * 5,none⟩=some (.string old.f0):=hck 0 (by decide)
       have fk0:wr.frozen? ⟨b,kk * 5,none⟩=false:=HRd.out.free _
       have cm1:wr.cell? ⟨b,(kp+1) * 5+(q+1) * 5+1,none⟩=some (.int .i64 xu.f1.f0):=by have:=hcm 1 (by decide);rwa [show (kp+1+(q+1)) * 5+1=(kp+1) * 5+(q+1) * 5+1 by omega] at this
       have cq1:wr.cell? ⟨b,(kp+1) * 5+q * 5+1,none⟩=some (.int .i64 xv.f1.f0):=by have:=hcq 1 (by decide);rwa [show (kp+1+q) * 5+1=(kp+1) * 5+q * 5+1 by omega] at this
       have ck1:wr.cell? ⟨b,kk * 5+1,none⟩=some (.int .i64 old.f1.f0):=hck 1 (by decide)
       have fk1:wr.frozen? ⟨b,kk * 5+1,none⟩=false:=HRd.out.free _
       have cm2:wr.cell? ⟨b,(kp+1) * 5+(q+1) * 5+2,none⟩=some (.int .i64 xu.f1.f1):=by have:=hcm 2 (by decide);rwa [show (kp+1+(q+1)) * 5+2=(kp+1) * 5+(q+1) * 5+2 by omega] at this
       have cq2:wr.cell? ⟨b,(kp+1) * 5+q * 5+2,none⟩=some (.int .i64 xv.f1.f1):=by have:=hcq 2 (by decide);rwa [show (kp+1+q) * 5+2=(kp+1) * 5+q * 5+2 by omega] at this
       have ck2:wr.cell? ⟨b,kk * 5+2,none⟩=some (.int .i64 old.f1.f1):=hck 2 (by decide)
       have fk2:wr.frozen? ⟨b,kk * 5+2,none⟩=false:=HRd.out.free _
       have cm3:wr.cell? ⟨b,(kp+1) * 5+(q+1) * 5+3,none⟩=some (.int .i64 xu.f1.f2):=by have:=hcm 3 (by decide);rwa [show (kp+1+(q+1)) * 5+3=(kp+1) * 5+(q+1) * 5+3 by omega] at this
       have cq3:wr.cell? ⟨b,(kp+1) * 5+q * 5+3,none⟩=some (.int .i64 xv.f1.f2):=by have:=hcq 3 (by decide);rwa [show (kp+1+q) * 5+3=(kp+1) * 5+q * 5+3 by omega] at this
       have ck3:wr.cell? ⟨b,kk * 5+3,none⟩=some (.int .i64 old.f1.f2):=hck 3 (by decide)
       have fk3:wr.frozen? ⟨b,kk * 5+3,none⟩=false:=HRd.out.free _
       have cm4:wr.cell? ⟨b,(kp+1) * 5+(q+1) * 5+4,none⟩=some (.string xu.f1.f3):=by have:=hcm 4 (by decide);rwa [show (kp+1+(q+1)) * 5+4=(kp+1) * 5+(q+1) * 5+4 by omega] at this
       have cq4:wr.cell? ⟨b,(kp+1) * 5+q * 5+4,none⟩=some (.string xv.f1.f3):=by have:=hcq 4 (by decide);rwa [show (kp+1+q) * 5+4=(kp+1) * 5+q * 5+4 by omega] at this
       have ck4:wr.cell? ⟨b,kk * 5+4,none⟩=some (.string old.f1.f3):=hck 4 (by decide)
       have fk4:wr.frozen? ⟨b,kk * 5+4,none⟩=false:=HRd.out.free _
       clear hcm hcq hck hxu hxv
       have wq:IntKind.i64.wrap (q:Int)=(q:Int):=by rw [IntWalk.i64_in _ ⟨by omega,by omega⟩]
       have jq:(q:Int)+1<((d.size - (kp+1):Nat):Int):=by omega
       have jq1:(q:Int)<((d.size - (kp+1):Nat):Int):=by omega
       have pq:(0:Int)≤(q:Int)+1:=by omega
       have eq:((q:Int)+1).toNat=q+1:=by omega
       have jk:(kk:Int)<(d.size:Int):=by omega
       by_cases hd2:xu=xv
       ·have du:decide (xu=xv)=true:=decide_eq_true hd2
        go_wp2_with (fail)
        go_quiet (fail)
        go_wp2_with (fail)
        go_roundg (d.size - (kp+1+(q+1+1)))
        case measure => omega
        case rel => exact ⟨kk,q+1+1,dk,rfl,by go_num,by omega,by omega,Nat.le_refl _,⟨HRd.out.blk⟩,below_drewR HBd.out _,HI.out.skip (Lib.keeps_neg (by omega) (by rw [HXU.out,show kp+1+(q+1) - 1=kp+1+q by omega,HXV.out];exact hd2))⟩
       ·have du:decide (xu=xv)=false:=decide_eq_false hd2
        go_wp2_with (fail)
        go_quiet (fail)
        go_wp2_with (fail)
        go_roundg (d.size - (kp+1+(q+1+1)))
        case measure => omega
        case rel =>
         have hp:=HRd.out.put encA_len kk (by simp;omega) xu
         have hi:=HI.out.keep (by omega) (Lib.keeps_pos (by rw [HXU.out,show kp+1+(q+1) - 1=kp+1+q by omega,HXV.out];exact hd2))
         rw [HXU.out] at hi
         refine ⟨kk+1,q+1+1,dk.setIfInBounds kk xu,by go_num,by go_num,by omega,by omega,Nat.le_refl _,?_,?_,hi⟩
         ·show Rw _ _ _ _ _ _
          rw [Array.toList_setIfInBounds]
          exact ⟨hp.blk⟩
         ·first|exact putL_below hb (encA xu) (kk * 5) _ (below_drewR HBd.out _)|exact (putL_below hb (encA xu) (kk * 5) _ (below_drewR HBd.out _)).drew
      ·have hend:kp+1+k2=d.size:=by omega
       have dl2:¬ (k2:Int)<((d.size - (kp+1):Nat):Int):=by omega
       have hzb:kk * 5+(d.size - kk) * 5≤(flatR encA dk.toList++z).toArray.size:=by
        show _≤(flatR encA dk.toList++z).length
        rw [List.length_append,flatR_length encA_len]
        simp only [Array.length_toList]
        omega
       obtain ⟨zs,hzl,hcl⟩:=clear_runA wr b (kk * 5) (d.size - kk) (c - kk) _ (by omega) HRd.out.blk hzb
       have HZL:=Lib.hid hzl
       have jk:(0:Int)≤(kk:Int)∧(kk:Int)≤(d.size:Int):=⟨by omega,by omega⟩
       have jk1:(kk:Int)≤(c:Int):=by omega
       clear hzb hzl
       go_wp2_with (fail)
       go_ret
       rw [hend] at HI
       have hcut:=HRd.out.cut encA_len kk (by simp;omega) zs (by rw [HZL.out];simp [hds])
       rw [comp_takeA HI.out] at hcut
       have hlen:(cpA d).length=kk:=HI.out.len
       rw [hlen]
       exact ⟨rfl,⟨_,hcut⟩,putL_below hb zs (kk * 5) _ HBd.out⟩
    ·have dd:decide (xj=xp)=false:=decide_eq_false hdup
     go_wp2_with (fail)
     go_quiet (fail)
     go_wp2_with (fail)
     go_roundg (d.size - (kp+1+1))
     case measure => omega
     case rel =>
      refine ⟨kp+1+1,by omega,by omega,Nat.le_refl _,by go_num,⟨HRk.out.blk⟩,below_drewR HBk.out _,fun j hj => ?_⟩
      by_cases e:j=kp+1
      ·subst e
       exact Lib.keeps_pos (by rw [HXJ.out,Nat.add_sub_cancel,HXP.out];exact hdup)
      ·exact HA.out j (by omega)
   ·have hke:k=d.size:=by omega
    subst hke
    have E:=Lib.hid (HALL.out HA.out)
    have dl:¬ (d.size:Int)<(d.size:Int):=by omega
    go_wp2_with (fail)
    go_ret
    rw [E.out]
    exact ⟨by simp,⟨z,HRk.out⟩,HBk.out⟩
end Go.Proofs.YtjiidlkkkednoaaGreatDoor.Q
end
section
namespace Go.Proofs.YtjiidlkkkednoaaGreatDoor.Q
open Go.RowKit Go.Shelf Go.Proofs.YtjiidlkkkednoaaGreatDoorW.PrintWords
set_option maxHeartbeats 1000000 in
theorem insA_nil (w:World):Calls Tryz.prog 136 #[.slice none 0 0,.int .i64 0,.int .i64 0,.func (.func 41) #[] #[]] w fun r w' => r=.returned (.tuple #[])∧w'=w:=by
 go_enter Tryz.func136,Tryz.ntmps136
 go_wp2_with (fail)
 refine wp_loop_rounds 1 ?_
 rw [rounds_succ]
 go_wp2_with (fail)
 go_end0
 exact ⟨rfl,rfl⟩
set_option maxHeartbeats 1000000 in
theorem stabA_nil (w:World):Calls Tryz.prog 119 #[.slice none 0 0,.int .i64 0,.func (.func 41) #[] #[]] w fun r w' => r=.returned (.tuple #[])∧w'=w:=by
 go_enter Tryz.func119,Tryz.ntmps119
 go_wp2_with (fail)
 refine wp_loop_rounds 1 ?_
 rw [rounds_succ]
 go_wp2_with (go_at_call 136;refine (insA_nil _).mono ?_;rintro e w1 ⟨rfl,rfl⟩)
 refine wp_loop_rounds 1 ?_
 rw [rounds_succ]
 go_wp2_with (fail)
 go_end0
 exact ⟨rfl,rfl⟩
set_option maxHeartbeats 1000000 in
theorem stableA_nil (w:World):Calls Tryz.prog 81 #[.slice none 0 0,.func (.func 41) #[] #[]] w fun r w' => r=.returned (.tuple #[])∧w'=w:=by
 go_enter Tryz.func81,Tryz.ntmps81
 go_wp2_with (go_at_call 119;refine (stabA_nil _).mono ?_;rintro e w1 ⟨rfl,rfl⟩)
 go_end0
 exact ⟨rfl,rfl⟩
set_option maxHeartbeats 1000000 in
theorem compactA_nil (w:World):Calls Tryz.prog 83 #[.slice none 0 0] w fun r w' => r=.returned (.slice none 0 0)∧w'=w:=by
 go_enter Tryz.func83,Tryz.ntmps83
 go_wp2_with (fail)
 go_ret
 exact ⟨rfl,rfl⟩
def normA (cf:S45→S45→Int) (l:List S45):List S45:=cpA (sortedA cf l.toArray)
theorem normA_nil (cf:S45→S45→Int):normA cf []=[]:=by
 have e:sortedA cf #[]=#[]:=by unfold sortedA Sort.insertionSort;exact insO_stop _ _ _ _ _ (by simp)
 unfold normA
 rw [e]
 rfl
theorem cpA_le (d:Array S45):(cpA d).length≤d.size:=by
 unfold cpA Lib.compactUpTo
 rw [List.length_map]
 exact Nat.le_trans (List.length_filter_le _ _) (by simp)
def HasA (w:World) (base:Nat) (v:Value) (l:List S45):Prop :=
 (v=.slice none 0 0∧l=[])∨∃ g c z,v=.slice (some ⟨g,0,none⟩) l.length c∧base≤g∧l.length≤c∧Rw encA 45 w g l z
theorem rw_readsA {w:World} {g:Nat} {l:List S45} {z:List Value} (h:Rw encA 45 w g l z) (hl:l.length≤1000000):Kd.C k45 w (some ⟨g,0,none⟩) l.length l:=by
 refine ⟨rfl,by omega,fun _ => ⟨_,rfl,fun j p hp => ⟨_,rfl,k45_mk w p,fun i u hu => ?_⟩⟩⟩
 have hj:j<l.length:=(List.getElem?_eq_some_iff.1 hp).1
 have hi:i<5:=(List.getElem?_eq_some_iff.1 hu).1
 have e:=h.cell encA_len j i hj hi
 have e2:l[j]=p:=(List.getElem?_eq_some_iff.1 hp).2
 rw [e2] at e
 rw [show k45.sz=5 from rfl,add_plain,e]
 exact hu
theorem HasA.reads {w:World} {base:Nat} {v:Value} {l:List S45} (h:HasA w base v l) (hl:l.length≤1000000):∃ A c,v=.slice A l.length c∧l.length≤c∧Kd.C k45 w A l.length l:=by
 rcases h with ⟨rfl,rfl⟩|⟨g,c,z,rfl,_,hc,hr⟩
 ·exact ⟨none,0,rfl,Nat.le_refl _,rfl,by simp,fun h => by simp at h⟩
 ·exact ⟨_,c,rfl,hc,rw_readsA hr hl⟩
theorem HasA.below {w w':World} {base:Nat} {v:Value} {l:List S45} (h:HasA w base v l) (hb:Below w.heap.size w w'):HasA w' base v l:=by
 rcases h with h|⟨g,c,z,e,h1,h2,h3⟩
 ·exact .inl h
 ·exact .inr ⟨g,c,z,e,h1,h2,h3.below hb⟩
theorem HasA.lower {w:World} {base base':Nat} {v:Value} {l:List S45} (h:HasA w base v l) (hb:base'≤base):HasA w base' v l:=by
 rcases h with h|⟨g,c,z,e,h1,h2,h3⟩
 ·exact .inl h
 ·exact .inr ⟨g,c,z,e,Nat.le_trans hb h1,h2,h3⟩
theorem HasA.put {w:World} {base:Nat} {v:Value} {l:List S45} (h:HasA w base v l) {q i:Nat} (hq:q<base) (u:Value):HasA (w.setCell ⟨q,i,none⟩ u) base v l:=by
 rcases h with h|⟨g,c,z,e,h1,h2,h3⟩
 ·exact .inl h
 ·exact .inr ⟨g,c,z,e,h1,h2,⟨h3.blk.far (p:=⟨q,i,none⟩) (by simp only;omega) u⟩⟩
theorem CmpA.on {w w1:World} {Ok:S45→Prop} {cf:S45→S45→Int} (h:CmpA w Ok cf) (hb:Below w.heap.size w w1):CmpA w1 Ok cf :=
 fun x y hx hy W hW => h x y hx hy W (below_then hb hb.size hW)
set_option maxHeartbeats 2000000 in
theorem sortA_calls (w:World) {Ok:S45→Prop} {cf:S45→S45→Int} (hC:CmpA w Ok cf) (A:Option Addr) (c:Nat) (l:List S45) (h:Kd.C k45 w A l.length l) (hc:l.length≤c) (hn:l.length≤20) (hok:∀ x ∈ l,Ok x) :
  Calls Tryz.prog 46 #[.slice A l.length c,.func (.func 41) #[] #[]] w fun e w' => ∃ v,e=.returned v∧HasA w' w.heap.size v (normA cf l)∧Below w.heap.size w w':=by
 have H1:=Lib.hid (cloneA_calls w A c l h hc (by omega))
 have HC:=Lib.hid hC
 have hoa:∀ i,i<l.toArray.size→Ok l.toArray[i]!:=fun i hi => by
  rw [getElem!_pos _ i hi]
  exact hok _ (by simp)
 have HOK:=Lib.hid hoa
 clear hC h hok hoa
 go_enter Tryz.func46,Tryz.ntmps46
 go_wp2_with (go_at_call 80;refine H1.out.mono ?_;rintro e w1 ⟨v,rfl,hv,hb1⟩;have HV:=Lib.hid hv;have HB1:=Lib.hid hb1;clear hv hb1)
 rcases own_rwA HV.out with ⟨rfl,rfl⟩|⟨g,cap,z,rfl,hg,hcap,hr⟩
 ·go_wp2_with (first|(go_at_call 81;refine (stableA_nil _).mono ?_;rintro e w2 ⟨rfl,rfl⟩)|(go_at_call 83;refine (compactA_nil _).mono ?_;rintro e w2 ⟨rfl,rfl⟩)|(go_at_call 82;refine (clipA_calls _ none 0 0 (Nat.le_refl _)).mono ?_;rintro e w2 ⟨rfl,rfl⟩))
  go_ret
  exact ⟨_,rfl,.inl ⟨rfl,normA_nil cf⟩,HB1.out⟩
 ·have hs:=stableA_calls HC.out w1 g cap l.toArray z HB1.out hg hr HOK.out (by simpa using hn)
  simp only [List.size_toArray] at hs
  have HS:=Lib.hid hs
  have HG:=Lib.hid hg
  have HCAP:=Lib.hid hcap
  clear hr hs hg hcap
  go_wp2_with (go_at_call 81;refine HS.out.mono ?_;rintro e w2 ⟨rfl,hr2,hb2,-,hz2⟩;have HR2:=Lib.hid hr2;have HB2:=Lib.hid hb2;have HZ2:=Lib.hid hz2;clear hr2 hb2 hz2)
  have hk:=compactA_calls w2 g cap (sortedA cf l.toArray) z HB2.out HG.out HR2.out (by rw [HZ2.out];omega) (by rw [HZ2.out];exact HCAP.out)
  have hle:(cpA (sortedA cf l.toArray)).length≤l.length:=by rw [← HZ2.out];exact cpA_le _
  rw [HZ2.out] at hk
  have HK:=Lib.hid hk
  have HLE:=Lib.hid hle
  clear hk hle
  have hnm:cpA (sortedA cf l.toArray)=normA cf l:=rfl
  rw [hnm] at HK HLE
  clear hnm
  generalize hnm:normA cf l=m at *
  have HN:=Lib.hid hnm
  clear hnm
  go_wp2_with (first|(go_at_call 83;refine HK.out.mono ?_;rintro e w3 ⟨rfl,hr3,hb3⟩;have HR3:=Lib.hid hr3;have HB3:=Lib.hid hb3;clear hr3 hb3)|(go_at_call 82;refine (clipA_calls _ _ m.length cap (Nat.le_trans HLE.out HCAP.out)).mono ?_;rintro e w4 ⟨rfl,rfl⟩))
  go_ret
  obtain ⟨z',hz'⟩:=HR3.out
  rw [HN.out]
  exact ⟨_,rfl,.inr ⟨g,m.length,z',rfl,HG.out,Nat.le_refl _,hz'⟩,HB3.out⟩
end Go.Proofs.YtjiidlkkkednoaaGreatDoor.Q
end
