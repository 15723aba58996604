import Derived.Test.YtjiidlkkkednoaaGreatDoorZMcoBg
set_option linter.unusedVariables false
set_option linter.unusedSimpArgs false
section
namespace Go.Proofs.YtjiidlkkkednoaaGreatDoor.Q
open Go.RowKit Go.Shelf Go.Proofs.YtjiidlkkkednoaaGreatDoorW.PrintWords
attribute [local go_sem high] eqRB
def cpB (d:Array S48):List S48:=Lib.compactUpTo d d.size
theorem comp_takeB {d dk:Array S48} {k:Nat} (h:Lib.CompInv d d.size k dk):dk.toList.take k=cpB d:=by
 have hk:=h.lt
 have hs:=h.size
 unfold cpB
 apply List.ext_getElem?
 intro j
 rw [List.getElem?_take]
 by_cases c:j<k
 ·rw [if_pos c,h.low j c,getElem!_pos dk j (by omega)]
  simp
 ·rw [if_neg c]
  exact (List.getElem?_eq_none (by rw [h.len];omega)).symm
theorem clear_runB (w:World) (b o n c:Nat) (cs:Array Value) (hn:0<n) (hb:Blk w b 48 cs) (ho:o+n * 6≤cs.size) :
  ∃ zs:List Value,zs.length=n * 6∧∀ ty,(Builtin.clear_ #[25] ty #[.slice (some ⟨b,o,none⟩) n c]).run Tryz.prog w=.ok (.tuple #[]) (putL w b o zs):=by
 have hl:(Builtin.zeroCells #[(.string ⟨#[]⟩),(.string ⟨#[]⟩),(.int .i64 0),(.int .i64 0),(.int .i64 0),(.string ⟨#[]⟩)] n).toList.length=n * 6:=by simp [Builtin.zeroCells]
 have h1:∀ v ∈ (Builtin.zeroCells #[(.string ⟨#[]⟩),(.string ⟨#[]⟩),(.int .i64 0),(.int .i64 0),(.int .i64 0),(.string ⟨#[]⟩)] n).toList,v.oneCell'=true:=by
  intro v hv
  simp only [Builtin.zeroCells,Array.toList_map,List.mem_map] at hv
  obtain ⟨i,_,rfl⟩:=hv
  have hs:(#[(.string ⟨#[]⟩),(.string ⟨#[]⟩),(.int .i64 0),(.int .i64 0),(.int .i64 0),(.string ⟨#[]⟩)]:Array Value).size=6:=rfl
  rw [hs]
  have:i % 6<6:=Nat.mod_lt _ (by decide)
  revert this
  generalize i % 6=r
  intro hr
  rcases r with _|_|_|_|_|_|r
  all_goals first|rfl|omega
 have hst:=run_storeCells_cells (P:=Tryz.prog) b o (Builtin.zeroCells #[(.string ⟨#[]⟩),(.string ⟨#[]⟩),(.int .i64 0),(.int .i64 0),(.int .i64 0),(.string ⟨#[]⟩)] n).toList 0 w
  (fun j hj => by rw [hl] at hj;rw [hb.cell,Nat.add_zero,Array.getElem?_eq_getElem (by omega)];rfl) (fun j _ => hb.unfrozen _) h1
 refine ⟨(Builtin.zeroCells #[(.string ⟨#[]⟩),(.string ⟨#[]⟩),(.int .i64 0),(.int .i64 0),(.int .i64 0),(.string ⟨#[]⟩)] n).toList,hl,fun ty => ?_⟩
 rw [Nat.add_zero] at hst
 rw [putL_set]
 have hv:=Tryz.zeroValue48
 have hu:=Tryz.underlying25
 generalize hzz:(Builtin.zeroCells #[(.string ⟨#[]⟩),(.string ⟨#[]⟩),(.int .i64 0),(.int .i64 0),(.int .i64 0),(.string ⟨#[]⟩)] n).toList=zs at *
 obtain ⟨m,rfl⟩:∃ m,n=m+1:=⟨n - 1,by omega⟩
 simp [Builtin.clear_,run_underlying hu,hv,Value.cells,hzz,hst]
set_option maxHeartbeats 4000000 in
set_option maxRecDepth 100000 in
theorem compactB_calls {w0:World} (w:World) (b c:Nat) (d:Array S48) (z:List Value) (hB:Below w0.heap.size w0 w) (hb:w0.heap.size≤b)
  (hR:Rw encB 48 w b d.toList z) (hsz:d.size≤100000) (hc:d.size≤c) :
  Calls Tryz.prog 87 #[.slice (some ⟨b,0,none⟩) d.size c] w fun r w' =>
   r=.returned (.slice (some ⟨b,0,none⟩) (cpB d).length c)∧(∃ z',Rw encB 48 w' b (cpB d) z')∧Below w0.heap.size w0 w':=by
 have hall0:(∀ j,j<d.size→Lib.keeps d j=true)→cpB d=d.toList:=fun h => by unfold cpB;rw [Lib.compactUpTo_all d _ h,Lib.range_map_get]
 have HALL:=Lib.hid hall0
 have HB:=Lib.hid hB
 have HR:=Lib.hid hR
 clear hB hR hall0
 by_cases h2:d.size<2
 ·have d2:(d.size:Int)<2:=by omega
  have E:=Lib.hid (HALL.out (fun j hj => Lib.keeps_lt_one d j (by omega)))
  go_enter Tryz.func87,Tryz.ntmps87
  go_wp2_with (fail)
  go_ret
  rw [E.out]
  exact ⟨by simp,⟨z,HR.out⟩,HB.out⟩
 ·have d2:¬ (d.size:Int)<2:=by omega
  go_enter Tryz.func87,Tryz.ntmps87
  go_wp2_with (fail)
  go_loopg [3] d.size (fun g s3 wr => ∃ k:Nat,1≤k∧k≤d.size∧d.size - k≤g∧s3=.int .i64 k∧Hid (Rw encB 48 wr b d.toList z)∧Hid (Below w0.heap.size w0 wr)∧Hid (∀ j,j<k→Lib.keeps d j=true))
  case atStart => exact ⟨1,Nat.le_refl _,by omega,by omega,rfl,HR.out,HB.out,Lib.keeps_lt_one d⟩
  case round =>
   obtain ⟨k,hk1,hk,hg,rfl,HRk,HBk,HA⟩:=hrel
   by_cases hlt:k<d.size
   ·obtain ⟨kp,rfl⟩:∃ kp,k=kp+1:=⟨k - 1,by omega⟩
    have hcj:=HRk.out.cellA encB_len (kp+1) hlt
    have hcp:=HRk.out.cellA encB_len kp (by omega)
    generalize hxj:d[kp+1]! = xj at *
    generalize hxp:d[kp]! = xp at *
    have HXJ:=Lib.hid hxj
    have HXP:=Lib.hid hxp
    have cj0:wr.cell? ⟨b,(kp+1) * 6,none⟩=some (.string xj.f0):=hcj 0 (by decide)
    have cp0:wr.cell? ⟨b,kp * 6,none⟩=some (.string xp.f0):=hcp 0 (by decide)
    have cj1:wr.cell? ⟨b,(kp+1) * 6+1,none⟩=some (.string xj.f1):=hcj 1 (by decide)
    have cp1:wr.cell? ⟨b,kp * 6+1,none⟩=some (.string xp.f1):=hcp 1 (by decide)
    have cj2:wr.cell? ⟨b,(kp+1) * 6+2,none⟩=some (.int .i64 xj.f2.f0):=hcj 2 (by decide)
    have cp2:wr.cell? ⟨b,kp * 6+2,none⟩=some (.int .i64 xp.f2.f0):=hcp 2 (by decide)
    have cj3:wr.cell? ⟨b,(kp+1) * 6+3,none⟩=some (.int .i64 xj.f2.f1):=hcj 3 (by decide)
    have cp3:wr.cell? ⟨b,kp * 6+3,none⟩=some (.int .i64 xp.f2.f1):=hcp 3 (by decide)
    have cj4:wr.cell? ⟨b,(kp+1) * 6+4,none⟩=some (.int .i64 xj.f2.f2):=hcj 4 (by decide)
    have cp4:wr.cell? ⟨b,kp * 6+4,none⟩=some (.int .i64 xp.f2.f2):=hcp 4 (by decide)
    have cj5:wr.cell? ⟨b,(kp+1) * 6+5,none⟩=some (.string xj.f2.f3):=hcj 5 (by decide)
    have cp5:wr.cell? ⟨b,kp * 6+5,none⟩=some (.string xp.f2.f3):=hcp 5 (by decide)
    clear hcj hcp hxj hxp
    have hwp:IntKind.i64.wrap (kp:Int)=(kp:Int):=by rw [IntWalk.i64_in _ ⟨by omega,by omega⟩]
    have jz:(kp:Int)+1<(d.size:Int):=by omega
    have jz1:(kp:Int)<(d.size:Int):=by omega
    have p0:(0:Int)≤(kp:Int)+1:=by omega
    have e0:((kp:Int)+1).toNat=kp+1:=by omega
    by_cases hdup:xj=xp
    ·have dd:decide (xj=xp)=true:=decide_eq_true hdup
     go_wp2_with (fail)
     go_quiet (fail)
     go_wp2_with (fail)
     have hneg:Lib.keeps d (kp+1)=false:=Lib.keeps_neg (by omega) (by rw [HXJ.out,Nat.add_sub_cancel,HXP.out];exact hdup)
     have HST:=Lib.hid (Lib.CompInv.start HA.out hneg)
     clear hneg cj0 cp0 cj1 cp1 cj2 cp2 cj3 cp3 cj4 cp4 cj5 cp5
     go_loopg [3,5] d.size (fun g s3 s5 wr => ∃ (kk k2:Nat) (dk:Array S48),s3=.int .i64 kk∧s5=.int .i64 k2∧1≤k2∧kp+1+k2≤d.size∧d.size - (kp+1+k2)≤g∧Hid (Rw encB 48 wr b dk.toList z)∧Hid (Below w0.heap.size w0 wr)∧Hid (Lib.CompInv d (kp+1+k2) kk dk))
     case atStart => exact ⟨kp+1,1,d,rfl,rfl,Nat.le_refl _,by omega,by omega,⟨HRk.out.blk⟩,below_drewR HBk.out _,HST.out⟩
     case round =>
      obtain ⟨kk,k2,dk,rfl,rfl,h1,hle,hg2,HRd,HBd,HI⟩:=hrel
      have hkk:=HI.out.lt
      have hds:=HI.out.size
      by_cases hlt2:kp+1+k2<d.size
      ·obtain ⟨q,rfl⟩:∃ q,k2=q+1:=⟨k2 - 1,by omega⟩
       have hcm:=HRd.out.cellA encB_len (kp+1+(q+1)) (by omega)
       have hcq:=HRd.out.cellA encB_len (kp+1+q) (by omega)
       have hck:=HRd.out.cellA encB_len kk (by omega)
       rw [HI.out.high (kp+1+(q+1)) (by omega)] at hcm
       rw [HI.out.high (kp+1+q) (by omega)] at hcq
       generalize hxu:d[kp+1+(q+1)]! = xu at *
       generalize hxv:d[kp+1+q]! = xv at *
       generalize dk[kk]! = old at hck
       have HXU:=Lib.hid hxu
       have HXV:=Lib.hid hxv
       have cm0:wr.cell? ⟨b,(kp+1) * 6+(q+1) * 6,none⟩=some (.string xu.f0):=by have:=hcm 0 (by decide);rwa [show (kp+1+(q+1)) * 6+0=(kp+1) * 6+(q+1) * 6+0 by omega] at this
       have cq0:wr.cell? ⟨b,(kp+1) * 6+q * 6,none⟩=some (.string xv.f0):=by have:=hcq 0 (by decide);rwa [show (kp+1+q) * 6+0=(kp+1) * 6+q * 6+0 by omega] at this
       have ck0:wr.cell? ⟨b,kk * 6,none⟩=some (.string old.f0):=hck 0 (by decide)
       have fk0:wr.frozen? ⟨b,kk * 6,none⟩=false:=HRd.out.free _
       have cm1:wr.cell? ⟨b,(kp+1) * 6+(q+1) * 6+1,none⟩=some (.string xu.f1):=by have:=hcm 1 (by decide);rwa [show (kp+1+(q+1)) * 6+1=(kp+1) * 6+(q+1) * 6+1 by omega] at this
       have cq1:wr.cell? ⟨b,(kp+1) * 6+q * 6+1,none⟩=some (.string xv.f1):=by have:=hcq 1 (by decide);rwa [show (kp+1+q) * 6+1=(kp+1) * 6+q * 6+1 by omega] at this
       have ck1:wr.cell? ⟨b,kk * 6+1,none⟩=some (.string old.f1):=hck 1 (by decide)
       have fk1:wr.frozen? ⟨b,kk * 6+1,none⟩=false:=HRd.out.free _
       have cm2:wr.cell? ⟨b,(kp+1) * 6+(q+1) * 6+2,none⟩=some (.int .i64 xu.f2.f0):=by have:=hcm 2 (by decide);rwa [show (kp+1+(q+1)) * 6+2=(kp+1) * 6+(q+1) * 6+2 by omega] at this
       have cq2:wr.cell? ⟨b,(kp+1) * 6+q * 6+2,none⟩=some (.int .i64 xv.f2.f0):=by have:=hcq 2 (by decide);rwa [show (kp+1+q) * 6+2=(kp+1) * 6+q * 6+2 by omega] at this
       have ck2:wr.cell? ⟨b,kk * 6+2,none⟩=some (.int .i64 old.f2.f0):=hck 2 (by decide)
       have fk2:wr.frozen? ⟨b,kk * 6+2,none⟩=false:=HRd.out.free _
       have cm3:wr.cell? ⟨b,(kp+1) * 6+(q+1) * 6+3,none⟩=some (.int .i64 xu.f2.f1):=by have:=hcm 3 (by decide);rwa [show (kp+1+(q+1)) * 6+3=(kp+1) * 6+(q+1) * 6+3 by omega] at this
       have cq3:wr.cell? ⟨b,(kp+1) * 6+q * 6+3,none⟩=some (.int .i64 xv.f2.f1):=by have:=hcq 3 (by decide);rwa [show (kp+1+q) * 6+3=(kp+1) * 6+q * 6+3 by omega] at this
       have ck3:wr.cell? ⟨b,kk * 6+3,none⟩=some (.int .i64 old.f2.f1):=hck 3 (by decide)
       have fk3:wr.frozen? ⟨b,kk * 6+3,none⟩=false:=HRd.out.free _
       have cm4:wr.cell? ⟨b,(kp+1) * 6+(q+1) * 6+4,none⟩=some (.int .i64 xu.f2.f2):=by have:=hcm 4 (by decide);rwa [show (kp+1+(q+1)) * 6+4=(kp+1) * 6+(q+1) * 6+4 by omega] at this
       have cq4:wr.cell? ⟨b,(kp+1) * 6+q * 6+4,none⟩=some (.int .i64 xv.f2.f2):=by have:=hcq 4 (by decide);rwa [show (kp+1+q) * 6+4=(kp+1) * 6+q * 6+4 by omega] at this
       have ck4:wr.cell? ⟨b,kk * 6+4,none⟩=some (.int .i64 old.f2.f2):=hck 4 (by decide)
       have fk4:wr.frozen? ⟨b,kk * 6+4,none⟩=false:=HRd.out.free _
       have cm5:wr.cell? ⟨b,(kp+1) * 6+(q+1) * 6+5,none⟩=some (.string xu.f2.f3):=by have:=hcm 5 (by decide);rwa [show (kp+1+(q+1)) * 6+5=(kp+1) * 6+(q+1) * 6+5 by omega] at this
       have cq5:wr.cell? ⟨b,(kp+1) * 6+q * 6+5,none⟩=some (.string xv.f2.f3):=by have:=hcq 5 (by decide);rwa [show (kp+1+q) * 6+5=(kp+1) * 6+q * 6+5 by omega] at this
       have ck5:wr.cell? ⟨b,kk * 6+5,none⟩=some (.string old.f2.f3):=hck 5 (by decide)
       have fk5:wr.frozen? ⟨b,kk * 6+5,none⟩=false:=HRd.out.free _
       clear hcm hcq hck hxu hxv
       have wq:IntKind.i64.wrap (q:Int)=(q:Int):=by rw [IntWalk.i64_in _ ⟨by omega,by omega⟩]
       have jq:(q:Int)+1<((d.size - (kp+1):Nat):Int):=by omega
       have jq1:(q:Int)<((d.size - (kp+1):Nat):Int):=by omega
       have pq:(0:Int)≤(q:Int)+1:=by omega
       have eq:((q:Int)+1).toNat=q+1:=by omega
       have jk:(kk:Int)<(d.size:Int):=by omega
       by_cases hd2:xu=xv
       ·have du:decide (xu=xv)=true:=decide_eq_true hd2
        go_wp2_with (fail)
        go_quiet (fail)
        go_wp2_with (fail)
        go_roundg (d.size - (kp+1+(q+1+1)))
        case measure => omega
        case rel => exact ⟨kk,q+1+1,dk,rfl,by go_num,by omega,by omega,Nat.le_refl _,⟨HRd.out.blk⟩,below_drewR HBd.out _,HI.out.skip (Lib.keeps_neg (by omega) (by rw [HXU.out,show kp+1+(q+1) - 1=kp+1+q by omega,HXV.out];exact hd2))⟩
       ·have du:decide (xu=xv)=false:=decide_eq_false hd2
        go_wp2_with (fail)
        go_quiet (fail)
        go_wp2_with (fail)
        go_roundg (d.size - (kp+1+(q+1+1)))
        case measure => omega
        case rel =>
         have hp:=HRd.out.put encB_len kk (by simp;omega) xu
         have hi:=HI.out.keep (by omega) (Lib.keeps_pos (by rw [HXU.out,show kp+1+(q+1) - 1=kp+1+q by omega,HXV.out];exact hd2))
         rw [HXU.out] at hi
         refine ⟨kk+1,q+1+1,dk.setIfInBounds kk xu,by go_num,by go_num,by omega,by omega,Nat.le_refl _,?_,?_,hi⟩
         ·show Rw _ _ _ _ _ _
          rw [Array.toList_setIfInBounds]
          exact ⟨hp.blk⟩
         ·first|exact putL_below hb (encB xu) (kk * 6) _ (below_drewR HBd.out _)|exact (putL_below hb (encB xu) (kk * 6) _ (below_drewR HBd.out _)).drew
      ·have hend:kp+1+k2=d.size:=by omega
       have dl2:¬ (k2:Int)<((d.size - (kp+1):Nat):Int):=by omega
       have hzb:kk * 6+(d.size - kk) * 6≤(flatR encB dk.toList++z).toArray.size:=by
        show _≤(flatR encB dk.toList++z).length
        rw [List.length_append,flatR_length encB_len]
        simp only [Array.length_toList]
        omega
       obtain ⟨zs,hzl,hcl⟩:=clear_runB wr b (kk * 6) (d.size - kk) (c - kk) _ (by omega) HRd.out.blk hzb
       have HZL:=Lib.hid hzl
       have jk:(0:Int)≤(kk:Int)∧(kk:Int)≤(d.size:Int):=⟨by omega,by omega⟩
       have jk1:(kk:Int)≤(c:Int):=by omega
       clear hzb hzl
       go_wp2_with (fail)
       go_ret
       rw [hend] at HI
       have hcut:=HRd.out.cut encB_len kk (by simp;omega) zs (by rw [HZL.out];simp [hds])
       rw [comp_takeB HI.out] at hcut
       have hlen:(cpB d).length=kk:=HI.out.len
       rw [hlen]
       exact ⟨rfl,⟨_,hcut⟩,putL_below hb zs (kk * 6) _ HBd.out⟩
    ·have dd:decide (xj=xp)=false:=decide_eq_false hdup
     go_wp2_with (fail)
     go_quiet (fail)
     go_wp2_with (fail)
     go_roundg (d.size - (kp+1+1))
     case measure => omega
     case rel =>
      refine ⟨kp+1+1,by omega,by omega,Nat.le_refl _,by go_num,⟨HRk.out.blk⟩,below_drewR HBk.out _,fun j hj => ?_⟩
      by_cases e:j=kp+1
      ·subst e
       exact Lib.keeps_pos (by rw [HXJ.out,Nat.add_sub_cancel,HXP.out];exact hdup)
      ·exact HA.out j (by omega)
   ·have hke:k=d.size:=by omega
    subst hke
    have E:=Lib.hid (HALL.out HA.out)
    have dl:¬ (d.size:Int)<(d.size:Int):=by omega
    go_wp2_with (fail)
    go_ret
    rw [E.out]
    exact ⟨by simp,⟨z,HRk.out⟩,HBk.out⟩
end Go.Proofs.YtjiidlkkkednoaaGreatDoor.Q
end
section
namespace Go.Proofs.YtjiidlkkkednoaaGreatDoor.Q
open Go.RowKit Go.Shelf Go.Proofs.YtjiidlkkkednoaaGreatDoorW.PrintWords
set_option maxHeartbeats 1000000 in
theorem insB_nil (w:World):Calls Tryz.prog 138 #[.slice none 0 0,.int .i64 0,.int .i64 0,.func (.func 48) #[] #[]] w fun r w' => r=.returned (.tuple #[])∧w'=w:=by
 go_enter Tryz.func138,Tryz.ntmps138
 go_wp2_with (fail)
 refine wp_loop_rounds 1 ?_
 rw [rounds_succ]
 go_wp2_with (fail)
 go_end0
 exact ⟨rfl,rfl⟩
set_option maxHeartbeats 1000000 in
theorem stabB_nil (w:World):Calls Tryz.prog 120 #[.slice none 0 0,.int .i64 0,.func (.func 48) #[] #[]] w fun r w' => r=.returned (.tuple #[])∧w'=w:=by
 go_enter Tryz.func120,Tryz.ntmps120
 go_wp2_with (fail)
 refine wp_loop_rounds 1 ?_
 rw [rounds_succ]
 go_wp2_with (go_at_call 138;refine (insB_nil _).mono ?_;rintro e w1 ⟨rfl,rfl⟩)
 refine wp_loop_rounds 1 ?_
 rw [rounds_succ]
 go_wp2_with (fail)
 go_end0
 exact ⟨rfl,rfl⟩
set_option maxHeartbeats 1000000 in
theorem stableB_nil (w:World):Calls Tryz.prog 85 #[.slice none 0 0,.func (.func 48) #[] #[]] w fun r w' => r=.returned (.tuple #[])∧w'=w:=by
 go_enter Tryz.func85,Tryz.ntmps85
 go_wp2_with (go_at_call 120;refine (stabB_nil _).mono ?_;rintro e w1 ⟨rfl,rfl⟩)
 go_end0
 exact ⟨rfl,rfl⟩
set_option maxHeartbeats 1000000 in
theorem compactB_nil (w:World):Calls Tryz.prog 87 #[.slice none 0 0] w fun r w' => r=.returned (.slice none 0 0)∧w'=w:=by
 go_enter Tryz.func87,Tryz.ntmps87
 go_wp2_with (fail)
 go_ret
 exact ⟨rfl,rfl⟩
def normB (cf:S48→S48→Int) (l:List S48):List S48:=cpB (sortedB cf l.toArray)
theorem normB_nil (cf:S48→S48→Int):normB cf []=[]:=by
 have e:sortedB cf #[]=#[]:=by unfold sortedB Sort.insertionSort;exact insO_stop _ _ _ _ _ (by simp)
 unfold normB
 rw [e]
 rfl
theorem cpB_le (d:Array S48):(cpB d).length≤d.size:=by
 unfold cpB Lib.compactUpTo
 rw [List.length_map]
 exact Nat.le_trans (List.length_filter_le _ _) (by simp)
def HasB (w:World) (base:Nat) (v:Value) (l:List S48):Prop :=
 (v=.slice none 0 0∧l=[])∨∃ g c z,v=.slice (some ⟨g,0,none⟩) l.length c∧base≤g∧l.length≤c∧Rw encB 48 w g l z
theorem rw_readsB {w:World} {g:Nat} {l:List S48} {z:List Value} (h:Rw encB 48 w g l z) (hl:l.length≤1000000):Kd.C k48 w (some ⟨g,0,none⟩) l.length l:=by
 refine ⟨rfl,by omega,fun _ => ⟨_,rfl,fun j p hp => ⟨_,rfl,k48_mk w p,fun i u hu => ?_⟩⟩⟩
 have hj:j<l.length:=(List.getElem?_eq_some_iff.1 hp).1
 have hi:i<6:=(List.getElem?_eq_some_iff.1 hu).1
 have e:=h.cell encB_len j i hj hi
 have e2:l[j]=p:=(List.getElem?_eq_some_iff.1 hp).2
 rw [e2] at e
 rw [show k48.sz=6 from rfl,add_plain,e]
 exact hu
theorem HasB.reads {w:World} {base:Nat} {v:Value} {l:List S48} (h:HasB w base v l) (hl:l.length≤1000000):∃ A c,v=.slice A l.length c∧l.length≤c∧Kd.C k48 w A l.length l:=by
 rcases h with ⟨rfl,rfl⟩|⟨g,c,z,rfl,_,hc,hr⟩
 ·exact ⟨none,0,rfl,Nat.le_refl _,rfl,by simp,fun h => by simp at h⟩
 ·exact ⟨_,c,rfl,hc,rw_readsB hr hl⟩
theorem HasB.below {w w':World} {base:Nat} {v:Value} {l:List S48} (h:HasB w base v l) (hb:Below w.heap.size w w'):HasB w' base v l:=by
 rcases h with h|⟨g,c,z,e,h1,h2,h3⟩
 ·exact .inl h
 ·exact .inr ⟨g,c,z,e,h1,h2,h3.below hb⟩
theorem HasB.lower {w:World} {base base':Nat} {v:Value} {l:List S48} (h:HasB w base v l) (hb:base'≤base):HasB w base' v l:=by
 rcases h with h|⟨g,c,z,e,h1,h2,h3⟩
 ·exact .inl h
 ·exact .inr ⟨g,c,z,e,Nat.le_trans hb h1,h2,h3⟩
theorem HasB.put {w:World} {base:Nat} {v:Value} {l:List S48} (h:HasB w base v l) {q i:Nat} (hq:q<base) (u:Value):HasB (w.setCell ⟨q,i,none⟩ u) base v l:=by
 rcases h with h|⟨g,c,z,e,h1,h2,h3⟩
 ·exact .inl h
 ·exact .inr ⟨g,c,z,e,h1,h2,⟨h3.blk.far (p:=⟨q,i,none⟩) (by simp only;omega) u⟩⟩
theorem CmpB.on {w w1:World} {Ok:S48→Prop} {cf:S48→S48→Int} (h:CmpB w Ok cf) (hb:Below w.heap.size w w1):CmpB w1 Ok cf :=
 fun x y hx hy W hW => h x y hx hy W (below_then hb hb.size hW)
set_option maxHeartbeats 2000000 in
theorem sortB_calls (w:World) {Ok:S48→Prop} {cf:S48→S48→Int} (hC:CmpB w Ok cf) (A:Option Addr) (c:Nat) (l:List S48) (h:Kd.C k48 w A l.length l) (hc:l.length≤c) (hn:l.length≤20) (hok:∀ x ∈ l,Ok x) :
  Calls Tryz.prog 47 #[.slice A l.length c,.func (.func 48) #[] #[]] w fun e w' => ∃ v,e=.returned v∧HasB w' w.heap.size v (normB cf l)∧Below w.heap.size w w':=by
 have H1:=Lib.hid (cloneB_calls w A c l h hc (by omega))
 have HC:=Lib.hid hC
 have hoa:∀ i,i<l.toArray.size→Ok l.toArray[i]!:=fun i hi => by
  rw [getElem!_pos _ i hi]
  exact hok _ (by simp)
 have HOK:=Lib.hid hoa
 clear hC h hok hoa
 go_enter Tryz.func47,Tryz.ntmps47
 go_wp2_with (go_at_call 84;refine H1.out.mono ?_;rintro e w1 ⟨v,rfl,hv,hb1⟩;have HV:=Lib.hid hv;have HB1:=Lib.hid hb1;clear hv hb1)
 rcases own_rwB HV.out with ⟨rfl,rfl⟩|⟨g,cap,z,rfl,hg,hcap,hr⟩
 ·go_wp2_with (first|(go_at_call 85;refine (stableB_nil _).mono ?_;rintro e w2 ⟨rfl,rfl⟩)|(go_at_call 87;refine (compactB_nil _).mono ?_;rintro e w2 ⟨rfl,rfl⟩)|(go_at_call 86;refine (clipB_calls _ none 0 0 (Nat.le_refl _)).mono ?_;rintro e w2 ⟨rfl,rfl⟩))
  go_ret
  exact ⟨_,rfl,.inl ⟨rfl,normB_nil cf⟩,HB1.out⟩
 ·have hs:=stableB_calls HC.out w1 g cap l.toArray z HB1.out hg hr HOK.out (by simpa using hn)
  simp only [List.size_toArray] at hs
  have HS:=Lib.hid hs
  have HG:=Lib.hid hg
  have HCAP:=Lib.hid hcap
  clear hr hs hg hcap
  go_wp2_with (go_at_call 85;refine HS.out.mono ?_;rintro e w2 ⟨rfl,hr2,hb2,-,hz2⟩;have HR2:=Lib.hid hr2;have HB2:=Lib.hid hb2;have HZ2:=Lib.hid hz2;clear hr2 hb2 hz2)
  have hk:=compactB_calls w2 g cap (sortedB cf l.toArray) z HB2.out HG.out HR2.out (by rw [HZ2.out];omega) (by rw [HZ2.out];exact HCAP.out)
  have hle:(cpB (sortedB cf l.toArray)).length≤l.length:=by rw [← HZ2.out];exact cpB_le _
  rw [HZ2.out] at hk
  have HK:=Lib.hid hk
  have HLE:=Lib.hid hle
  clear hk hle
  have hnm:cpB (sortedB cf l.toArray)=normB cf l:=rfl
  rw [hnm] at HK HLE
  clear hnm
  generalize hnm:normB cf l=m at *
  have HN:=Lib.hid hnm
  clear hnm
  go_wp2_with (first|(go_at_call 87;refine HK.out.mono ?_;rintro e w3 ⟨rfl,hr3,hb3⟩;have HR3:=Lib.hid hr3;have HB3:=Lib.hid hb3;clear hr3 hb3)|(go_at_call 86;refine (clipB_calls _ _ m.length cap (Nat.le_trans HLE.out HCAP.out)).mono ?_;rintro e w4 ⟨rfl,rfl⟩))
  go_ret
  obtain ⟨z',hz'⟩:=HR3.out
  rw [HN.out]
  exact ⟨_,rfl,.inr ⟨g,m.length,z',rfl,HG.out,Nat.le_refl _,hz'⟩,HB3.out⟩
end Go.Proofs.YtjiidlkkkednoaaGreatDoor.Q
end
