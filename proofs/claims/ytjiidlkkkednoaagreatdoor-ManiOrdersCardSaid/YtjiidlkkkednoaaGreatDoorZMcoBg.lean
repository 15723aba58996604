import Derived.Test.YtjiidlkkkednoaaGreatDoorZMsiAg
import Derived.Test.YtjiidlkkkednoaaGreatDoorZR1g
import Derived.Test.YtjiidlkkkednoaaGreatDoorZBaseg
import Derived.Deep.RegionHeld3
import Derived.Lib.SliceRun
import Derived.Test.YtjiidlkkkednoaaGreatDoorZR0g
import Derived.Lib.SlicesCompact
set_option linter.unusedVariables false
set_option linter.unusedSimpArgs false
section
namespace Go.Proofs.YtjiidlkkkednoaaGreatDoor.Q
open Go.RowKit Go.Proofs.YtjiidlkkkednoaaGreatDoorW.PrintWords
def encB (x:S48):List Value:=[.string x.f0,.string x.f1,.int .i64 x.f2.f0,.int .i64 x.f2.f1,.int .i64 x.f2.f2,.string x.f2.f3]
theorem encB_len (x:S48):(encB x).length=6:=rfl
instance:Inhabited S48:=⟨z48⟩
def CmpB (w0:World) (Ok:S48→Prop) (cf:S48→S48→Int):Prop :=
 ∀ x y,Ok x→Ok y→∀ W,Below w0.heap.size w0 W→Calls Tryz.prog 48 #[.agg #[.string x.f0,.string x.f1,.int .i64 x.f2.f0,.int .i64 x.f2.f1,.int .i64 x.f2.f2,.string x.f2.f3],.agg #[.string y.f0,.string y.f1,.int .i64 y.f2.f0,.int .i64 y.f2.f1,.int .i64 y.f2.f2,.string y.f2.f3]] W fun e w' => e=.returned (.int .i64 (cf x y))∧Below W.heap.size W w'
def ltB (cf:S48→S48→Int) (x y:S48):Bool:=decide (cf x y<0)
theorem ok_swpB {Ok:S48→Prop} {d:Array S48} (h:∀ i,i<d.size→Ok d[i]!) (i j:Nat) (hi:i<d.size) (hj:j<d.size):∀ m,m<(Sort.swp d i j).size→Ok (Sort.swp d i j)[m]!:=by
 intro m hm
 have hm':m<d.size:=by simpa [Sort.swp] using hm
 have e:(Sort.swp d i j)[m]! = if m=j then d[i]! else if m=i then d[j]! else d[m]!:=by
  simp only [Sort.swp]
  rw [getElem!_pos _ m (by simpa using hm'),Array.getElem_setIfInBounds (by simpa using hm')]
  by_cases h1:j=m
  ·rw [if_pos h1,if_pos h1.symm]
  ·rw [if_neg h1,if_neg (fun e => h1 e.symm),Array.getElem_setIfInBounds hm']
   by_cases h2:i=m
   ·rw [if_pos h2,if_pos h2.symm]
   ·rw [if_neg h2,if_neg (fun e => h2 e.symm),getElem!_pos d m hm']
 rw [e]
 repeat' split
 ·exact h i hi
 ·exact h j hj
 ·exact h m hm'
theorem keepIB {wr W W':World} {b J K:Nat} {xj xp:S48} (h:W.cell? ⟨b,J,none⟩=some (.string xj.f0)∧W.cell? ⟨b,K,none⟩=some (.string xp.f0)∧W.cell? ⟨b,J+1,none⟩=some (.string xj.f1)∧W.cell? ⟨b,K+1,none⟩=some (.string xp.f1)∧W.cell? ⟨b,J+2,none⟩=some (.int .i64 xj.f2.f0)∧W.cell? ⟨b,K+2,none⟩=some (.int .i64 xp.f2.f0)∧W.cell? ⟨b,J+3,none⟩=some (.int .i64 xj.f2.f1)∧W.cell? ⟨b,K+3,none⟩=some (.int .i64 xp.f2.f1)∧W.cell? ⟨b,J+4,none⟩=some (.int .i64 xj.f2.f2)∧W.cell? ⟨b,K+4,none⟩=some (.int .i64 xp.f2.f2)∧W.cell? ⟨b,J+5,none⟩=some (.string xj.f2.f3)∧W.cell? ⟨b,K+5,none⟩=some (.string xp.f2.f3)∧Below wr.heap.size wr W) (hk:Below W.heap.size W W') :
  W'.cell? ⟨b,J,none⟩=some (.string xj.f0)∧W'.cell? ⟨b,K,none⟩=some (.string xp.f0)∧W'.cell? ⟨b,J+1,none⟩=some (.string xj.f1)∧W'.cell? ⟨b,K+1,none⟩=some (.string xp.f1)∧W'.cell? ⟨b,J+2,none⟩=some (.int .i64 xj.f2.f0)∧W'.cell? ⟨b,K+2,none⟩=some (.int .i64 xp.f2.f0)∧W'.cell? ⟨b,J+3,none⟩=some (.int .i64 xj.f2.f1)∧W'.cell? ⟨b,K+3,none⟩=some (.int .i64 xp.f2.f1)∧W'.cell? ⟨b,J+4,none⟩=some (.int .i64 xj.f2.f2)∧W'.cell? ⟨b,K+4,none⟩=some (.int .i64 xp.f2.f2)∧W'.cell? ⟨b,J+5,none⟩=some (.string xj.f2.f3)∧W'.cell? ⟨b,K+5,none⟩=some (.string xp.f2.f3)∧Below wr.heap.size wr W':=by
 obtain ⟨j0,p0,j1,p1,j2,p2,j3,p3,j4,p4,j5,p5,hb⟩:=h
 exact ⟨pw_cell_below hk j0,pw_cell_below hk p0,pw_cell_below hk j1,pw_cell_below hk p1,pw_cell_below hk j2,pw_cell_below hk p2,pw_cell_below hk j3,pw_cell_below hk p3,pw_cell_below hk j4,pw_cell_below hk p4,pw_cell_below hk j5,pw_cell_below hk p5,below_then hb hb.size hk⟩
set_option maxHeartbeats 4000000 in
set_option maxRecDepth 100000 in
theorem insB_calls {w0:World} {Ok:S48→Prop} {cf:S48→S48→Int} (hC:CmpB w0 Ok cf) (w:World) (b c a e:Nat) (d:Array S48) (z:List Value)
  (hB:Below w0.heap.size w0 w) (hb:w0.heap.size≤b) (hR:Rw encB 48 w b d.toList z) (hok:∀ i,i<d.size→Ok d[i]!) (hae:a≤e) (he:e≤d.size) (hsz:d.size≤1000000) :
  Calls Tryz.prog 138 #[.slice (some ⟨b,0,none⟩) d.size c,.int .i64 a,.int .i64 e,.func (.func 48) #[] #[]] w fun r w' =>
   r=.returned (.tuple #[])∧Rw encB 48 w' b (Sort.insertionSort (ltB cf) d a e).toList z∧Below w0.heap.size w0 w'∧(∀ i,i<(Sort.insertionSort (ltB cf) d a e).size→Ok (Sort.insertionSort (ltB cf) d a e)[i]!)∧(Sort.insertionSort (ltB cf) d a e).size=d.size:=by
 have HC:=Lib.hid hC
 have HB:=Lib.hid hB
 have HR:=Lib.hid hR
 have HOK:=Lib.hid hok
 clear hC hB hR hok
 have hu:=Tryz.underlying48
 go_enter Tryz.func138,Tryz.ntmps138
 go_wp2_with (fail)
 go_loopg [8] (e - a) (fun g1 vi wr => ∃ (i:Nat) (dk:Array S48),vi=.int .i64 i∧a<i∧i≤e+1∧e+1 - i≤g1+1∧dk.size=d.size∧Hid (Rw encB 48 wr b dk.toList z)∧Hid (Below w0.heap.size w0 wr)∧Hid (∀ i,i<dk.size→Ok dk[i]!)∧Hid (Sort.insOuter (ltB cf) a e i dk=Sort.insOuter (ltB cf) a e (a+1) d))
 case atStart => exact ⟨a+1,d,by go_num,by omega,by omega,by omega,rfl,HR.out,HB.out,HOK.out,rfl⟩
 case round =>
  obtain ⟨i,dk,rfl,hai,hib,hg1,hsk,HRk,HBk,HOKk,HO⟩:=hrel
  by_cases hlt:i<e
  ·have hltz:(i:Int)<(e:Int):=by omega
   go_wp2_with (fail)
   go_loopg [9] i (fun g2 vj wr2 => ∃ (j:Nat) (dj:Array S48),vj=.int .i64 j∧a≤j∧j≤i∧j≤g2∧dj.size=d.size∧Hid (Rw encB 48 wr2 b dj.toList z)∧Hid (Below w0.heap.size w0 wr2)∧Hid (∀ i,i<dj.size→Ok dj[i]!)∧Hid (Sort.insInner (ltB cf) a j dj=Sort.insInner (ltB cf) a i dk))
   case atStart => exact ⟨i,dk,rfl,by omega,Nat.le_refl _,Nat.le_refl _,hsk,HRk.out,HBk.out,HOKk.out,rfl⟩
   case round =>
    obtain ⟨j,dj,rfl,haj,hji,hg2,hsj,HRj,HBj,HOKj,HI⟩:=hrel
    have out:(j≤a∨ltB cf dj[j]! dj[j - 1]! = false)→Hid (Sort.insOuter (ltB cf) a e (i+1) dj=Sort.insOuter (ltB cf) a e (a+1) d):=fun hs => by
     show _=_
     rw [← HO.out,insO_go _ _ _ _ _ hlt,← HI.out,insI_stop _ _ _ _ hs]
    have OUT:Aside _:=out
    clear out
    by_cases hja:a<j
    ·have hjaz:(a:Int)<(j:Int):=by omega
     obtain ⟨jp,rfl⟩:∃ jp,j=jp+1:=⟨j - 1,by omega⟩
     have hjs:jp+1<dj.size:=by omega
     have hcj:=HRj.out.cellA encB_len (jp+1) (by omega)
     have hcp:=HRj.out.cellA encB_len jp (by omega)
     have hxo:=HOKj.out (jp+1) hjs
     have hpo:=HOKj.out jp (by omega)
     generalize hxj:dj[jp+1]! = xj at *
     generalize hxp:dj[jp]! = xp at *
     have HX:=Lib.hid hxo
     have HP:=Lib.hid hpo
     have HXJ:=Lib.hid hxj
     have HXP:=Lib.hid hxp
     have cj0:wr.cell? ⟨b,(jp+1) * 6,none⟩=some (.string xj.f0):=hcj 0 (by decide)
     have cp0:wr.cell? ⟨b,jp * 6,none⟩=some (.string xp.f0):=hcp 0 (by decide)
     have cj1:wr.cell? ⟨b,(jp+1) * 6+1,none⟩=some (.string xj.f1):=hcj 1 (by decide)
     have cp1:wr.cell? ⟨b,jp * 6+1,none⟩=some (.string xp.f1):=hcp 1 (by decide)
     have cj2:wr.cell? ⟨b,(jp+1) * 6+2,none⟩=some (.int .i64 xj.f2.f0):=hcj 2 (by decide)
     have cp2:wr.cell? ⟨b,jp * 6+2,none⟩=some (.int .i64 xp.f2.f0):=hcp 2 (by decide)
     have cj3:wr.cell? ⟨b,(jp+1) * 6+3,none⟩=some (.int .i64 xj.f2.f1):=hcj 3 (by decide)
     have cp3:wr.cell? ⟨b,jp * 6+3,none⟩=some (.int .i64 xp.f2.f1):=hcp 3 (by decide)
     have cj4:wr.cell? ⟨b,(jp+1) * 6+4,none⟩=some (.int .i64 xj.f2.f2):=hcj 4 (by decide)
     have cp4:wr.cell? ⟨b,jp * 6+4,none⟩=some (.int .i64 xp.f2.f2):=hcp 4 (by decide)
     have cj5:wr.cell? ⟨b,(jp+1) * 6+5,none⟩=some (.string xj.f2.f3):=hcj 5 (by decide)
     have cp5:wr.cell? ⟨b,jp * 6+5,none⟩=some (.string xp.f2.f3):=hcp 5 (by decide)
     clear hcj hcp hxo hpo hxj hxp
     have hwp:IntKind.i64.wrap (jp:Int)=(jp:Int):=by rw [IntWalk.i64_in _ ⟨by omega,by omega⟩]
     have jz:(jp:Int)+1<(d.size:Int):=by omega
     have jz1:(jp:Int)<(d.size:Int):=by omega
     have hjaz':(a:Int)<(jp:Int)+1:=by omega
     have dja:decide ((a:Int)<(jp:Int)+1)=true:=decide_eq_true hjaz'
     have p0:(0:Int)≤(jp:Int)+1:=by omega
     have e0:((jp:Int)+1).toNat=jp+1:=by omega
     go_wp2_with (fail)
     go_cut [34] (fun x wx => x=.bool (decide (cf xj xp<0))∧Hid (Below wr.heap.size wr wx))
     case first =>
      go_region_held3 (fun w' => w'.cell? ⟨b,(jp+1) * 6,none⟩=some (.string xj.f0)∧w'.cell? ⟨b,jp * 6,none⟩=some (.string xp.f0)∧w'.cell? ⟨b,(jp+1) * 6+1,none⟩=some (.string xj.f1)∧w'.cell? ⟨b,jp * 6+1,none⟩=some (.string xp.f1)∧w'.cell? ⟨b,(jp+1) * 6+2,none⟩=some (.int .i64 xj.f2.f0)∧w'.cell? ⟨b,jp * 6+2,none⟩=some (.int .i64 xp.f2.f0)∧w'.cell? ⟨b,(jp+1) * 6+3,none⟩=some (.int .i64 xj.f2.f1)∧w'.cell? ⟨b,jp * 6+3,none⟩=some (.int .i64 xp.f2.f1)∧w'.cell? ⟨b,(jp+1) * 6+4,none⟩=some (.int .i64 xj.f2.f2)∧w'.cell? ⟨b,jp * 6+4,none⟩=some (.int .i64 xp.f2.f2)∧w'.cell? ⟨b,(jp+1) * 6+5,none⟩=some (.string xj.f2.f3)∧w'.cell? ⟨b,jp * 6+5,none⟩=some (.string xp.f2.f3)∧Below wr.heap.size wr w')
       (first|exact hkk|exact ⟨cj0,cp0,cj1,cp1,cj2,cp2,cj3,cp3,cj4,cp4,cj5,cp5,(Below.refl _ _).drew⟩)
       (first|(go_at_call 48;have hbz:=HBj.out.drew;refine (HC.out xj xp HX.out HP.out _ hbz).mono ?_;rintro e w1 ⟨rfl,hbk⟩;have hkk:=keepIB (wr:=wr) (W:=wr.drew) ⟨cj0,cp0,cj1,cp1,cj2,cp2,cj3,cp3,cj4,cp4,cj5,cp5,(Below.refl _ _).drew⟩ hbk;have HBEL:=Lib.hid (below_then (Below.refl wr.heap.size wr).drew (Below.refl wr.heap.size wr).drew.size hbk)))
      all_goals go_wp2_with (fail)
      all_goals go_meet
      all_goals exact ⟨rfl,HBEL.out⟩
     case rest =>
      obtain ⟨rfl,HBx⟩:=hcut
      have HRx:=Lib.hid (HRj.out.below HBx.out)
      have HBy:=Lib.hid (below_then HBj.out HBj.out.size HBx.out)
      clear cj0 cp0 cj1 cp1 cj2 cp2 cj3 cp3 cj4 cp4 cj5 cp5
      have hcj:=HRx.out.cellA encB_len (jp+1) (by omega)
      have hcp:=HRx.out.cellA encB_len jp (by omega)
      rw [HXJ.out] at hcj
      rw [HXP.out] at hcp
      have cj0:wc.cell? ⟨b,(jp+1) * 6,none⟩=some (.string xj.f0):=hcj 0 (by decide)
      have cp0:wc.cell? ⟨b,jp * 6,none⟩=some (.string xp.f0):=hcp 0 (by decide)
      have fj0:wc.frozen? ⟨b,(jp+1) * 6,none⟩=false:=HRx.out.free _
      have fp0:wc.frozen? ⟨b,jp * 6,none⟩=false:=HRx.out.free _
      have cj1:wc.cell? ⟨b,(jp+1) * 6+1,none⟩=some (.string xj.f1):=hcj 1 (by decide)
      have cp1:wc.cell? ⟨b,jp * 6+1,none⟩=some (.string xp.f1):=hcp 1 (by decide)
      have fj1:wc.frozen? ⟨b,(jp+1) * 6+1,none⟩=false:=HRx.out.free _
      have fp1:wc.frozen? ⟨b,jp * 6+1,none⟩=false:=HRx.out.free _
      have cj2:wc.cell? ⟨b,(jp+1) * 6+2,none⟩=some (.int .i64 xj.f2.f0):=hcj 2 (by decide)
      have cp2:wc.cell? ⟨b,jp * 6+2,none⟩=some (.int .i64 xp.f2.f0):=hcp 2 (by decide)
      have fj2:wc.frozen? ⟨b,(jp+1) * 6+2,none⟩=false:=HRx.out.free _
      have fp2:wc.frozen? ⟨b,jp * 6+2,none⟩=false:=HRx.out.free _
      have cj3:wc.cell? ⟨b,(jp+1) * 6+3,none⟩=some (.int .i64 xj.f2.f1):=hcj 3 (by decide)
      have cp3:wc.cell? ⟨b,jp * 6+3,none⟩=some (.int .i64 xp.f2.f1):=hcp 3 (by decide)
      have fj3:wc.frozen? ⟨b,(jp+1) * 6+3,none⟩=false:=HRx.out.free _
      have fp3:wc.frozen? ⟨b,jp * 6+3,none⟩=false:=HRx.out.free _
      have cj4:wc.cell? ⟨b,(jp+1) * 6+4,none⟩=some (.int .i64 xj.f2.f2):=hcj 4 (by decide)
      have cp4:wc.cell? ⟨b,jp * 6+4,none⟩=some (.int .i64 xp.f2.f2):=hcp 4 (by decide)
      have fj4:wc.frozen? ⟨b,(jp+1) * 6+4,none⟩=false:=HRx.out.free _
      have fp4:wc.frozen? ⟨b,jp * 6+4,none⟩=false:=HRx.out.free _
      have cj5:wc.cell? ⟨b,(jp+1) * 6+5,none⟩=some (.string xj.f2.f3):=hcj 5 (by decide)
      have cp5:wc.cell? ⟨b,jp * 6+5,none⟩=some (.string xp.f2.f3):=hcp 5 (by decide)
      have fj5:wc.frozen? ⟨b,(jp+1) * 6+5,none⟩=false:=HRx.out.free _
      have fp5:wc.frozen? ⟨b,jp * 6+5,none⟩=false:=HRx.out.free _
      clear hcj hcp
      by_cases hlv:cf xj xp<0
      ·have dlv:decide (cf xj xp<0)=true:=decide_eq_true hlv
       go_wp2_with (fail)
       go_region
       all_goals (try go_wp2_with (fail))
       go_roundg jp
       case measure => omega
       case rel =>
        refine ⟨jp,Sort.swp dj (jp+1) jp,rfl,by omega,by omega,Nat.le_refl _,by simp [Sort.swp];omega,?_,?_,ok_swpB HOKj.out _ _ (by omega) (by omega),?_⟩
        ·have h:=HRx.out.swp encB_len (jp+1) jp (by omega) (by omega)
         rw [HXJ.out,HXP.out] at h
         exact h.drew
        ·have h:=putL_below hb (encB xj) (jp * 6) _ (putL_below hb (encB xp) ((jp+1) * 6) _ HBy.out)
         exact h.drew
        ·show _=_
         rw [← HI.out,insI_go (ltB cf) a (jp+1) dj hja (by rw [Nat.add_sub_cancel,HXJ.out,HXP.out];exact dlv)]
         rfl
      ·have dlv:decide (cf xj xp<0)=false:=decide_eq_false hlv
       go_wp2_with (fail)
       go_roundg (e - (i+1))
       case measure => omega
       case rel => exact ⟨i+1,dj,by go_num,by omega,by omega,by omega,hsj,HRx.out,HBy.out,HOKj.out,OUT.out (Or.inr (by rw [Nat.add_sub_cancel,HXP.out];exact dlv))⟩
    ·have hjaz:¬ (a:Int)<(j:Int):=by omega
     have dja:decide ((a:Int)<(j:Int))=false:=decide_eq_false hjaz
     go_wp2_with (fail)
     go_quiet (fail)
     go_wp2_with (fail)
     go_roundg (e - (i+1))
     case measure => omega
     case rel => exact ⟨i+1,dj,by go_num,by omega,by omega,by omega,hsj,⟨HRj.out.blk⟩,below_drewR HBj.out _,HOKj.out,OUT.out (Or.inl (by omega))⟩
  ·have hltz:¬ (i:Int)<(e:Int):=by omega
   go_wp2_with (fail)
   go_end0
   have he1:Sort.insertionSort (ltB cf) d a e=dk:=by unfold Sort.insertionSort;rw [← HO.out,insO_stop _ _ _ _ _ hlt]
   rw [he1]
   exact ⟨rfl,HRk.out,HBk.out,HOKk.out,hsk⟩
end Go.Proofs.YtjiidlkkkednoaaGreatDoor.Q
end
section
namespace Go.Proofs.YtjiidlkkkednoaaGreatDoor.Q
open Go.RowKit Go.Proofs.YtjiidlkkkednoaaGreatDoorW.PrintWords
def sortedB (cf:S48→S48→Int) (d:Array S48):Array S48:=Sort.insertionSort (ltB cf) d 0 d.size
section
variable {w0:World} {Ok:S48→Prop} {cf:S48→S48→Int}
set_option maxHeartbeats 4000000 in
set_option maxRecDepth 100000 in
theorem stabB_calls (hC:CmpB w0 Ok cf) (w:World) (b c:Nat) (d:Array S48) (z:List Value)
  (hB:Below w0.heap.size w0 w) (hb:w0.heap.size≤b) (hR:Rw encB 48 w b d.toList z) (hok:∀ i,i<d.size→Ok d[i]!) (hsz:d.size≤20) :
  Calls Tryz.prog 120 #[.slice (some ⟨b,0,none⟩) d.size c,.int .i64 d.size,.func (.func 48) #[] #[]] w fun r w' =>
   r=.returned (.tuple #[])∧Rw encB 48 w' b (sortedB cf d).toList z∧Below w0.heap.size w0 w'∧(∀ i,i<(sortedB cf d).size→Ok (sortedB cf d)[i]!)∧(sortedB cf d).size=d.size:=by
 have c1:=insB_calls hC w b c 0 d.size d z hB hb hR hok (Nat.zero_le _) (Nat.le_refl _) (by omega)
 by_cases h20:d.size<20
 ·have HC1:=Lib.hid c1
  clear c1 hR hok
  have d0:¬ (20:Int)≤(d.size:Int):=by omega
  have d1:¬ (20:Int)<(d.size:Int):=by omega
  go_enter Tryz.func120,Tryz.ntmps120
  go_wp2_with (fail)
  refine wp_loop_rounds 1 ?_
  rw [rounds_succ]
  go_wp2_with (go_at_call 138;refine HC1.out.mono ?_;rintro e w1 ⟨rfl,hp⟩;have HP:=Lib.hid hp;clear hp)
  refine wp_loop_rounds 1 ?_
  rw [rounds_succ]
  go_wp2_with (fail)
  go_end0
  exact ⟨rfl,HP.out⟩
 ·have hd:d.size=20:=by omega
  have c2:∀ w1 (d1:Array S48),d1.size=20→Below w0.heap.size w0 w1→Rw encB 48 w1 b d1.toList z→(∀ i,i<d1.size→Ok d1[i]!)→Calls Tryz.prog 138 #[.slice (some ⟨b,0,none⟩) 20 c,.int .i64 20,.int .i64 20,.func (.func 48) #[] #[]] w1 fun r w' =>
    r=.returned (.tuple #[])∧Rw encB 48 w' b d1.toList z∧Below w0.heap.size w0 w':=fun w1 d1 hd1 hB1 hR1 ho1 => by
   have:=insB_calls hC w1 b c 20 20 d1 z hB1 hb hR1 ho1 (by omega) (by omega) (by omega)
   rw [hd1] at this
   refine this.mono ?_
   rintro e w' ⟨h1,h2,h3,-⟩
   have e1:Sort.insertionSort (ltB cf) d1 20 20=d1:=by unfold Sort.insertionSort;exact insO_stop _ _ _ _ _ (by omega)
   rw [e1] at h2
   exact ⟨h1,h2,h3⟩
  unfold sortedB
  rw [hd] at c1 ⊢
  have HC1:=Lib.hid c1
  have HC2:=Lib.hid c2
  have HD:=Lib.hid hd
  clear c1 c2 hR hok hd hsz h20
  go_enter Tryz.func120,Tryz.ntmps120
  go_wp2_with (fail)
  refine wp_loop_rounds 2 ?_
  rw [rounds_succ]
  go_wp2_with (go_at_call 138;refine HC1.out.mono ?_;rintro e w1 ⟨rfl,hp1,hp2,hp3,hp4⟩;have HP:=Lib.hid hp1;have HPB:=Lib.hid hp2;have HPO:=Lib.hid hp3;have HPS:=Lib.hid hp4;clear hp1 hp2 hp3 hp4)
  rw [rounds_succ]
  go_wp2_with (go_at_call 138;refine (HC2.out _ _ HPS.out HPB.out HP.out HPO.out).mono ?_;rintro e w2 ⟨rfl,hp1,hp2⟩;have HP1:=Lib.hid hp1;have HPB1:=Lib.hid hp2;clear hp1 hp2)
  refine wp_loop_rounds 1 ?_
  rw [rounds_succ]
  go_wp2_with (fail)
  go_end0
  exact ⟨rfl,HP1.out,HPB1.out,HPO.out,HPS.out⟩
set_option maxHeartbeats 1000000 in
theorem stableB_calls (hC:CmpB w0 Ok cf) (w:World) (b c:Nat) (d:Array S48) (z:List Value)
  (hB:Below w0.heap.size w0 w) (hb:w0.heap.size≤b) (hR:Rw encB 48 w b d.toList z) (hok:∀ i,i<d.size→Ok d[i]!) (hsz:d.size≤20) :
  Calls Tryz.prog 85 #[.slice (some ⟨b,0,none⟩) d.size c,.func (.func 48) #[] #[]] w fun r w' =>
   r=.returned (.tuple #[])∧Rw encB 48 w' b (sortedB cf d).toList z∧Below w0.heap.size w0 w'∧(∀ i,i<(sortedB cf d).size→Ok (sortedB cf d)[i]!)∧(sortedB cf d).size=d.size:=by
 have HC1:=Lib.hid (stabB_calls hC w b c d z hB hb hR hok hsz)
 clear hR hok
 go_enter Tryz.func85,Tryz.ntmps85
 go_wp2_with (go_at_call 120;refine HC1.out.mono ?_;rintro e w1 ⟨rfl,hp⟩;have HP:=Lib.hid hp;clear hp)
 go_end0
 exact ⟨rfl,HP.out⟩
end
set_option maxHeartbeats 1000000 in
theorem clipB_calls (w:World) (A:Option Addr) (n c:Nat) (hn:n≤c) :
  Calls Tryz.prog 86 #[.slice A n c] w fun r w' => r=.returned (.slice A n n)∧w'=w:=by
 have d0:(0:Int)≤(n:Int)∧(n:Int)≤(c:Int):=⟨by omega,by omega⟩
 go_enter Tryz.func86,Tryz.ntmps86
 go_wp2_with (fail)
 go_ret
 exact ⟨rfl,rfl⟩
end Go.Proofs.YtjiidlkkkednoaaGreatDoor.Q
end
section
namespace Go.Proofs.YtjiidlkkkednoaaGreatDoor.Q
open Go.RowKit Go.Shelf Go.Proofs.YtjiidlkkkednoaaGreatDoorW.PrintWords
theorem infoRB:(Tryz.prog.info? 48).map (fun i => (i.zero,i.size,i.bytes))=some (some (.agg #[(.string ⟨#[]⟩),(.string ⟨#[]⟩),(.int .i64 0),(.int .i64 0),(.int .i64 0),(.string ⟨#[]⟩)]),6,72):=by kernel_rfl
theorem encB_one (l:List S48):∀ u ∈ flatR encB l,u.oneCell'=true:=by
 intro u hu
 obtain ⟨x,_,hx⟩:=List.mem_flatMap.1 hu
 simp only [encB,List.mem_cons,List.not_mem_nil,or_false] at hx
 rcases hx with rfl|rfl|rfl|rfl|rfl|rfl <;> rfl
theorem reads_flatB {w:World} {ad:Addr} {n:Nat} {l:List S48} (h:Kd.C k48 w (some ad) n l) (j:Nat) (u:Value) (hj:(flatR encB l)[j]?=some u):w.cell? (ad.add j)=some u:=by
 have hl:j<(flatR encB l).length:=(List.getElem?_eq_some_iff.1 hj).1
 rw [flatR_length encB_len] at hl
 have hi:j / 6<l.length:=by omega
 have hm:j % 6<6:=Nat.mod_lt _ (by decide)
 have e:j=j / 6 * 6+j % 6:=by omega
 rw [e,flatR_get encB_len l (j / 6) (j % 6) hi hm] at hj
 have hn:0<n:=by have:=h.1;omega
 obtain ⟨ad',ha,hc⟩:=h.2.2 hn
 cases ha
 obtain ⟨c,_,hk,hcell⟩:=hc (j / 6) l[j / 6] (List.getElem?_eq_getElem hi)
 obtain rfl:=k48_open hk
 rw [e]
 exact hcell (j % 6) u hj
set_option maxHeartbeats 1000000 in
theorem cloneB_calls (w:World) (A:Option Addr) (c:Nat) (l:List S48) (h:Kd.C k48 w A l.length l) (hc:l.length≤c) (hn:l.length≤100000) :
  Calls Tryz.prog 84 #[.slice A l.length c] w fun e w' => ∃ v,e=.returned v∧w'.ownsRow w.heap.size 48 6 v l.length (flatR encB l)∧Below w.heap.size w w':=by
 have qn:∀ (w:World) (a:Option Addr) (n c n' c':Nat),(binOp .eql 25 (.slice a n c) (.slice none n' c')).run Tryz.prog w=.ok (.bool a.isNone) w:=fun w a n c n' c' => Lib.run_eql_slice_nil w _ _ a n c n' c' Tryz.underlying25
 cases A with
 | none =>
  have:l=[]:=by
   cases l with
   | nil => rfl
   | cons x l =>
    obtain ⟨ad,e,_⟩:=h.2.2 (by simp)
    cases e
  subst this
  clear h
  go_enter Tryz.func84,Tryz.ntmps84
  go_wp2_with (fail)
  go_ret
  exact ⟨_,rfl,own_nil _ _ _ _,Below.refl _ _⟩
 | some ad =>
  have HC:Hid (∀ j u,(flatR encB l)[j]?=some u→w.cell? (ad.add j)=some u):=Lib.hid (reads_flatB h)
  clear h
  obtain ⟨i0,hi,hz0,hz1,hz2⟩:=info_parts infoRB
  go_enter Tryz.func84,Tryz.ntmps84
  go_wp2_with (at_builtin;refine wpList_append_own _ rfl _ _ 25 rfl w.heap.size 48 i0 (.agg #[(.string ⟨#[]⟩),(.string ⟨#[]⟩),(.int .i64 0),(.int .i64 0),(.int .i64 0),(.string ⟨#[]⟩)]) 6 72 Tryz.underlying25 hi hz0 hz1 hz2 rfl (by decide) _ _ _ rfl (World.ownsRow_made w #[] 0 (Nat.le_refl _) (Nat.zero_le _) rfl) ad l.length c (flatR encB l) rfl ?qc1 ?qc2 ?qc3 ?qc4 ?qc5 ?qc6 ?_)
  case qc1 => exact flatR_length encB_len l
  case qc2 =>
   intro j u hj
   exact Lib.cell?_alloc_some _ (HC.out j u hj)
  case qc3 => exact encB_one l
  case qc4 => unfold maxLen;omega
  case qc5 => omega
  case qc6 => simp
  intro v' w1 hown hgrow hnil
  go_wp2
  go_ret
  refine ⟨v',rfl,by simpa using hown,?_⟩
  exact ((Below.refl _ w).alloc (Nat.le_refl _) _).grown hgrow (by simp) (by intro k hk;simp [Value.ownBlock] at hk;omega)
theorem own_rwB {w:World} {base:Nat} {v:Value} {l:List S48} (h:w.ownsRow base 48 6 v l.length (flatR encB l)) :
  (v=.slice none 0 0∧l=[])∨∃ g cap z,v=.slice (some ⟨g,0,none⟩) l.length cap∧base≤g∧l.length≤cap∧Rw encB 48 w g l z:=by
 obtain ⟨h1,h2⟩:=h
 rcases h2 with ⟨rfl,h2⟩|⟨q,cap,cs,rfl,hb,hh,hle,hcap,hs,ht⟩
 ·exact .inl ⟨rfl,List.eq_nil_of_length_eq_zero h2⟩
 ·refine .inr ⟨q,cap,cs.toList.drop (l.length * 6),rfl,hb,hle,⟨?_⟩⟩
  have e:(flatR encB l++cs.toList.drop (l.length * 6)).toArray=cs:=by
   rw [← ht,List.take_append_drop]
  rw [e]
  exact hh
end Go.Proofs.YtjiidlkkkednoaaGreatDoor.Q
end
section
namespace Go.Proofs.YtjiidlkkkednoaaGreatDoor.Q
open Go.RowKit Go.Shelf Go.Proofs.YtjiidlkkkednoaaGreatDoorW.PrintWords Go.Proofs.YtjiidlkkkednoaaGreatDoorW.PrintLast Go.Proofs.YtjiidlkkkednoaaGreatDoorW.PrintMore
theorem extB (x y:S48):(x.f0=y.f0∧x.f1=y.f1∧x.f2.f0=y.f2.f0∧x.f2.f1=y.f2.f1∧x.f2.f2=y.f2.f2∧x.f2.f3=y.f2.f3)↔x=y:=by
 constructor
 ·rintro ⟨h0,h1,h2,h3,h4,h5⟩
  obtain ⟨a0,a1,⟨a2,a3,a4,a5⟩⟩:=x
  obtain ⟨b0,b1,⟨b2,b3,b4,b5⟩⟩:=y
  simp only at h0 h1 h2 h3 h4 h5
  subst h0 h1 h2 h3 h4 h5
  rfl
 ·rintro rfl
  exact ⟨rfl,rfl,rfl,rfl,rfl,rfl⟩
instance decB:DecidableEq S48:=fun x y => decidable_of_iff _ (extB x y)
theorem eqVB (d:Nat) (w:World) (x y:S43) :
  (Op.equalIn (d+2) 43 (.agg #[.int .i64 x.f0,.int .i64 x.f1,.int .i64 x.f2,.string x.f3]) (.agg #[.int .i64 y.f0,.int .i64 y.f1,.int .i64 y.f2,.string y.f3])).run Tryz.prog w=.ok (x.f0 == y.f0 && (x.f1 == y.f1 && (x.f2 == y.f2 && (x.f3.toList == y.f3.toList)))) w:=by
 refine eqA_of Tryz.underlying43 (by kernel_rfl) ?_
 refine eqf_cons (by rfl) (by go_simp;rfl) (by go_simp;rfl) (by go_simp) ?_
 refine eqf_cons (by rfl) (by go_simp;rfl) (by go_simp;rfl) (by go_simp) ?_
 refine eqf_cons (by rfl) (by go_simp;rfl) (by go_simp;rfl) (by go_simp) ?_
 exact eqf_last (by rfl) (by go_simp;rfl) (by go_simp;rfl) (by go_simp)
theorem sl_eq (x y:ByteArray):(x.toList == y.toList)=decide (x=y):=by
 rw [Bool.eq_iff_iff]
 simp only [beq_iff_eq,decide_eq_true_eq,ByteArray.toList_eq]
 exact ⟨ext_bs,fun h => by rw [h]⟩
theorem il_eq (x y:Int):(x == y)=decide (x=y):=by
 rw [Bool.eq_iff_iff]
 simp
theorem eqRB (d:Nat) (w:World) (x y:S48) :
  (Op.equalIn (d+3) 48 (.agg #[.string x.f0,.string x.f1,.int .i64 x.f2.f0,.int .i64 x.f2.f1,.int .i64 x.f2.f2,.string x.f2.f3]) (.agg #[.string y.f0,.string y.f1,.int .i64 y.f2.f0,.int .i64 y.f2.f1,.int .i64 y.f2.f2,.string y.f2.f3])).run Tryz.prog w=.ok (decide (x=y)) w:=by
 have e:((x.f0.toList == y.f0.toList) && (x.f1.toList == y.f1.toList) && (x.f2.f0 == y.f2.f0) && (x.f2.f1 == y.f2.f1) && (x.f2.f2 == y.f2.f2) && (x.f2.f3.toList == y.f2.f3.toList))=decide (x=y):=by
  simp only [sl_eq,il_eq,← Bool.decide_and,and_assoc]
  exact decide_eq_decide.2 (extB x y)
 rw [← e]
 simp only [Bool.and_assoc]
 refine eqA_of Tryz.underlying48 (by kernel_rfl) ?_
 refine eqf_cons (by rfl) (by go_simp;rfl) (by go_simp;rfl) (by go_simp) ?_
 refine eqf_cons (by rfl) (by go_simp;rfl) (by go_simp;rfl) (by go_simp) ?_
 exact eqf_last (by rfl) (by go_simp) (by go_simp) (eqVB d w _ _)
end Go.Proofs.YtjiidlkkkednoaaGreatDoor.Q
end
