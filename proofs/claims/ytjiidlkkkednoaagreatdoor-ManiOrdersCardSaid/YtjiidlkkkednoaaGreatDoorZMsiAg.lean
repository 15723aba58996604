import Derived.Test.YtjiidlkkkednoaaGreatDoorZBaseg
import Derived.Sort.Defs
import Derived.Laws.IdiomCopy
import Derived.Test.YtjiidlkkkednoaaGreatDoorZMpmg
import Derived.Test.YtjiidlkkkednoaaGreatDoorZR1g
import Derived.Deep.RegionHeld3
set_option linter.unusedVariables false
set_option linter.unusedSimpArgs false
section
namespace Go.Proofs.YtjiidlkkkednoaaGreatDoor.Q
open Go.RowKit
def putL (W:World) (b o:Nat):List Value→World
 | [] => W
 | v :: vs => putL (W.setCell ⟨b,o,none⟩ v) b (o+1) vs
theorem set_mid {α:Type} (P S:List α) (x v:α):(P++x :: S).set P.length v=(P++[v])++S:=by
 rw [List.set_append_right _ _ (Nat.le_refl _),Nat.sub_self]
 simp
theorem putL_blk {b:Nat} {t:TypeId}:∀ (vs xs P S:List Value) (W:World),vs.length=xs.length→Blk W b t (P++xs++S).toArray→Blk (putL W b P.length vs) b t (P++vs++S).toArray
 | [],[],P,S,W,_,h => h
 | v :: vs,x :: xs,P,S,W,hl,h => by
  have h1:=h.put P.length v
  have e:(P++(x :: xs)++S).toArray.setIfInBounds P.length v=((P++[v])++xs++S).toArray:=by
   rw [List.setIfInBounds_toArray,List.append_assoc,List.cons_append,set_mid]
   simp
  rw [e] at h1
  have:=putL_blk vs xs (P++[v]) S _ (by simpa using hl) h1
  have e2:(P++[v]).length=P.length+1:=by simp
  rw [e2] at this
  have e3:P++[v]++vs++S=P++(v :: vs)++S:=by simp
  rw [e3] at this
  exact this
 | [],_ :: _,_,_,_,hl,_ => by simp at hl
 | _ :: _,[],_,_,_,hl,_ => by simp at hl
theorem below_drewR {B:Nat} {w W:World} (h:Below B w W) (n:Nat):Below B w (W.drewN n):=⟨h.os,h.tape,h.output,h.size,h.block⟩
theorem putL_below {B b:Nat} {w:World} (hb:B≤b):∀ (vs:List Value) (o:Nat) (W:World),Below B w W→Below B w (putL W b o vs)
 | [],_,_,h => h
 | v :: vs,o,W,h => putL_below hb vs (o+1) _ (h.setCell (p:=⟨b,o,none⟩) hb v)
variable {α:Type} {enc:α→List Value} {k:Nat} {t:TypeId}
def flatR (enc:α→List Value) (l:List α):List Value:=l.flatMap enc
theorem flatR_length (hk:∀ x,(enc x).length=k) (l:List α):(flatR enc l).length=l.length * k:=by
 induction l with
 | nil => simp [flatR]
 | cons x l ih =>
  have:flatR enc (x :: l)=enc x++flatR enc l:=rfl
  rw [this,List.length_append,ih,hk,List.length_cons,Nat.succ_mul,Nat.add_comm]
theorem flatR_append (a b:List α):flatR enc (a++b)=flatR enc a++flatR enc b:=by simp [flatR]
theorem flatR_split (l:List α) (i:Nat) (h:i<l.length):flatR enc l=flatR enc (l.take i)++enc l[i]++flatR enc (l.drop (i+1)):=by
 have e:l=l.take i++l[i] :: l.drop (i+1):=by rw [← List.drop_eq_getElem_cons h,List.take_append_drop]
 have e2:flatR enc l=flatR enc (l.take i++l[i] :: l.drop (i+1)):=congrArg _ e
 rw [e2,flatR_append]
 simp only [flatR,List.flatMap_cons,List.append_assoc]
theorem flatR_set (l:List α) (i:Nat) (h:i<l.length) (y:α):flatR enc (l.set i y)=flatR enc (l.take i)++enc y++flatR enc (l.drop (i+1)):=by
 rw [List.set_eq_take_append_cons_drop,if_pos h,flatR_append]
 simp [flatR]
theorem flatR_get (hk:∀ x,(enc x).length=k) (l:List α) (i j:Nat) (hi:i<l.length) (hj:j<k):(flatR enc l)[i * k+j]?=(enc l[i])[j]?:=by
 rw [flatR_split l i hi]
 have e:(flatR enc (l.take i)).length=i * k:=by rw [flatR_length hk,List.length_take,Nat.min_eq_left (by omega)]
 rw [List.append_assoc,List.getElem?_append_right (by omega),e,Nat.add_sub_cancel_left,List.getElem?_append_left (by rw [hk];exact hj)]
structure Rw (enc:α→List Value) (t:TypeId) (W:World) (b:Nat) (l:List α) (z:List Value):Prop where
 blk:Blk W b t (flatR enc l++z).toArray
variable {W:World} {b:Nat} {l:List α} {z:List Value}
theorem Rw.free (h:Rw enc t W b l z) (o:Nat):W.frozen? ⟨b,o,none⟩=false:=h.blk.unfrozen o
theorem Rw.cell (hk:∀ x,(enc x).length=k) (h:Rw enc t W b l z) (i j:Nat) (hi:i<l.length) (hj:j<k):W.cell? ⟨b,i * k+j,none⟩=(enc l[i])[j]?:=by
 rw [h.blk.cell,List.getElem?_toArray,flatR_split l i hi]
 have e:(flatR enc (l.take i)).length=i * k:=by rw [flatR_length hk,List.length_take,Nat.min_eq_left (by omega)]
 rw [List.append_assoc,List.append_assoc,List.getElem?_append_right (by omega),e,Nat.add_sub_cancel_left,List.getElem?_append_left (by rw [hk];exact hj)]
theorem Rw.drew (h:Rw enc t W b l z):Rw enc t W.drew b l z:=⟨h.blk⟩
theorem Rw.below {W':World} (h:Rw enc t W b l z) (hb:Below W.heap.size W W'):Rw enc t W' b l z:=⟨h.blk.below hb⟩
theorem Rw.put (hk:∀ x,(enc x).length=k) (h:Rw enc t W b l z) (i:Nat) (hi:i<l.length) (y:α):Rw enc t (putL W b (i * k) (enc y)) b (l.set i y) z:=by
 have h1:=h.blk
 have e:(flatR enc (l.take i)).length=i * k:=by rw [flatR_length hk,List.length_take,Nat.min_eq_left (by omega)]
 rw [flatR_split l i hi,List.append_assoc] at h1
 have h2:=putL_blk (enc y) (enc l[i]) _ _ W (by rw [hk,hk]) h1
 rw [e] at h2
 refine ⟨?_⟩
 rw [flatR_set l i hi,List.append_assoc]
 exact h2
theorem bang [Inhabited α] (d:Array α) (i:Nat) (h:i<d.toList.length):d.toList[i]=d[i]!:=by
 rw [getElem!_pos d i (by simpa using h)]
 simp
theorem Rw.cellA [Inhabited α] {d:Array α} (hk:∀ x,(enc x).length=k) (h:Rw enc t W b d.toList z) (i:Nat) (hi:i<d.size) (j:Nat) (hj:j<k):W.cell? ⟨b,i * k+j,none⟩=(enc d[i]!)[j]?:=by
 rw [h.cell hk i j (by simpa using hi) hj,bang]
theorem Rw.cut (hk:∀ x,(enc x).length=k) (h:Rw enc t W b l z) (i:Nat) (hi:i≤l.length) (zs:List Value) (hz:zs.length=(l.length - i) * k):Rw enc t (putL W b (i * k) zs) b (l.take i) (zs++z):=by
 have h1:=h.blk
 have e:flatR enc l=flatR enc (l.take i)++flatR enc (l.drop i):=by rw [← flatR_append,List.take_append_drop]
 rw [e] at h1
 have h2:=putL_blk zs (flatR enc (l.drop i)) (flatR enc (l.take i)) z W (by rw [hz,flatR_length hk,List.length_drop]) h1
 rw [flatR_length hk,List.length_take,Nat.min_eq_left hi] at h2
 refine ⟨?_⟩
 rw [← List.append_assoc]
 exact h2
theorem putL_set:∀ (vs:List Value) (o:Nat) (W:World),putL W b o vs=W.setCells b o vs
 | [],_,_ => rfl
 | v :: vs,o,W => putL_set vs (o+1) _
theorem Rw.swp [Inhabited α] {d:Array α} (hk:∀ x,(enc x).length=k) (h:Rw enc t W b d.toList z) (i j:Nat) (hi:i<d.size) (hj:j<d.size) :
  Rw enc t (putL (putL W b (i * k) (enc d[j]!)) b (j * k) (enc d[i]!)) b (Sort.swp d i j).toList z:=by
 have h1:=h.put hk i (by simpa using hi) d[j]!
 have h2:=h1.put hk j (by simpa using hj) d[i]!
 have e:(Sort.swp d i j).toList=(d.toList.set i d[j]!).set j d[i]!:=by simp [Sort.swp]
 rw [e]
 exact h2
section
variable {β:Type} [Inhabited β] (lt:β→β→Bool)
theorem insI_go (a j:Nat) (d:Array β) (hj:a<j) (hl:lt d[j]! d[j - 1]! = true):Sort.insInner lt a j d=Sort.insInner lt a (j - 1) (Sort.swp d j (j - 1)):=by
 obtain ⟨i,rfl⟩:∃ i,j=i+1:=⟨j - 1,by omega⟩
 rw [Sort.insInner,if_pos (by simpa using ⟨by omega,hl⟩)]
 rfl
theorem insI_stop (a j:Nat) (d:Array β) (h:j≤a∨lt d[j]! d[j - 1]! = false):Sort.insInner lt a j d=d:=by
 cases j with
 | zero => rw [Sort.insInner]
 | succ i =>
  rw [Sort.insInner,if_neg]
  rcases h with h|h
  ·simp;omega
  ·simp only [Nat.add_sub_cancel] at h
   simp [h]
theorem insO_go (a b i:Nat) (d:Array β) (h:i<b):Sort.insOuter lt a b i d=Sort.insOuter lt a b (i+1) (Sort.insInner lt a i d):=by rw [Sort.insOuter,if_pos h]
theorem insO_stop (a b i:Nat) (d:Array β) (h:¬ i<b):Sort.insOuter lt a b i d=d:=by rw [Sort.insOuter,if_neg h]
end
end Go.Proofs.YtjiidlkkkednoaaGreatDoor.Q
end
section
namespace Go.Proofs.YtjiidlkkkednoaaGreatDoor.Q
open Go.RowKit Go.Proofs.YtjiidlkkkednoaaGreatDoorW.PrintWords
def cellsS (l:List (List UInt8)):List Value:=l.map fun x => Value.string (bs x)
theorem full_str (x:List UInt8):(bs x).toList.isEmpty=!fullW x:=by
 rw [toList_bs]
 cases x <;> rfl
set_option maxHeartbeats 1000000 in
theorem none_calls (x:List UInt8) (w:World) :
  Calls Tryz.prog 68 #[.string (bs x)] w fun e w' => e=.returned (.bool (!fullW x))∧Drawn0 w w':=by
 have hx:=full_str x
 generalize hb:(!fullW x)=b at *
 have HB:=Lib.hid hb
 clear hb
 go_enter Tryz.func68,Tryz.ntmps68
 go_wp2_with (fail)
 go_ret
 exact ⟨rfl,Drawn0.refl _⟩
section
variable (w:World)
set_option maxHeartbeats 2000000 in
theorem first_calls (q c:Nat) (l:List (List UInt8)) (hl:StrsAt w q l) (hb:l.length≤1000000) :
  Calls Tryz.prog 103 #[.slice (some ⟨q,0,none⟩) l.length c,.func (.func 68) #[] #[]] w
   fun e w' => ((∃ r:Nat,e=.returned (.int .i64 r)∧(l.take r).all fullW=true∧∃ h:r<l.length,fullW l[r]=false)∨(e=.returned (.int .i64 (-1))∧l.all fullW=true))∧Drawn0 w w':=by
 have HL:=Lib.hid hl
 clear hl
 go_enter Tryz.func103,Tryz.ntmps103
 go_wp2_with (fail)
 go_loopg [5,8] (l.length) (fun q' _ i wr => ∃ j:Nat,q'=l.length - j∧j≤l.length∧i=.int .i64 j∧(l.take j).all fullW=true∧Drawn0 w wr)
 case atStart => exact ⟨0,by omega,Nat.zero_le _,rfl,rfl,Drawn0.refl _⟩
 case round =>
  obtain ⟨j,rfl,hj,rfl,he,hd⟩:=hrel
  obtain ⟨nn,hn⟩:=hd
  subst hn
  have HE:=Lib.hid he
  clear he
  by_cases hlt:j<l.length
  ·have c0:(w.drewN nn).cell? ⟨q,j,none⟩=some (.string (bs l[j])):=HL.out j hlt
   have HT:=Lib.hid (List.take_succ_eq_append_getElem hlt)
   generalize hy:l[j]=y at *
   have HY:=Lib.hid hy
   clear hy
   go_wp2_with (fail)
   refine (none_calls y _).mono ?_
   rintro e w1 ⟨rfl,hd1⟩
   obtain ⟨n1,hn1⟩:=hd1
   subst hn1
   cases hq:fullW y with
   | false =>
    have HQ:=Lib.hid hq
    clear hq
    go_wp2_with (fail)
    go_ret
    exact ⟨.inl ⟨j,rfl,HE.out,hlt,by rw [HY.out];exact HQ.out⟩,⟨_,rfl⟩⟩
   | true =>
    have HQ:=Lib.hid hq
    clear hq
    go_wp2_with (fail)
    go_roundg (l.length - (j+1))
    case measure => omega
    case rel =>
     refine ⟨j+1,rfl,by omega,rfl,?_,⟨_,rfl⟩⟩
     rw [HT.out,List.all_append,HE.out]
     simp only [List.all_cons,List.all_nil,HQ.out,Bool.and_true]
  ·have he:=HE.out
   rw [List.take_of_length_le (by omega)] at he
   have HE2:=Lib.hid he
   clear he
   go_wp2_with (fail)
   go_ret
   exact ⟨.inr ⟨rfl,HE2.out⟩,⟨_,rfl⟩⟩
end
structure DelInv (l rows:List (List UInt8)) (j i:Nat):Prop where
 len:rows.length=l.length
 le:j≤l.length
 lt:i<j
 front:rows.take i=(l.take j).filter fullW
 back:rows.drop j=l.drop j
theorem filter_full {l:List (List UInt8)} (h:l.all fullW=true):l.filter fullW=l:=List.filter_eq_self.2 (by simpa using h)
theorem DelInv.start {l:List (List UInt8)} {r:Nat} (h:r<l.length) (ha:(l.take r).all fullW=true) (hn:fullW l[r]=false):DelInv l l (r+1) r:=by
 refine ⟨rfl,by omega,Nat.lt_succ_self _,?_,rfl⟩
 rw [List.take_succ_eq_append_getElem h,List.filter_append,filter_full ha,List.filter_cons_of_neg (by simp [hn])]
 simp
theorem DelInv.at_ {l rows:List (List UInt8)} {j i:Nat} (h:DelInv l rows j i) (hj:j<l.length):∃ h2:j<rows.length,rows[j]=l[j]:=by
 have h2:j<rows.length:=by rw [h.len];exact hj
 refine ⟨h2,?_⟩
 have e:=congrArg (fun x => x[0]?) h.back
 simp only [List.getElem?_drop,Nat.add_zero,List.getElem?_eq_getElem h2,List.getElem?_eq_getElem hj] at e
 exact Option.some.inj e
theorem DelInv.skip {l rows:List (List UInt8)} {j i:Nat} (h:DelInv l rows j i) (hj:j<l.length) (hn:fullW l[j]=false):DelInv l rows (j+1) i:=by
 refine ⟨h.len,by omega,by have:=h.lt;omega,?_,?_⟩
 ·rw [List.take_succ_eq_append_getElem hj,List.filter_append,h.front,List.filter_cons_of_neg (by simp [hn])]
  simp
 ·have e:=congrArg List.tail h.back
  rwa [List.tail_drop,List.tail_drop] at e
theorem DelInv.keep {l rows:List (List UInt8)} {j i:Nat} (h:DelInv l rows j i) (hj:j<l.length) (hn:fullW l[j]=true):DelInv l (rows.set i l[j]) (j+1) (i+1):=by
 have hi:i<rows.length:=by have:=h.lt;have:=h.len;omega
 refine ⟨by rw [List.length_set];exact h.len,by omega,by have:=h.lt;omega,?_,?_⟩
 ·rw [List.take_succ_eq_append_getElem (by rw [List.length_set];exact hi),List.take_set_of_le (Nat.le_refl _),h.front,List.getElem_set_self,List.take_succ_eq_append_getElem hj,List.filter_append,List.filter_cons_of_pos hn]
  simp
 ·rw [List.drop_set_of_lt (by have:=h.lt;omega)]
  have e:=congrArg List.tail h.back
  rwa [List.tail_drop,List.tail_drop] at e
theorem cellsS_len (l:List (List UInt8)):(cellsS l).length=l.length:=by simp [cellsS]
theorem cellsS_cell {W:World} {q:Nat} {t:TypeId} {l:List (List UInt8)} (h:Blk W q t (cellsS l).toArray) (j:Nat) (hj:j<l.length):W.cell? ⟨q,j,none⟩=some (.string (bs l[j])):=by
 rw [h.cell]
 simp [cellsS,hj]
theorem cellsS_set (l:List (List UInt8)) (i:Nat) (y:List UInt8):(cellsS l).toArray.setIfInBounds i (.string (bs y))=(cellsS (l.set i y)).toArray:=by
 simp [cellsS,List.map_set]
theorem clear_runS (w:World) (b o n c:Nat) (cs:Array Value) (hn:0<n) (hb:Blk w b 9 cs) (ho:o+n≤cs.size) :
  ∃ zs:List Value,zs.length=n∧∀ ty,(Builtin.clear_ #[41] ty #[.slice (some ⟨b,o,none⟩) n c]).run Tryz.prog w=.ok (.tuple #[]) (putL w b o zs):=by
 have hl:(Builtin.zeroCells #[(.string ⟨#[]⟩)] n).toList.length=n:=by simp [Builtin.zeroCells]
 have h1:∀ v ∈ (Builtin.zeroCells #[(.string ⟨#[]⟩)] n).toList,v.oneCell'=true:=by
  intro v hv
  simp only [Builtin.zeroCells,Array.toList_map,List.mem_map] at hv
  obtain ⟨i,_,rfl⟩:=hv
  have hs:(#[(.string ⟨#[]⟩)]:Array Value).size=1:=rfl
  rw [hs]
  have:i % 1=0:=Nat.mod_one i
  simp only [this]
  rfl
 have hst:=run_storeCells_cells (P:=Tryz.prog) b o (Builtin.zeroCells #[(.string ⟨#[]⟩)] n).toList 0 w
  (fun j hj => by rw [hl] at hj;rw [hb.cell,Nat.add_zero,Array.getElem?_eq_getElem (by omega)];rfl) (fun j _ => hb.unfrozen _) h1
 refine ⟨(Builtin.zeroCells #[(.string ⟨#[]⟩)] n).toList,hl,fun ty => ?_⟩
 rw [Nat.add_zero] at hst
 rw [putL_set]
 have hv:=Tryz.zeroValue9
 have hu:=Tryz.underlying41
 generalize hzz:(Builtin.zeroCells #[(.string ⟨#[]⟩)] n).toList=zs at *
 obtain ⟨m,rfl⟩:∃ m,n=m+1:=⟨n - 1,by omega⟩
 simp [Builtin.clear_,run_underlying hu,hv,Value.cells,hzz,hst]
theorem putL_far {b:Nat}:∀ (zs:List Value) (o:Nat) (W:World) (q j:Nat),(q≠b∨j<o)→(putL W b o zs).cell? ⟨q,j,none⟩=W.cell? ⟨q,j,none⟩
 | [],_,_,_,_,_ => rfl
 | v :: vs,o,W,q,j,h => by
  show (putL (W.setCell ⟨b,o,none⟩ v) b (o+1) vs).cell? _=_
  rw [putL_far vs (o+1) _ q j (by omega)]
  exact World.cell?_setCell_other _ _ _ _ (by intro e;cases e;omega)
set_option maxHeartbeats 4000000 in
set_option maxRecDepth 100000 in
theorem del_calls {w0:World} (w:World) (q c:Nat) (l:List (List UInt8)) (hB:Below w0.heap.size w0 w) (hq:w0.heap.size≤q) (h:Blk w q 9 (cellsS l).toArray) (hb:l.length≤1000000) (hc:l.length≤c) :
  Calls Tryz.prog 67 #[.slice (some ⟨q,0,none⟩) l.length c,.func (.func 68) #[] #[]] w
   fun e w' => e=.returned (.slice (some ⟨q,0,none⟩) (l.filter fullW).length c)∧StrsAt w' q (l.filter fullW)∧Below w0.heap.size w0 w':=by
 have H1:=Lib.hid (first_calls w q c l (cellsS_cell h) hb)
 have H:=Lib.hid h
 have HB:=Lib.hid hB
 clear h hB
 go_enter Tryz.func67,Tryz.ntmps67
 go_wp2_with (fail)
 refine H1.out.mono ?_
 rintro e w1 ⟨hr,nn,rfl⟩
 rcases hr with ⟨r,rfl,ha,hr,hn⟩|⟨rfl,ha⟩
 ·have HI:=Lib.hid (DelInv.start hr ha hn)
  clear ha hn H1
  have rn:¬ (r:Int)=-1:=by omega
  have rb:((r:Int) == -1)=false:=by simp
  go_wp2_with (fail)
  go_loopg [5,6] (l.length) (fun g s5 s6 wr => ∃ (i j:Nat) (rows:List (List UInt8)),l.length - j≤g∧s5=.int .i64 i∧s6=.int .i64 j∧Hid (DelInv l rows j i)∧Hid (Blk wr q 9 (cellsS rows).toArray)∧Hid (Below w0.heap.size w0 wr))
  case atStart => exact ⟨r,r+1,l,by omega,rfl,by go_num,HI.out,H.out,below_drewR HB.out _⟩
  case round =>
   obtain ⟨i,j,rows,hg,rfl,rfl,HIj,HRj,HBj⟩:=hrel
   have hij:=HIj.out.lt
   have hjl:=HIj.out.le
   have hrl:=HIj.out.len
   by_cases hlt:j<l.length
   ·obtain ⟨h2,e2⟩:=HIj.out.at_ hlt
    have c0:=cellsS_cell HRj.out j h2
    rw [e2] at c0
    have HSK:=Lib.hid (fun h => HIj.out.skip hlt h)
    have HKP:=Lib.hid (fun h => HIj.out.keep hlt h)
    generalize l[j]=y at *
    clear e2
    have f0:wr.frozen? ⟨q,i,none⟩=false:=HRj.out.unfrozen i
    have ci:=cellsS_cell HRj.out i (by omega)
    generalize rows[i]=old at ci
    have jz:(j:Int)<(l.length:Int):=by omega
    have iz:(i:Int)<(l.length:Int):=by omega
    go_wp2_with (fail)
    refine (none_calls y _).mono ?_
    rintro e w1 ⟨rfl,hd1⟩
    obtain ⟨n1,hn1⟩:=hd1
    subst hn1
    cases hf:fullW y with
    | false =>
     have HF:=Lib.hid hf
     clear hf
     go_wp2_with (fail)
     go_roundg (l.length - (j+1))
     case measure => omega
     case rel => exact ⟨i,j+1,rows,Nat.le_refl _,rfl,by go_num,HSK.out HF.out,HRj.out,below_drewR HBj.out _⟩
    | true =>
     have HF:=Lib.hid hf
     clear hf
     go_wp2_with (fail)
     go_roundg (l.length - (j+1))
     case measure => omega
     case rel =>
      refine ⟨i+1,j+1,rows.set i y,Nat.le_refl _,by go_num,by go_num,HKP.out HF.out,?_,?_⟩
      ·rw [← cellsS_set]
       exact HRj.out.put i _
      ·first|exact ((below_drewR HBj.out _).setCell (p:=⟨q,i,none⟩) hq _)|exact (((below_drewR HBj.out _).setCell (p:=⟨q,i,none⟩) hq _)).drew
   ·have hje:j=l.length:=by omega
    subst hje
    have hfr:=HIj.out.front
    rw [List.take_length] at hfr
    obtain ⟨zs,hzl,hcl⟩:=clear_runS wr q i (l.length - i) (c - i) _ (by omega) HRj.out (by rw [List.size_toArray,cellsS_len];omega)
    have HZL:=Lib.hid hzl
    have HFR:=Lib.hid hfr
    have jk:(0:Int)≤(i:Int)∧(i:Int)≤(l.length:Int):=⟨by omega,by omega⟩
    have jk1:(i:Int)≤(c:Int):=by omega
    clear hzl hfr
    go_wp2_with (fail)
    go_ret
    have hlen:(l.filter fullW).length=i:=by rw [← HFR.out,List.length_take];omega
    refine ⟨by rw [hlen];rfl,fun k hk => ?_,putL_below hq zs i _ HBj.out⟩
    rw [putL_far zs i wr q k (.inr (by omega))]
    have hk2:k<rows.length:=by omega
    rw [cellsS_cell HRj.out k hk2]
    have e:(l.filter fullW)[k]=rows[k]:=by
     have e2:=congrArg (fun x => x[k]?) HFR.out
     simp only [List.getElem?_eq_getElem hk] at e2
     rw [List.getElem?_take_of_lt (by omega),List.getElem?_eq_getElem hk2] at e2
     exact (Option.some.inj e2).symm
    rw [e]
 ·have HF:=Lib.hid (filter_full ha)
  clear ha H1
  go_wp2_with (fail)
  go_ret
  rw [HF.out]
  exact ⟨rfl,cellsS_cell H.out,below_drewR HB.out _⟩
set_option maxHeartbeats 1000000 in
theorem words_callsM (w:World) (s:ByteArray) (hs:s.size≤900000) (hG:GL w) :
  Calls Tryz.prog 33 #[.string s] w fun e w' => ∃ q c,e=.returned (.slice (some ⟨q,0,none⟩) (wordsM s.data.toList).length c)∧w.heap.size≤q∧StrsAt w' q (wordsM s.data.toList)∧Below w.heap.size w w':=by
 have HC:=Lib.hid (strings_Clone.calls s s w (by unfold strings_Clone.f;rw [if_pos (by omega)]))
 have HG:=Lib.hid hG
 clear hG
 go_enter Tryz.func33,Tryz.ntmps33
 go_wp2_with (fail)
 refine HC.out.mono ?_
 rintro e w1 ⟨rfl,hb1⟩
 have HB1:=Lib.hid hb1
 have HS:=Lib.hid (split_calls w1 s 32 (by omega) (HG.out.below0 hb1))
 clear hb1
 go_wp2_with (fail)
 refine HS.out.mono ?_
 rintro e w2 ⟨rfl,hw2⟩
 have hpl:=parts_len 32 s.data.toList
 have hsl:s.data.toList.length=s.size:=by simp
 have hd:=del_calls (w0:=w) w2 w1.heap.size (parts 32 s.data.toList).length (parts 32 s.data.toList) (by rw [hw2];exact HB1.out.alloc HB1.out.size _) HB1.out.size (by rw [hw2];exact Blk.new w1 _ _) (by omega) (Nat.le_refl _)
 have HD:=Lib.hid hd
 clear hd hw2 hpl
 go_wp2_with (fail)
 refine HD.out.mono ?_
 rintro e w3 ⟨rfl,hst,hb3⟩
 have HST:=Lib.hid hst
 have HB3:=Lib.hid hb3
 clear hst hb3
 go_wp2_with (fail)
 go_ret
 exact ⟨_,_,rfl,HB1.out.size,HST.out,HB3.out⟩
end Go.Proofs.YtjiidlkkkednoaaGreatDoor.Q
end
section
namespace Go.Proofs.YtjiidlkkkednoaaGreatDoor.Q
open Go.RowKit Go.Proofs.YtjiidlkkkednoaaGreatDoorW.PrintWords
def encA (x:S45):List Value:=[.string x.f0,.int .i64 x.f1.f0,.int .i64 x.f1.f1,.int .i64 x.f1.f2,.string x.f1.f3]
theorem encA_len (x:S45):(encA x).length=5:=rfl
instance:Inhabited S45:=⟨z45⟩
def CmpA (w0:World) (Ok:S45→Prop) (cf:S45→S45→Int):Prop :=
 ∀ x y,Ok x→Ok y→∀ W,Below w0.heap.size w0 W→Calls Tryz.prog 41 #[.agg #[.string x.f0,.int .i64 x.f1.f0,.int .i64 x.f1.f1,.int .i64 x.f1.f2,.string x.f1.f3],.agg #[.string y.f0,.int .i64 y.f1.f0,.int .i64 y.f1.f1,.int .i64 y.f1.f2,.string y.f1.f3]] W fun e w' => e=.returned (.int .i64 (cf x y))∧Below W.heap.size W w'
def ltA (cf:S45→S45→Int) (x y:S45):Bool:=decide (cf x y<0)
theorem ok_swpA {Ok:S45→Prop} {d:Array S45} (h:∀ i,i<d.size→Ok d[i]!) (i j:Nat) (hi:i<d.size) (hj:j<d.size):∀ m,m<(Sort.swp d i j).size→Ok (Sort.swp d i j)[m]!:=by
 intro m hm
 have hm':m<d.size:=by simpa [Sort.swp] using hm
 have e:(Sort.swp d i j)[m]! = if m=j then d[i]! else if m=i then d[j]! else d[m]!:=by
  simp only [Sort.swp]
  rw [getElem!_pos _ m (by simpa using hm'),Array.getElem_setIfInBounds (by simpa using hm')]
  by_cases h1:j=m
  ·rw [if_pos h1,if_pos h1.symm]
  ·rw [if_neg h1,if_neg (fun e => h1 e.symm),Array.getElem_setIfInBounds hm']
   by_cases h2:i=m
   ·rw [if_pos h2,if_pos h2.symm]
   ·rw [if_neg h2,if_neg (fun e => h2 e.symm),getElem!_pos d m hm']
 rw [e]
 repeat' split
 ·exact h i hi
 ·exact h j hj
 ·exact h m hm'
theorem keepIA {wr W W':World} {b J K:Nat} {xj xp:S45} (h:W.cell? ⟨b,J,none⟩=some (.string xj.f0)∧W.cell? ⟨b,K,none⟩=some (.string xp.f0)∧W.cell? ⟨b,J+1,none⟩=some (.int .i64 xj.f1.f0)∧W.cell? ⟨b,K+1,none⟩=some (.int .i64 xp.f1.f0)∧W.cell? ⟨b,J+2,none⟩=some (.int .i64 xj.f1.f1)∧W.cell? ⟨b,K+2,none⟩=some (.int .i64 xp.f1.f1)∧W.cell? ⟨b,J+3,none⟩=some (.int .i64 xj.f1.f2)∧W.cell? ⟨b,K+3,none⟩=some (.int .i64 xp.f1.f2)∧W.cell? ⟨b,J+4,none⟩=some (.string xj.f1.f3)∧W.cell? ⟨b,K+4,none⟩=some (.string xp.f1.f3)∧Below wr.heap.size wr W) (hk:Below W.heap.size W W') :
  W'.cell? ⟨b,J,none⟩=some (.string xj.f0)∧W'.cell? ⟨b,K,none⟩=some (.string xp.f0)∧W'.cell? ⟨b,J+1,none⟩=some (.int .i64 xj.f1.f0)∧W'.cell? ⟨b,K+1,none⟩=some (.int .i64 xp.f1.f0)∧W'.cell? ⟨b,J+2,none⟩=some (.int .i64 xj.f1.f1)∧W'.cell? ⟨b,K+2,none⟩=some (.int .i64 xp.f1.f1)∧W'.cell? ⟨b,J+3,none⟩=some (.int .i64 xj.f1.f2)∧W'.cell? ⟨b,K+3,none⟩=some (.int .i64 xp.f1.f2)∧W'.cell? ⟨b,J+4,none⟩=some (.string xj.f1.f3)∧W'.cell? ⟨b,K+4,none⟩=some (.string xp.f1.f3)∧Below wr.heap.size wr W':=by
 obtain ⟨j0,p0,j1,p1,j2,p2,j3,p3,j4,p4,hb⟩:=h
 exact ⟨pw_cell_below hk j0,pw_cell_below hk p0,pw_cell_below hk j1,pw_cell_below hk p1,pw_cell_below hk j2,pw_cell_below hk p2,pw_cell_below hk j3,pw_cell_below hk p3,pw_cell_below hk j4,pw_cell_below hk p4,below_then hb hb.size hk⟩
set_option maxHeartbeats 4000000 in
set_option maxRecDepth 100000 in
theorem insA_calls {w0:World} {Ok:S45→Prop} {cf:S45→S45→Int} (hC:CmpA w0 Ok cf) (w:World) (b c a e:Nat) (d:Array S45) (z:List Value)
  (hB:Below w0.heap.size w0 w) (hb:w0.heap.size≤b) (hR:Rw encA 45 w b d.toList z) (hok:∀ i,i<d.size→Ok d[i]!) (hae:a≤e) (he:e≤d.size) (hsz:d.size≤1000000) :
  Calls Tryz.prog 136 #[.slice (some ⟨b,0,none⟩) d.size c,.int .i64 a,.int .i64 e,.func (.func 41) #[] #[]] w fun r w' =>
   r=.returned (.tuple #[])∧Rw encA 45 w' b (Sort.insertionSort (ltA cf) d a e).toList z∧Below w0.heap.size w0 w'∧(∀ i,i<(Sort.insertionSort (ltA cf) d a e).size→Ok (Sort.insertionSort (ltA cf) d a e)[i]!)∧(Sort.insertionSort (ltA cf) d a e).size=d.size:=by
 have HC:=Lib.hid hC
 have HB:=Lib.hid hB
 have HR:=Lib.hid hR
 have HOK:=Lib.hid hok
 clear hC hB hR hok
 have hu:=Tryz.underlying45
 go_enter Tryz.func136,Tryz.ntmps136
 go_wp2_with (fail)
 go_loopg [8] (e - a) (fun g1 vi wr => ∃ (i:Nat) (dk:Array S45),vi=.int .i64 i∧a<i∧i≤e+1∧e+1 - i≤g1+1∧dk.size=d.size∧Hid (Rw encA 45 wr b dk.toList z)∧Hid (Below w0.heap.size w0 wr)∧Hid (∀ i,i<dk.size→Ok dk[i]!)∧Hid (Sort.insOuter (ltA cf) a e i dk=Sort.insOuter (ltA cf) a e (a+1) d))
 case atStart => exact ⟨a+1,d,by go_num,by omega,by omega,by omega,rfl,HR.out,HB.out,HOK.out,rfl⟩
 case round =>
  obtain ⟨i,dk,rfl,hai,hib,hg1,hsk,HRk,HBk,HOKk,HO⟩:=hrel
  by_cases hlt:i<e
  ·have hltz:(i:Int)<(e:Int):=by omega
   go_wp2_with (fail)
   go_loopg [9] i (fun g2 vj wr2 => ∃ (j:Nat) (dj:Array S45),vj=.int .i64 j∧a≤j∧j≤i∧j≤g2∧dj.size=d.size∧Hid (Rw encA 45 wr2 b dj.toList z)∧Hid (Below w0.heap.size w0 wr2)∧Hid (∀ i,i<dj.size→Ok dj[i]!)∧Hid (Sort.insInner (ltA cf) a j dj=Sort.insInner (ltA cf) a i dk))
   case atStart => exact ⟨i,dk,rfl,by omega,Nat.le_refl _,Nat.le_refl _,hsk,HRk.out,HBk.out,HOKk.out,rfl⟩
   case round =>
    obtain ⟨j,dj,rfl,haj,hji,hg2,hsj,HRj,HBj,HOKj,HI⟩:=hrel
    have out:(j≤a∨ltA cf dj[j]! dj[j - 1]! = false)→Hid (Sort.insOuter (ltA cf) a e (i+1) dj=Sort.insOuter (ltA cf) a e (a+1) d):=fun hs => by
     show _=_
     rw [← HO.out,insO_go _ _ _ _ _ hlt,← HI.out,insI_stop _ _ _ _ hs]
    have OUT:Aside _:=out
    clear out
    by_cases hja:a<j
    ·have hjaz:(a:Int)<(j:Int):=by omega
     obtain ⟨jp,rfl⟩:∃ jp,j=jp+1:=⟨j - 1,by omega⟩
     have hjs:jp+1<dj.size:=by omega
     have hcj:=HRj.out.cellA encA_len (jp+1) (by omega)
     have hcp:=HRj.out.cellA encA_len jp (by omega)
     have hxo:=HOKj.out (jp+1) hjs
     have hpo:=HOKj.out jp (by omega)
     generalize hxj:dj[jp+1]! = xj at *
     generalize hxp:dj[jp]! = xp at *
     have HX:=Lib.hid hxo
     have HP:=Lib.hid hpo
     have HXJ:=Lib.hid hxj
     have HXP:=Lib.hid hxp
     have cj0:wr.cell? ⟨b,(jp+1) * 5,none⟩=some (.string xj.f0):=hcj 0 (by decide)
     have cp0:wr.cell? ⟨b,jp * 5,none⟩=some (.string xp.f0):=hcp 0 (by decide)
     have cj1:wr.cell? ⟨b,(jp+1) * 5+1,none⟩=some (.int .i64 xj.f1.f0):=hcj 1 (by decide)
     have cp1:wr.cell? ⟨b,jp * 5+1,none⟩=some (.int .i64 xp.f1.f0):=hcp 1 (by decide)
     have cj2:wr.cell? ⟨b,(jp+1) * 5+2,none⟩=some (.int .i64 xj.f1.f1):=hcj 2 (by decide)
     have cp2:wr.cell? ⟨b,jp * 5+2,none⟩=some (.int .i64 xp.f1.f1):=hcp 2 (by decide)
     have cj3:wr.cell? ⟨b,(jp+1) * 5+3,none⟩=some (.int .i64 xj.f1.f2):=hcj 3 (by decide)
     have cp3:wr.cell? ⟨b,jp * 5+3,none⟩=some (.int .i64 xp.f1.f2):=hcp 3 (by decide)
     have cj4:wr.cell? ⟨b,(jp+1) * 5+4,none⟩=some (.string xj.f1.f3):=hcj 4 (by decide)
     have cp4:wr.cell? ⟨b,jp * 5+4,none⟩=some (.string xp.f1.f3):=hcp 4 (by decide)
     clear hcj hcp hxo hpo hxj hxp
     have hwp:IntKind.i64.wrap (jp:Int)=(jp:Int):=by rw [IntWalk.i64_in _ ⟨by omega,by omega⟩]
     have jz:(jp:Int)+1<(d.size:Int):=by omega
     have jz1:(jp:Int)<(d.size:Int):=by omega
     have hjaz':(a:Int)<(jp:Int)+1:=by omega
     have dja:decide ((a:Int)<(jp:Int)+1)=true:=decide_eq_true hjaz'
     have p0:(0:Int)≤(jp:Int)+1:=by omega
     have e0:((jp:Int)+1).toNat=jp+1:=by omega
     go_wp2_with (fail)
     go_cut [34] (fun x wx => x=.bool (decide (cf xj xp<0))∧Hid (Below wr.heap.size wr wx))
     case first =>
      go_region_held3 (fun w' => w'.cell? ⟨b,(jp+1) * 5,none⟩=some (.string xj.f0)∧w'.cell? ⟨b,jp * 5,none⟩=some (.string xp.f0)∧w'.cell? ⟨b,(jp+1) * 5+1,none⟩=some (.int .i64 xj.f1.f0)∧w'.cell? ⟨b,jp * 5+1,none⟩=some (.int .i64 xp.f1.f0)∧w'.cell? ⟨b,(jp+1) * 5+2,none⟩=some (.int .i64 xj.f1.f1)∧w'.cell? ⟨b,jp * 5+2,none⟩=some (.int .i64 xp.f1.f1)∧w'.cell? ⟨b,(jp+1) * 5+3,none⟩=some (.int .i64 xj.f1.f2)∧w'.cell? ⟨b,jp * 5+3,none⟩=some (.int .i64 xp.f1.f2)∧w'.cell? ⟨b,(jp+1) * 5+4,none⟩=some (.string xj.f1.f3)∧w'.cell? ⟨b,jp * 5+4,none⟩=some (.string xp.f1.f3)∧Below wr.heap.size wr w')
       (first|exact hkk|exact ⟨cj0,cp0,cj1,cp1,cj2,cp2,cj3,cp3,cj4,cp4,(Below.refl _ _).drew⟩)
       (first|(go_at_call 41;have hbz:=HBj.out.drew;refine (HC.out xj xp HX.out HP.out _ hbz).mono ?_;rintro e w1 ⟨rfl,hbk⟩;have hkk:=keepIA (wr:=wr) (W:=wr.drew) ⟨cj0,cp0,cj1,cp1,cj2,cp2,cj3,cp3,cj4,cp4,(Below.refl _ _).drew⟩ hbk;have HBEL:=Lib.hid (below_then (Below.refl wr.heap.size wr).drew (Below.refl wr.heap.size wr).drew.size hbk)))
      all_goals go_wp2_with (fail)
      all_goals go_meet
      all_goals exact ⟨rfl,HBEL.out⟩
     case rest =>
      obtain ⟨rfl,HBx⟩:=hcut
      have HRx:=Lib.hid (HRj.out.below HBx.out)
      have HBy:=Lib.hid (below_then HBj.out HBj.out.size HBx.out)
      clear cj0 cp0 cj1 cp1 cj2 cp2 cj3 cp3 cj4 cp4
      have hcj:=HRx.out.cellA encA_len (jp+1) (by omega)
      have hcp:=HRx.out.cellA encA_len jp (by omega)
      rw [HXJ.out] at hcj
      rw [HXP.out] at hcp
      have cj0:wc.cell? ⟨b,(jp+1) * 5,none⟩=some (.string xj.f0):=hcj 0 (by decide)
      have cp0:wc.cell? ⟨b,jp * 5,none⟩=some (.string xp.f0):=hcp 0 (by decide)
      have fj0:wc.frozen? ⟨b,(jp+1) * 5,none⟩=false:=HRx.out.free _
      have fp0:wc.frozen? ⟨b,jp * 5,none⟩=false:=HRx.out.free _
      have cj1:wc.cell? ⟨b,(jp+1) * 5+1,none⟩=some (.int .i64 xj.f1.f0):=hcj 1 (by decide)
      have cp1:wc.cell? ⟨b,jp * 5+1,none⟩=some (.int .i64 xp.f1.f0):=hcp 1 (by decide)
      have fj1:wc.frozen? ⟨b,(jp+1) * 5+1,none⟩=false:=HRx.out.free _
      have fp1:wc.frozen? ⟨b,jp * 5+1,none⟩=false:=HRx.out.free _
      have cj2:wc.cell? ⟨b,(jp+1) * 5+2,none⟩=some (.int .i64 xj.f1.f1):=hcj 2 (by decide)
      have cp2:wc.cell? ⟨b,jp * 5+2,none⟩=some (.int .i64 xp.f1.f1):=hcp 2 (by decide)
      have fj2:wc.frozen? ⟨b,(jp+1) * 5+2,none⟩=false:=HRx.out.free _
      have fp2:wc.frozen? ⟨b,jp * 5+2,none⟩=false:=HRx.out.free _
      have cj3:wc.cell? ⟨b,(jp+1) * 5+3,none⟩=some (.int .i64 xj.f1.f2):=hcj 3 (by decide)
      have cp3:wc.cell? ⟨b,jp * 5+3,none⟩=some (.int .i64 xp.f1.f2):=hcp 3 (by decide)
      have fj3:wc.frozen? ⟨b,(jp+1) * 5+3,none⟩=false:=HRx.out.free _
      have fp3:wc.frozen? ⟨b,jp * 5+3,none⟩=false:=HRx.out.free _
      have cj4:wc.cell? ⟨b,(jp+1) * 5+4,none⟩=some (.string xj.f1.f3):=hcj 4 (by decide)
      have cp4:wc.cell? ⟨b,jp * 5+4,none⟩=some (.string xp.f1.f3):=hcp 4 (by decide)
      have fj4:wc.frozen? ⟨b,(jp+1) * 5+4,none⟩=false:=HRx.out.free _
      have fp4:wc.frozen? ⟨b,jp * 5+4,none⟩=false:=HRx.out.free _
      clear hcj hcp
      by_cases hlv:cf xj xp<0
      ·have dlv:decide (cf xj xp<0)=true:=decide_eq_true hlv
       go_wp2_with (fail)
       go_region
       all_goals (try go_wp2_with (fail))
       go_roundg jp
       case measure => omega
       case rel =>
        refine ⟨jp,Sort.swp dj (jp+1) jp,rfl,by omega,by omega,Nat.le_refl _,by simp [Sort.swp];omega,?_,?_,ok_swpA HOKj.out _ _ (by omega) (by omega),?_⟩
        ·have h:=HRx.out.swp encA_len (jp+1) jp (by omega) (by omega)
         rw [HXJ.out,HXP.out] at h
         exact h.drew
        ·have h:=putL_below hb (encA xj) (jp * 5) _ (putL_below hb (encA xp) ((jp+1) * 5) _ HBy.out)
         exact h.drew
        ·show _=_
         rw [← HI.out,insI_go (ltA cf) a (jp+1) dj hja (by rw [Nat.add_sub_cancel,HXJ.out,HXP.out];exact dlv)]
         rfl
      ·have dlv:decide (cf xj xp<0)=false:=decide_eq_false hlv
       go_wp2_with (fail)
       go_roundg (e - (i+1))
       case measure => omega
       case rel => exact ⟨i+1,dj,by go_num,by omega,by omega,by omega,hsj,HRx.out,HBy.out,HOKj.out,OUT.out (Or.inr (by rw [Nat.add_sub_cancel,HXP.out];exact dlv))⟩
    ·have hjaz:¬ (a:Int)<(j:Int):=by omega
     have dja:decide ((a:Int)<(j:Int))=false:=decide_eq_false hjaz
     go_wp2_with (fail)
     go_quiet (fail)
     go_wp2_with (fail)
     go_roundg (e - (i+1))
     case measure => omega
     case rel => exact ⟨i+1,dj,by go_num,by omega,by omega,by omega,hsj,⟨HRj.out.blk⟩,below_drewR HBj.out _,HOKj.out,OUT.out (Or.inl (by omega))⟩
  ·have hltz:¬ (i:Int)<(e:Int):=by omega
   go_wp2_with (fail)
   go_end0
   have he1:Sort.insertionSort (ltA cf) d a e=dk:=by unfold Sort.insertionSort;rw [← HO.out,insO_stop _ _ _ _ _ hlt]
   rw [he1]
   exact ⟨rfl,HRk.out,HBk.out,HOKk.out,hsk⟩
end Go.Proofs.YtjiidlkkkednoaaGreatDoor.Q
end
