import Derived.Test.YtjiidlkkkednoaaGreatDoorZVy
import Derived.Test.YtjiidlkkkednoaaGreatDoorZQ22
import Derived.Test.YtjiidlkkkednoaaGreatDoorZEvg
import Derived.Test.YtjiidlkkkednoaaGreatDoorZMra
import Derived.Test.YtjiidlkkkednoaaGreatDoorZBaseg
set_option linter.unusedVariables false
set_option linter.unusedSimpArgs false
section
namespace Go.Proofs.YtjiidlkkkednoaaGreatDoor.Q
open Go.RowKit Go.Proofs.YtjiidlkkkednoaaGreatDoorW.PrintWords Go.Proofs.YtjiidlkkkednoaaGreatDoorW.PrintLast Go.Proofs.YtjiidlkkkednoaaGreatDoorW.PrintMore
theorem ahead_nil (p:List UInt8) (h:p≠[]):aheadI p []=-1:=by
 unfold aheadI
 rw [if_neg (by simpa using h),if_neg (by simpa using h),if_pos (by simp)]
theorem nil_ahead (p:List UInt8) (h:p≠[]):aheadI [] p=1:=by
 have:=way_ahead.anti p []
 rw [ahead_nil p h] at this
 omega
theorem ahead_ne (x y:List UInt8) (hx:x≠[]) (hy:y≠[]):aheadI x y=rowsI (parts 46 x) (parts 46 y):=by
 by_cases h:x=y
 ·subst h
  rw [way_ahead.refl,way_rowsI.refl]
 ·unfold aheadI
  rw [if_neg (by simpa using h),if_neg (by simpa using hx),if_neg (by simpa using hy)]
theorem rd_words (l:List (List UInt8)) (i:Nat) (hi:i<l.length):rdOf ByteArray.empty (l.map bs) (i:Int)=bs l[i]:=by
 simp [rdOf,List.getD,List.getElem?_eq_getElem hi]
theorem rorder_f (x y:List UInt8) (hx:x.length≤1000000) (hy:y.length≤1000000):transhumanceref2_order.f (bs x) (bs y)=some (wordsI x y):=by
 unfold transhumanceref2_order.f
 rw [size_bs,size_bs,if_pos ⟨hx,hy⟩,data_bs,data_bs]
theorem rcmp_l1 (l m:List (List UInt8)) (hl:l.length≤1000000) (hm:m.length≤1000000) (hz:∀ x ∈ l,x.length≤1000000) (hy:∀ x ∈ m,x.length≤1000000):∀ (d i:Nat),l.length+1=i+d→1≤d→i≤l.length→i≤m.length →
  Ev (fun k => transhumanceref2_Cmp.l1 k (l.map bs) (m.map bs) (i:Int)) (rowsI (l.drop i) (m.drop i))
 | 0,i,hd,h1,_,_ => by omega
 | d+1,i,hd,h1,hil,him => by
  have hw:wrap64 ((i:Int)+1)=((i+1:Nat):Int):=wrap_id (by omega) (by omega)
  have fin:(i=l.length∨i=m.length)→Ev (fun k => transhumanceref2_Cmp.j3 k (l.map bs) (m.map bs) i false) (rowsI (l.drop i) (m.drop i)):=by
   intro h
   refine Ev.step (fun _ => transhumanceref2_Cmp.j3.eq_2 ..) (Ev.neg (by simp) (Ev.val (rsign_f _ _) (Ev.ret ?_)))
   rw [List.length_map,List.length_map]
   congr 1
   rcases Nat.lt_trichotomy l.length m.length with h2|h2|h2
   ·have:i=l.length:=by omega
    rw [cmpI_lt (by omega),List.drop_eq_nil_of_le (by omega),List.drop_eq_getElem_cons (show i<m.length by omega)]
    rfl
   ·rw [h2,cmpI_eq0,List.drop_eq_nil_of_le (by omega),List.drop_eq_nil_of_le (by omega)]
    rfl
   ·have:i=m.length:=by omega
    rw [cmpI_gt (by omega),List.drop_eq_nil_of_le (show m.length≤i by omega),List.drop_eq_getElem_cons (show i<l.length by omega)]
    rfl
  refine Ev.step (fun _ => transhumanceref2_Cmp.l1.eq_2 ..) ?_
  by_cases h2:i<l.length
  ·refine Ev.pos (by rw [List.length_map];omega) ?_
   by_cases h3:i<m.length
   ·rw [decide_eq_true (show (i:Int)<((m.map bs).length:Int) by rw [List.length_map];omega)]
    refine Ev.step (fun _ => transhumanceref2_Cmp.j3.eq_2 ..) (Ev.pos rfl (Ev.pos (by omega) (Ev.pos (by rw [List.length_map];omega) (Ev.pos (by rw [List.length_map];omega) ?_))))
    rw [rd_words l i h2,rd_words m i h3,hw,rowsI_drop l m i h2 h3]
    refine Ev.val (rorder_f _ _ (hz _ (List.getElem_mem h2)) (hy _ (List.getElem_mem h3))) ?_
    by_cases h0:wordsI l[i] m[i]=0
    ·rw [if_pos h0]
     exact Ev.pos h0 (rcmp_l1 l m hl hm hz hy d (i+1) (by omega) (by omega) (by omega) (by omega))
    ·rw [if_neg h0]
     exact Ev.neg h0 (Ev.now _)
   ·rw [decide_eq_false (show ¬ (i:Int)<((m.map bs).length:Int) by rw [List.length_map];omega)]
    exact fin (.inr (by omega))
  ·exact Ev.neg (by rw [List.length_map];omega) (fin (.inl (by omega)))
theorem rcmp_ahead (x y:Vr) (hx:x.p.length≤900000) (hy:y.p.length≤900000) (b:Bool) (hb:b=(decide (x.p=[]) || decide (y.p=[]))):Ev (fun k => transhumanceref2_Cmp.j1 k b x.a x.b x.c (bs x.p) y.a y.b y.c (bs y.p)) (aheadI x.p y.p):=by
 subst hb
 by_cases h1:x.p=[]
 ·rw [decide_eq_true h1,Bool.true_or]
  refine Ev.step (fun _ => transhumanceref2_Cmp.j1.eq_2 ..) (Ev.pos rfl (Ev.val (rsign_f _ _) (Ev.ret ?_)))
  rw [size_bs,size_bs,h1]
  by_cases h2:y.p=[]
  ·rw [h2,cmpI_eq0,Int.zero_mul,wrap_id (by decide) (by decide)]
   rfl
  ·have hl:=List.length_pos_iff.2 h2
   rw [nil_ahead y.p h2,cmpI_gt (by simp only [List.length_nil];omega)]
   congr 1
   have:mn 1 (wrap64 ((([]:List UInt8).length:Int)+(y.p.length:Int)))=1:=by
    rw [wrap_id (by simp only [List.length_nil];omega) (by simp only [List.length_nil];omega)]
    unfold mn
    simp only [List.length_nil]
    omega
   rw [this]
   exact wrap_id (by decide) (by decide)
 ·have hl:=List.length_pos_iff.2 h1
  by_cases h2:y.p=[]
  ·rw [decide_eq_true h2,Bool.or_true]
   refine Ev.step (fun _ => transhumanceref2_Cmp.j1.eq_2 ..) (Ev.pos rfl (Ev.val (rsign_f _ _) (Ev.ret ?_)))
   rw [size_bs,size_bs,h2,ahead_nil x.p h1,cmpI_lt (by simp only [List.length_nil];omega)]
   congr 1
   have:mn 1 (wrap64 ((x.p.length:Int)+(([]:List UInt8).length:Int)))=1:=by
    rw [wrap_id (by simp only [List.length_nil];omega) (by simp only [List.length_nil];omega)]
    unfold mn
    simp only [List.length_nil]
    omega
   rw [this]
   exact wrap_id (by decide) (by decide)
  ·rw [decide_eq_false h1,decide_eq_false h2]
   have wx:=rwords_ev (bs x.p) (by rw [size_bs];omega)
   have wy:=rwords_ev (bs y.p) (by rw [size_bs];omega)
   rw [data_bs] at wx wy
   have lx:=parts_len 46 x.p
   have ly:=parts_len 46 y.p
   have e:=rcmp_l1 (parts 46 x.p) (parts 46 y.p) (by omega) (by omega) (fun w hw => by have:=parts_each 46 x.p w hw;omega) (fun w hw => by have:=parts_each 46 y.p w hw;omega) ((parts 46 x.p).length+1) 0 (by omega) (by omega) (by omega) (by omega)
   rw [List.drop_zero,List.drop_zero] at e
   rw [ahead_ne _ _ h1 h2]
   exact Ev.step (fun _ => transhumanceref2_Cmp.j1.eq_2 ..) (Ev.neg (by simp) (Ev.bind wx (Ev.bind wy e)))
theorem rcmp_ev (x y:Vr) (hx:x.p.length≤900000) (hy:y.p.length≤900000):Ev (fun k => transhumanceref2_Cmp.f k x.a x.b x.c (bs x.p) y.a y.b y.c (bs y.p)) (cmpV x y):=by
 unfold transhumanceref2_Cmp.f
 refine Ev.val (rsign_f _ _) (Ev.val (rsign_f _ _) (Ev.val (rsign_f _ _) ?_))
 have w0:wrap64 ((0:Int)+1)=1:=wrap_id (by decide) (by decide)
 have w1:wrap64 ((1:Int)+1)=2:=wrap_id (by decide) (by decide)
 have w2:wrap64 ((2:Int)+1)=3:=wrap_id (by decide) (by decide)
 unfold cmpV
 refine Ev.step (fun _ => transhumanceref2_Cmp.l0.eq_2 ..) (Ev.pos (by decide) (Ev.pos (by decide) (Ev.pos (by show (0:Int)<((3:Nat):Int);decide) ?_)))
 rw [w0,show rd [cmpI x.a y.a,cmpI x.b y.b,cmpI x.c y.c] 0=cmpI x.a y.a from rfl]
 by_cases h1:cmpI x.a y.a=0
 ·rw [if_neg (show ¬ cmpI x.a y.a≠0 by omega)]
  refine Ev.pos h1 (Ev.step (fun _ => transhumanceref2_Cmp.l0.eq_2 ..) (Ev.pos (by decide) (Ev.pos (by decide) (Ev.pos (by show (1:Int)<((3:Nat):Int);decide) ?_))))
  rw [w1,show rd [cmpI x.a y.a,cmpI x.b y.b,cmpI x.c y.c] 1=cmpI x.b y.b from rfl]
  by_cases h2:cmpI x.b y.b=0
  ·rw [if_neg (show ¬ cmpI x.b y.b≠0 by omega)]
   refine Ev.pos h2 (Ev.step (fun _ => transhumanceref2_Cmp.l0.eq_2 ..) (Ev.pos (by decide) (Ev.pos (by decide) (Ev.pos (by show (2:Int)<((3:Nat):Int);decide) ?_))))
   rw [w2,show rd [cmpI x.a y.a,cmpI x.b y.b,cmpI x.c y.c] 2=cmpI x.c y.c from rfl]
   by_cases h3:cmpI x.c y.c=0
   ·rw [if_neg (show ¬ cmpI x.c y.c≠0 by omega)]
    refine Ev.pos h3 (Ev.step (fun _ => transhumanceref2_Cmp.l0.eq_2 ..) (Ev.neg (by decide) ?_))
    by_cases hp:x.p=[]
    ·refine Ev.pos (by rw [toList_bs];exact hp) ?_
     exact rcmp_ahead x y hx hy true (by rw [decide_eq_true hp];rfl)
    ·refine Ev.neg (by rw [toList_bs];exact hp) ?_
     refine rcmp_ahead x y hx hy _ ?_
     rw [decide_eq_false hp,Bool.false_or,toList_bs]
     by_cases hq:y.p=[]
     ·rw [hq];rfl
     ·rw [decide_eq_false hq];simpa using hq
   ·rw [if_pos h3]
    exact Ev.neg h3 (Ev.now _)
  ·rw [if_pos h2]
   exact Ev.neg h2 (Ev.now _)
 ·rw [if_pos h1]
  exact Ev.neg h1 (Ev.now _)
end Go.Proofs.YtjiidlkkkednoaaGreatDoor.Q
end
section
namespace Go.Proofs.YtjiidlkkkednoaaGreatDoor.Q
open Go.RowKit Go.Shelf Go.Proofs.YtjiidlkkkednoaaGreatDoorW.PrintWords
theorem RowOk.size {r:S45} (h:RowOk r):r.f1.f3.size≤900000:=by
 have:=h.2.2.len
 have e:(vrM r.f1).p.length=r.f1.f3.size:=data_length r.f1.f3
 omega
theorem SwOk.size {r:S48} (h:SwOk r):r.f2.f3.size≤900000:=RowOk.size h.2
theorem keep11 {w w':World} {a0 a1 a2 a3 a4 a5 a6 a7 a8 a9 a10:Addr} {x0 x1 x2 x3 x4 x5 x6 x7 x8 x9 x10:Value} (h0:w.cell? a0=some x0) (h1:w.cell? a1=some x1) (h2:w.cell? a2=some x2) (h3:w.cell? a3=some x3) (h4:w.cell? a4=some x4) (h5:w.cell? a5=some x5) (h6:w.cell? a6=some x6) (h7:w.cell? a7=some x7) (h8:w.cell? a8=some x8) (h9:w.cell? a9=some x9) (h10:w.cell? a10=some x10) (hb:Below w.heap.size w w') :
  w'.cell? a0=some x0∧(w'.cell? a1=some x1∧w'.cell? a2=some x2∧w'.cell? a3=some x3∧w'.cell? a4=some x4∧w'.cell? a5=some x5)∧(w'.cell? a6=some x6∧w'.cell? a7=some x7∧w'.cell? a8=some x8∧w'.cell? a9=some x9∧w'.cell? a10=some x10) :=
 ⟨pw_cell_below hb h0,⟨pw_cell_below hb h1,pw_cell_below hb h2,pw_cell_below hb h3,pw_cell_below hb h4,pw_cell_below hb h5⟩,⟨pw_cell_below hb h6,pw_cell_below hb h7,pw_cell_below hb h8,pw_cell_below hb h9,pw_cell_below hb h10⟩⟩
theorem keep13 {w w':World} {a0 a1 a2 a3 a4 a5 a6 a7 a8 a9 a10 a11 a12:Addr} {x0 x1 x2 x3 x4 x5 x6 x7 x8 x9 x10 x11 x12:Value} (h0:w.cell? a0=some x0) (h1:w.cell? a1=some x1) (h2:w.cell? a2=some x2) (h3:w.cell? a3=some x3) (h4:w.cell? a4=some x4) (h5:w.cell? a5=some x5) (h6:w.cell? a6=some x6) (h7:w.cell? a7=some x7) (h8:w.cell? a8=some x8) (h9:w.cell? a9=some x9) (h10:w.cell? a10=some x10) (h11:w.cell? a11=some x11) (h12:w.cell? a12=some x12) (hb:Below w.heap.size w w') :
  w'.cell? a0=some x0∧(w'.cell? a1=some x1∧w'.cell? a2=some x2∧w'.cell? a3=some x3∧w'.cell? a4=some x4∧w'.cell? a5=some x5∧w'.cell? a6=some x6)∧(w'.cell? a7=some x7∧w'.cell? a8=some x8∧w'.cell? a9=some x9∧w'.cell? a10=some x10∧w'.cell? a11=some x11∧w'.cell? a12=some x12) :=
 ⟨pw_cell_below hb h0,⟨pw_cell_below hb h1,pw_cell_below hb h2,pw_cell_below hb h3,pw_cell_below hb h4,pw_cell_below hb h5,pw_cell_below hb h6⟩,⟨pw_cell_below hb h7,pw_cell_below hb h8,pw_cell_below hb h9,pw_cell_below hb h10,pw_cell_below hb h11,pw_cell_below hb h12⟩⟩
theorem rcmpM (x y:S43) (hx:x.f3.size≤900000) (hy:y.f3.size≤900000) (W:World):Calls Tryz.prog 25 #[.agg #[.int .i64 x.f0,.int .i64 x.f1,.int .i64 x.f2,.string x.f3],.agg #[.int .i64 y.f0,.int .i64 y.f1,.int .i64 y.f2,.string y.f3]] W fun e w' => e=.returned (.int .i64 (cmpV (vrM x) (vrM y)))∧Below W.heap.size W w':=by
 have h:=rcmp_ev (vrM x) (vrM y) (by show x.f3.data.toList.length≤_;rw [data_length];exact hx) (by show y.f3.data.toList.length≤_;rw [data_length];exact hy)
 unfold vrM at h
 simp only [bs_data] at h
 obtain ⟨k,hk⟩:=h.rounds
 exact transhumanceref2_Cmp.calls k _ _ _ _ _ _ _ _ _ W hk
theorem bl_of_neg {x y:ByteArray} (h:Lib.compareBytes x.data.toList y.data.toList<0):Op.bytesLess x.toList y.toList=true∧¬ x.toList=y.toList:=by
 rw [cmpB_eq] at h
 rw [Lib.toList_data,Lib.toList_data]
 constructor
 ·unfold cmpBs at h
  split at h
  ·assumption
  ·split at h <;> omega
 ·intro e
  rw [e,way_bs.refl] at h
  omega
theorem bl_of_eq {x y:ByteArray} (h:Lib.compareBytes x.data.toList y.data.toList=0):x.toList=y.toList∧Op.bytesLess x.toList y.toList=false:=by
 have e:=cb_eq h
 subst e
 refine ⟨rfl,?_⟩
 rw [Proofs.bytesLess_eq]
 simp
theorem cfA_cases {X Y:S45} (h:cfA X Y<0):(Op.bytesLess X.f0.toList Y.f0.toList=true∧¬ X.f0.toList=Y.f0.toList)∨(X.f0.toList=Y.f0.toList∧Op.bytesLess X.f0.toList Y.f0.toList=false∧cmpV (vrM X.f1) (vrM Y.f1)<0):=by
 unfold cfA at h
 by_cases e:cmpPA X Y=0
 ·rw [if_neg (by simp [e])] at h
  have:=bl_of_eq e
  exact .inr ⟨this.1,this.2,h⟩
 ·rw [if_pos e] at h
  exact .inl (bl_of_neg h)
theorem cfB_cases {X Y:S48} (h:cfB X Y<0):(Op.bytesLess X.f0.toList Y.f0.toList=true∧¬ X.f0.toList=Y.f0.toList)∨(X.f0.toList=Y.f0.toList∧Op.bytesLess X.f0.toList Y.f0.toList=false ∧
  ((Op.bytesLess X.f1.toList Y.f1.toList=true∧¬ X.f1.toList=Y.f1.toList)∨(X.f1.toList=Y.f1.toList∧Op.bytesLess X.f1.toList Y.f1.toList=false∧cmpV (vrM X.f2) (vrM Y.f2)<0))):=by
 unfold cfB at h
 by_cases e:cmpPB X Y=0
 ·rw [if_neg (by simp [e])] at h
  have:=bl_of_eq e
  refine .inr ⟨this.1,this.2,?_⟩
  by_cases e2:Lib.compareBytes X.f1.data.toList Y.f1.data.toList=0
  ·rw [if_neg (by simp [e2])] at h
   have:=bl_of_eq e2
   exact .inr ⟨this.1,this.2,h⟩
  ·rw [if_pos e2] at h
   exact .inl (bl_of_neg h)
 ·rw [if_pos e] at h
  exact .inl (bl_of_neg h)
section
variable (w:World)
set_option maxHeartbeats 4000000 in
set_option maxRecDepth 100000 in
theorem orders_calls (a0:Int) (A:Option Addr) (c:Nat) (l:List Int) (hr:Kd.C (Kd.int .i64) w A l.length l) (hc:l.length≤c) (hG:GL w) :
  Calls Tryz.prog 8 #[.int .i64 a0,.slice A l.length c] w fun e w' => e=.returned (.bool true)∧Below w.heap.size w w':=by
 obtain ⟨mo,q,x,s,hev,hmo,hlen,hq,hx,hs⟩:=raw_ev a0 l
 obtain ⟨k,hk⟩:=hev.rounds
 have HK:=Lib.hid (known_calls w hG)
 have HRW:=Lib.hid (fun W (hW:Below w.heap.size w W) => transhumancelaw9_Raw.calls k a0 A c l mo q x s W (Kd.C_below hr hW) hc hk)
 have HG:=Lib.hid hG
 have HQ:=Lib.hid hq
 have HX:=Lib.hid hx
 have HS:=Lib.hid hs
 clear hev hr hG hq hx hs hk
 go_enter Tryz.func8,Tryz.ntmps8
 go_wp2_with (fail)
 refine HK.out.mono ?_
 rintro e w1 ⟨rfl,hb1⟩
 have HB1:=Lib.hid hb1
 clear hb1
 go_wp2_with (fail)
 refine (HRW.out _ HB1.out).mono ?_
 rintro e w2 ⟨v1,v2,v3,rfl,g1,g2,g3,hb2⟩
 obtain ⟨A1,c1,rfl⟩:=Kd.R_slice g1
 obtain ⟨A2,c2,rfl⟩:=Kd.R_slice g2
 obtain ⟨A3,c3,rfl⟩:=Kd.R_slice g3
 obtain ⟨-,hc1,hr1⟩:=Kd.R_reads' g1
 obtain ⟨-,hc2,hr2⟩:=Kd.R_reads' g2
 obtain ⟨-,hc3,hr3⟩:=Kd.R_reads' g3
 have HB2:=Lib.hid (below_then HB1.out HB1.out.size hb2)
 have hG2:=HG.out.below0 HB2.out
 have HNO:=Lib.hid (norm_calls w2 (cmpA_on w2 hG2) (cmpB_on w2 hG2) mo A1 A2 A3 c1 c2 c3 q x s hr1 hc1 (by omega) (fun r h => (HQ.out r h).size) hr2 hc2 (by omega) (fun r h => (HX.out r h).size) hr3 hc3 (by omega) (fun r h => (HS.out r h).size))
 clear g1 g2 g3 hr1 hr2 hr3 hc1 hc2 hc3 hb2 hG2 HRW HK
 go_wp2_with (fail)
 refine HNO.out.mono ?_
 rintro e w3 ⟨u1,u2,u3,rfl,h1,h2,h3,hb3⟩
 have l1:=normA_len q
 have l2:=normA_len x
 have l3:=normB_len s
 obtain ⟨a1,d1,rfl,-,q1⟩:=h1.reads (by omega)
 obtain ⟨a2,d2,rfl,-,q2⟩:=h2.reads (by omega)
 obtain ⟨a3,d3,rfl,-,q3⟩:=h3.reads (by omega)
 have HB3:=Lib.hid (below_then HB2.out HB2.out.size hb3)
 have RA:Hid (∀ r ∈ normA cfA q,RowOk r):=Lib.hid (fun r h => HQ.out r (normA_mem q r h))
 have RB:Hid (∀ r ∈ normA cfA x,RowOk r):=Lib.hid (fun r h => HX.out r (normA_mem x r h))
 have RC:Hid (∀ r ∈ normB cfB s,SwOk r):=Lib.hid (fun r h => HS.out r (normB_mem s r h))
 have JA:=Lib.hid (adjA q)
 have JB:=Lib.hid (adjA x)
 have JC:=Lib.hid (adjB s)
 have LQ:(normA cfA q).length≤20:=by omega
 have LX:(normA cfA x).length≤20:=by omega
 have LS:(normB cfB s).length≤20:=by omega
 generalize normA cfA q=L0 at *
 generalize normA cfA x=L1 at *
 generalize normB cfB s=L2 at *
 have Q1:=Lib.hid q1
 have Q2:=Lib.hid q2
 have Q3:=Lib.hid q3
 clear h1 h2 h3 hb3 l1 l2 l3 q1 q2 q3 HNO HB1 HB2 hlen
 go_wp2_with (fail)
 have n1:=Blk.new w3 27 #[.string mo,.slice a1 L0.length d1,.slice a2 L1.length d2,.slice a3 L2.length d3]
 have n2:=Blk.new (w3.alloc (.cells #[.string mo,.slice a1 L0.length d1,.slice a2 L1.length d2,.slice a3 L2.length d3] 27)) 24 #[.slice a1 L0.length d1,.slice a2 L1.length d2]
 rw [World.size_alloc] at n2
 have hb0:=below_alloc (below_alloc (Below.refl _ w3) (.cells #[.string mo,.slice a1 L0.length d1,.slice a2 L1.length d2,.slice a3 L2.length d3] 27)) (.cells #[.slice a1 L0.length d1,.slice a2 L1.length d2] 24)
 replace n1:=n1.alloc (.cells #[.slice a1 L0.length d1,.slice a2 L1.length d2] 24)
 generalize hW0:(w3.alloc (.cells #[.string mo,.slice a1 L0.length d1,.slice a2 L1.length d2,.slice a3 L2.length d3] 27)).alloc (.cells #[.slice a1 L0.length d1,.slice a2 L1.length d2] 24)=W0 at *
 obtain ⟨P,hP⟩:∃ P,P=w3.heap.size:=⟨_,rfl⟩
 rw [← hP] at n1 n2 hb0 ⊢
 have HP:=Lib.hid hP
 have N1:=Lib.hid n1
 have N2:=Lib.hid n2
 have B0:=Lib.hid hb0
 clear n1 n2 hb0 hW0 hP
 go_loopg [7] 2 (fun g s7 wr => ∃ i:Nat,s7=.int .i64 i∧i≤2∧2 - i≤g∧Hid (Blk wr P 27 #[.string mo,.slice a1 L0.length d1,.slice a2 L1.length d2,.slice a3 L2.length d3])∧Hid (Blk wr (P+1) 24 #[.slice a1 L0.length d1,.slice a2 L1.length d2])∧Hid (Below P w3 wr))
 case atStart => exact ⟨0,rfl,by omega,by omega,N1,N2,B0⟩
 case round =>
  obtain ⟨i,rfl,hi,hg,K1,K2,KB⟩:=hrel
  by_cases hlt:i<2
  ·have hL:∃ (L:List S45) (aL:Option Addr) (dL:Nat),Hid (Kd.C k45 w3 aL L.length L)∧Hid (∀ r ∈ L,RowOk r)∧Hid (∀ j,j+1<L.length→cfA (rdIA L j) (rdIA L (j+1))<0)∧L.length≤20∧(#[Value.slice a1 L0.length d1,.slice a2 L1.length d2])[i]?=some (.slice aL L.length dL):=by
    rcases (show i=0∨i=1 by omega) with rfl|rfl
    ·exact ⟨L0,a1,d1,Q1,RA,JA,LQ,rfl⟩
    ·exact ⟨L1,a2,d2,Q2,RB,JB,LX,rfl⟩
   obtain ⟨L,aL,dL,QL,RL,JL,LL,hcell⟩:=hL
   have HCI:=Lib.hid hcell
   have jz:(i:Int)<2:=by omega
   clear hcell
   go_wp2_with (fail)
   go_loopg [8] (L.length+1) (fun g s8 wr => ∃ k:Nat,s8=.int .i64 k∧1≤k∧k≤L.length+1∧L.length+1 - k≤g∧Hid (Blk wr P 27 #[.string mo,.slice a1 L0.length d1,.slice a2 L1.length d2,.slice a3 L2.length d3])∧Hid (Blk wr (P+1) 24 #[.slice a1 L0.length d1,.slice a2 L1.length d2])∧Hid (Below P w3 wr))
   case atStart => exact ⟨1,rfl,by omega,by omega,by omega,K1,K2,KB⟩
   case round =>
    obtain ⟨k,rfl,hk1,hk,hg2,M1,M2,MB⟩:=hrel
    have ci:wr.cell? ⟨P+1,i,none⟩=some (.slice aL L.length dL):=by rw [M2.out.cell];exact HCI.out
    by_cases hlt2:k<L.length
    ·obtain ⟨j,rfl⟩:∃ j,k=j+1:=⟨k - 1,by omega⟩
     have hc3:=Kd.C_below QL.out (by have:=MB.out;rw [HP.out] at this;exact this)
     have hat:=at_T45 hc3 ((j+1:Nat):Int) (by omega) (by omega)
     have hap:=at_T45 hc3 (j:Int) (by omega) (by omega)
     simp only [Int.toNat_natCast] at hat hap
     have hx:rd_T45 L (j:Int)=rdIA L j:=rfl
     have hy:rd_T45 L ((j+1:Nat):Int)=rdIA L (j+1):=rfl
     rw [hx] at hap
     rw [hy] at hat
     have hadj:=JL.out j hlt2
     have hrx:RowOk (rdIA L j):=by rw [rdIA_mem L j (by omega)];exact RL.out _ (List.getElem_mem _)
     have hry:RowOk (rdIA L (j+1)):=by rw [rdIA_mem L (j+1) hlt2];exact RL.out _ (List.getElem_mem _)
     generalize rdIA L j=X at *
     generalize rdIA L (j+1)=Y at *
     obtain ⟨ad,rfl,p0,p1,p2,p3,p4⟩:=hat
     obtain ⟨ad2,he,q0,q1,q2,q3,q4⟩:=hap
     cases he
     have hwp:IntKind.i64.wrap (j:Int)=(j:Int):=by rw [IntWalk.i64_in _ ⟨by omega,by omega⟩]
     have hw2:IntKind.i64.wrap ((j:Int)+1)=(j:Int)+1:=by rw [IntWalk.i64_in _ ⟨by omega,by omega⟩]
     have hw3:IntKind.i64.wrap ((j:Int)+1+1)=(j:Int)+1+1:=by rw [IntWalk.i64_in _ ⟨by omega,by omega⟩]
     have z1:(j:Int)+1<(L.length:Int):=by omega
     have z2:(j:Int)<(L.length:Int):=by omega
     have z3:(0:Int)≤(j:Int)+1:=by omega
     have e0:((j:Int)+1).toNat=j+1:=by omega
     have HDJ:=Lib.hid (cfA_cases hadj)
     have HCM:=Lib.hid (rcmpM X.f1 Y.f1 hrx.size hry.size)
     have BW:Hid (∀ W',Below wr.heap.size wr W'→Below w.heap.size w W'):=Lib.hid (fun W' h => HB3.out.trans ((MB.out.trans (h.mono (by have:=MB.out.size;have:=HP.out;omega))).mono (by have:=HB3.out.size;have:=HP.out;omega)))
     have PW:Hid (P≤wr.heap.size):=Lib.hid (by have:=MB.out.size;have:=HP.out;omega)
     clear hx hy hc3 hadj hrx hry
     go_wp2_with (fail)
     go_region_held3 (fun w' => w'.cell? ⟨P+1,i,none⟩=some (.slice (some ad) L.length dL)∧(w'.cell? (ad.add (j * 5))=some (.string X.f0)∧w'.cell? ⟨(ad.add (j * 5)).block,(ad.add (j * 5)).off+1,none⟩=some (.int .i64 X.f1.f0)∧w'.cell? ⟨(ad.add (j * 5)).block,(ad.add (j * 5)).off+2,none⟩=some (.int .i64 X.f1.f1)∧w'.cell? ⟨(ad.add (j * 5)).block,(ad.add (j * 5)).off+3,none⟩=some (.int .i64 X.f1.f2)∧w'.cell? ⟨(ad.add (j * 5)).block,(ad.add (j * 5)).off+4,none⟩=some (.string X.f1.f3))∧(w'.cell? (ad.add ((j+1) * 5))=some (.string Y.f0)∧w'.cell? ⟨(ad.add ((j+1) * 5)).block,(ad.add ((j+1) * 5)).off+1,none⟩=some (.int .i64 Y.f1.f0)∧w'.cell? ⟨(ad.add ((j+1) * 5)).block,(ad.add ((j+1) * 5)).off+2,none⟩=some (.int .i64 Y.f1.f1)∧w'.cell? ⟨(ad.add ((j+1) * 5)).block,(ad.add ((j+1) * 5)).off+3,none⟩=some (.int .i64 Y.f1.f2)∧w'.cell? ⟨(ad.add ((j+1) * 5)).block,(ad.add ((j+1) * 5)).off+4,none⟩=some (.string Y.f1.f3)))
      (first|exact ⟨ci,⟨q0,q1,q2,q3,q4⟩,⟨p0,p1,p2,p3,p4⟩⟩|exact keep11 ci q0 q1 q2 q3 q4 p0 p1 p2 p3 p4 (by repeat (first|exact Below.refl _ _|refine below_drew1 ?_|refine below_alloc ?_ _|refine below_set ?_ (by simp))))
      (fail)
     all_goals (
      rcases HDJ.out with ⟨hl,hn⟩|⟨hq,hl,hcm⟩
      ·go_wp2_with (fail)
       go_roundg (L.length+1 - (j+1+1))
       case measure => omega
       case rel => exact ⟨j+1+1,by go_num,by omega,by omega,Nat.le_refl _,Lib.hid (M1.out.below (by repeat (first|exact Below.refl _ _|refine below_drew1 ?_|refine below_alloc ?_ _))),Lib.hid (M2.out.below (by repeat (first|exact Below.refl _ _|refine below_drew1 ?_|refine below_alloc ?_ _))),Lib.hid (MB.out.trans (Below.mono (by repeat (first|exact Below.refl _ _|refine below_drew1 ?_|refine below_alloc ?_ _)) PW.out))⟩
      ·generalize cmpV (vrM X.f1) (vrM Y.f1)=cv at *
       have hge:¬ (0:Int)≤cv:=by omega
       go_wp2_with (fail)
       refine (HCM.out _).mono ?_
       rintro e w5 ⟨rfl,hb5⟩
       have HB5:=Lib.hid (below_then (B:=wr.heap.size) (w:=wr) (by repeat (first|exact Below.refl _ _|refine below_drew1 ?_|refine below_alloc ?_ _)) (by first|(simp;done)|(simp;omega)) hb5)
       clear hb5
       go_wp2_with (fail)
       go_roundg (L.length+1 - (j+1+1))
       case measure => omega
       case rel => exact ⟨j+1+1,by go_num,by omega,by omega,Nat.le_refl _,Lib.hid (M1.out.below HB5.out),Lib.hid (M2.out.below HB5.out),Lib.hid (MB.out.trans (HB5.out.mono PW.out))⟩)
    ·have h1:¬ (k:Int)<(L.length:Int):=by omega
     go_wp2_with (fail)
     go_roundg (2 - (i+1))
     case measure => omega
     case rel => exact ⟨i+1,by go_num,by omega,Nat.le_refl _,M1,M2,MB⟩
  ·obtain rfl:i=2:=by omega
   go_wp2_with (fail)
   go_loopg [11] (L2.length+1) (fun g s11 wr => ∃ k:Nat,s11=.int .i64 k∧1≤k∧k≤L2.length+1∧L2.length+1 - k≤g∧Hid (Blk wr P 27 #[.string mo,.slice a1 L0.length d1,.slice a2 L1.length d2,.slice a3 L2.length d3])∧Hid (Below P w3 wr))
   case atStart => exact ⟨1,rfl,by omega,by omega,by omega,K1,KB⟩
   case round =>
    obtain ⟨k,rfl,hk1,hk,hg2,M1,MB⟩:=hrel
    have ci:wr.cell? ⟨P,3,none⟩=some (.slice a3 L2.length d3):=M1.out.cell 3
    by_cases hlt2:k<L2.length
    ·obtain ⟨j,rfl⟩:∃ j,k=j+1:=⟨k - 1,by omega⟩
     have hc3:=Kd.C_below Q3.out (by have:=MB.out;rw [HP.out] at this;exact this)
     have hat:=at_T48 hc3 ((j+1:Nat):Int) (by omega) (by omega)
     have hap:=at_T48 hc3 (j:Int) (by omega) (by omega)
     simp only [Int.toNat_natCast] at hat hap
     have hx:rd_T48 L2 (j:Int)=rdIB L2 j:=rfl
     have hy:rd_T48 L2 ((j+1:Nat):Int)=rdIB L2 (j+1):=rfl
     rw [hx] at hap
     rw [hy] at hat
     have hadj:=JC.out j hlt2
     have hrx:SwOk (rdIB L2 j):=by rw [rdIB_mem L2 j (by omega)];exact RC.out _ (List.getElem_mem _)
     have hry:SwOk (rdIB L2 (j+1)):=by rw [rdIB_mem L2 (j+1) hlt2];exact RC.out _ (List.getElem_mem _)
     generalize rdIB L2 j=X at *
     generalize rdIB L2 (j+1)=Y at *
     obtain ⟨ad,rfl,p0,p1,p2,p3,p4,p5⟩:=hat
     obtain ⟨ad2,he,q0,q1,q2,q3,q4,q5⟩:=hap
     cases he
     have hwp:IntKind.i64.wrap (j:Int)=(j:Int):=by rw [IntWalk.i64_in _ ⟨by omega,by omega⟩]
     have hw2:IntKind.i64.wrap ((j:Int)+1)=(j:Int)+1:=by rw [IntWalk.i64_in _ ⟨by omega,by omega⟩]
     have hw3:IntKind.i64.wrap ((j:Int)+1+1)=(j:Int)+1+1:=by rw [IntWalk.i64_in _ ⟨by omega,by omega⟩]
     have z1:(j:Int)+1<(L2.length:Int):=by omega
     have z2:(j:Int)<(L2.length:Int):=by omega
     have z3:(0:Int)≤(j:Int)+1:=by omega
     have e0:((j:Int)+1).toNat=j+1:=by omega
     have HDJ:=Lib.hid (cfB_cases hadj)
     have HCM:=Lib.hid (rcmpM X.f2 Y.f2 hrx.size hry.size)
     have PW:Hid (P≤wr.heap.size):=Lib.hid (by have:=MB.out.size;have:=HP.out;omega)
     clear hx hy hc3 hadj hrx hry
     go_wp2_with (fail)
     go_region_held3 (fun w' => w'.cell? ⟨P,3,none⟩=some (.slice (some ad) L2.length d3)∧(w'.cell? (ad.add (j * 6))=some (.string X.f0)∧w'.cell? ⟨(ad.add (j * 6)).block,(ad.add (j * 6)).off+1,none⟩=some (.string X.f1)∧w'.cell? ⟨(ad.add (j * 6)).block,(ad.add (j * 6)).off+2,none⟩=some (.int .i64 X.f2.f0)∧w'.cell? ⟨(ad.add (j * 6)).block,(ad.add (j * 6)).off+3,none⟩=some (.int .i64 X.f2.f1)∧w'.cell? ⟨(ad.add (j * 6)).block,(ad.add (j * 6)).off+4,none⟩=some (.int .i64 X.f2.f2)∧w'.cell? ⟨(ad.add (j * 6)).block,(ad.add (j * 6)).off+5,none⟩=some (.string X.f2.f3))∧(w'.cell? (ad.add ((j+1) * 6))=some (.string Y.f0)∧w'.cell? ⟨(ad.add ((j+1) * 6)).block,(ad.add ((j+1) * 6)).off+1,none⟩=some (.string Y.f1)∧w'.cell? ⟨(ad.add ((j+1) * 6)).block,(ad.add ((j+1) * 6)).off+2,none⟩=some (.int .i64 Y.f2.f0)∧w'.cell? ⟨(ad.add ((j+1) * 6)).block,(ad.add ((j+1) * 6)).off+3,none⟩=some (.int .i64 Y.f2.f1)∧w'.cell? ⟨(ad.add ((j+1) * 6)).block,(ad.add ((j+1) * 6)).off+4,none⟩=some (.int .i64 Y.f2.f2)∧w'.cell? ⟨(ad.add ((j+1) * 6)).block,(ad.add ((j+1) * 6)).off+5,none⟩=some (.string Y.f2.f3)))
      (first|exact ⟨ci,⟨q0,q1,q2,q3,q4,q5⟩,⟨p0,p1,p2,p3,p4,p5⟩⟩|exact keep13 ci q0 q1 q2 q3 q4 q5 p0 p1 p2 p3 p4 p5 (by repeat (first|exact Below.refl _ _|refine below_drew1 ?_|refine below_alloc ?_ _|refine below_set ?_ (by simp))))
      (fail)
     all_goals (
      rcases HDJ.out with ⟨hl,hn⟩|⟨hq,hl,hd2⟩
      ·go_wp2_with (fail)
       go_roundg (L2.length+1 - (j+1+1))
       case measure => omega
       case rel => exact ⟨j+1+1,by go_num,by omega,by omega,Nat.le_refl _,Lib.hid (M1.out.below (by repeat (first|exact Below.refl _ _|refine below_drew1 ?_|refine below_alloc ?_ _))),Lib.hid (MB.out.trans (Below.mono (by repeat (first|exact Below.refl _ _|refine below_drew1 ?_|refine below_alloc ?_ _)) PW.out))⟩
      ·rcases hd2 with ⟨hl2,hn2⟩|⟨hq2,hl2,hcm⟩
       ·go_wp2_with (fail)
        go_roundg (L2.length+1 - (j+1+1))
        case measure => omega
        case rel => exact ⟨j+1+1,by go_num,by omega,by omega,Nat.le_refl _,Lib.hid (M1.out.below (by repeat (first|exact Below.refl _ _|refine below_drew1 ?_|refine below_alloc ?_ _))),Lib.hid (MB.out.trans (Below.mono (by repeat (first|exact Below.refl _ _|refine below_drew1 ?_|refine below_alloc ?_ _)) PW.out))⟩
       ·generalize cmpV (vrM X.f2) (vrM Y.f2)=cv at *
        have hge:¬ (0:Int)≤cv:=by omega
        go_wp2_with (fail)
        refine (HCM.out _).mono ?_
        rintro e w5 ⟨rfl,hb5⟩
        have HB5:=Lib.hid (below_then (B:=wr.heap.size) (w:=wr) (by repeat (first|exact Below.refl _ _|refine below_drew1 ?_|refine below_alloc ?_ _)) (by first|(simp;done)|(simp;omega)) hb5)
        clear hb5
        go_wp2_with (fail)
        go_roundg (L2.length+1 - (j+1+1))
        case measure => omega
        case rel => exact ⟨j+1+1,by go_num,by omega,by omega,Nat.le_refl _,Lib.hid (M1.out.below HB5.out),Lib.hid (MB.out.trans (Below.mono HB5.out PW.out))⟩)
    ·have h1:¬ (k:Int)<(L2.length:Int):=by omega
     go_wp2_with (fail)
     go_ret
     exact ⟨rfl,HB3.out.trans (MB.out.mono (by have:=HB3.out.size;have:=HP.out;omega))⟩
end
theorem transhumancelaw9_ManiOrders.walked (a0:Int) (a1:Option Addr) (len1 cap1:Nat) (z1:List Int) (w:World) (_:(Lit.int .i64 a0).wf=true) (w1:(a1=none∧len1=0∧cap1=0∧z1=[])∨∃ x,a1=some x∧len1≤cap1∧cap1≤maxLen∧z1.length=cap1∧(∀ i,i<z1.length→w.cell? (x.add i)=some (.int .i64 (z1.getD i 0)))∧∀ n ∈ z1,(Lit.int .i64 n).wf=true) (_:len1 * 8≤140737488351232) (hG:GL w) :
  Calls Tryz.prog 8 #[.int .i64 a0,.slice a1 len1 cap1] w fun e w' => e=.returned (.bool true)∧Below w.heap.size w w':=by
 obtain ⟨l1,rfl,hr1,hm1,hw1,hc1⟩:=ReadsInt.ofRowC w1
 exact orders_calls w a0 a1 cap1 l1 (Kd.C_of_reads (d:=(0:Int)) (h1:=fun _ => rfl) hr1) hc1 hG
end Go.Proofs.YtjiidlkkkednoaaGreatDoor.Q
end
section
namespace Go.Proofs.YtjiidlkkkednoaaGreatDoor.Q
open Go.RowKit Go.Proofs.YtjiidlkkkednoaaGreatDoorW.PrintWords Go.Proofs.YtjiidlkkkednoaaGreatDoorW.PrintLast Go.Proofs.YtjiidlkkkednoaaGreatDoorW.PrintMore
attribute [local go_sem] max2_int min2_int max_two min_two max_three min_three max_four min_four
set_option linter.unusedVariables false
set_option linter.unusedSimpArgs false
def transhumancelaw9_ManiOrders.Pure:Prop:=True
theorem transhumancelaw9_ManiOrders.walk (P:transhumancelaw9_ManiOrders.Pure) (a0:Int) (a1:Option Addr) (len1 cap1:Nat) (z1:List Int) (w:World) (w0:(Lit.int .i64 a0).wf=true) (w1:(a1=none∧len1=0∧cap1=0∧z1=[])∨∃ x,a1=some x∧len1≤cap1∧cap1≤maxLen∧z1.length=cap1∧(∀ i,i<z1.length→w.cell? (x.add i)=some (.int .i64 (z1.getD i 0)))∧∀ n ∈ z1,(Lit.int .i64 n).wf=true) (y1:len1 * 8≤140737488351232) (hG:GL w) :
  Calls Tryz.prog 8 #[.int .i64 a0,.slice a1 len1 cap1] w fun e w' => e=.returned (.bool true)∧Below w.heap.size w w':=by
 exact transhumancelaw9_ManiOrders.walked a0 a1 len1 cap1 z1 w w0 w1 y1 hG
end Go.Proofs.YtjiidlkkkednoaaGreatDoor.Q
end
