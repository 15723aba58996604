import Derived.Test.YtjdjljgbfpkbdaaGreatDoorZQ0
import Derived.Test.YtjdjljgbfpkbdaaGreatDoorZQ20
namespace Go.Proofs.YtjdjljgbfpkbdaaGreatDoor.Q
open Go.RowKit Go.Proofs.YtjdjljgbfpkbdaaGreatDoorW.PrintWords Go.Proofs.YtjdjljgbfpkbdaaGreatDoorW.PrintLast Go.Proofs.YtjdjljgbfpkbdaaGreatDoorW.PrintMore
attribute [local go_sem] max2_int min2_int max_two min_two max_three min_three max_four min_four
set_option linter.unusedVariables false
set_option linter.unusedSimpArgs false
mutual
def transhumancelaw5_Locks.l0:Nat→List Int→List Int→Int→List (S43)→Int→Option ((List (S43)))
 | 0,_,_,_,_,_ => none
 | k+1,x0,x1,x2,x7,x8 => if x8<(x0.length:Int) then (transhumancelaw5_Locks.j1 k x0 x1 x2 x7 x8 (decide (x8<x2))) else (transhumancelaw5_Locks.j1 k x0 x1 x2 x7 x8 false)
def transhumancelaw5_Locks.j1:Nat→List Int→List Int→Int→List (S43)→Int→Bool→Option ((List (S43)))
 | 0,_,_,_,_,_,_ => none
 | k+1,x0,x1,x2,x7,x8,x20 => if x20=true then (if 0≤x8 then (if x8<(x0.length:Int) then ((transhumancelaw5_Lock.f k (rd x0 x8) (wrap64 (Int.tdiv (rd x0 x8) 7)) x1).bind fun bt204 => (transhumancelaw5_Locks.l1 k x0 x1 x2 x7 x8 false 0 bt204.1 bt204.2.1 bt204.2.2.1 bt204.2.2.2.1 bt204.2.2.2.2)) else (none)) else (none)) else (some x7)
def transhumancelaw5_Locks.l1:Nat→List Int→List Int→Int→List (S43)→Int→Bool→Int→ByteArray→ByteArray→ByteArray→ByteArray→ByteArray→Option ((List (S43)))
 | 0,_,_,_,_,_,_,_,_,_,_,_,_ => none
 | k+1,x0,x1,x2,x7,x8,x10,x11,x210000,x210001,x210002,x210003,x210004 => if x11<(x7.length:Int) then (if x10=true then (transhumancelaw5_Locks.l1 k x0 x1 x2 x7 x8 true (wrap64 (x11+1)) x210000 x210001 x210002 x210003 x210004) else (if 0≤x11 then (transhumancelaw5_Locks.l1 k x0 x1 x2 x7 x8 (((rd_T43 x7 x11).f0).toList == x210000.toList) (wrap64 (x11+1)) x210000 x210001 x210002 x210003 x210004) else (none))) else (if x10=true then (transhumancelaw5_Locks.l0 k x0 x1 x2 x7 (wrap64 (x8+1))) else (if x7.length<1759218604441 then (transhumancelaw5_Locks.l0 k x0 x1 x2 (x7++[(⟨x210000,x210001,x210002,x210003,x210004⟩:S43)]) (wrap64 (x8+1))) else (none)))
end
def transhumancelaw5_Locks.f (k:Nat) (l0:List Int) (l1:List Int) (a2:Int):Option ((List (S43))):=transhumancelaw5_Locks.l0 k l0 l1 a2 ([]:List (S43)) 0
def transhumancelaw5_Locks.T5:Bool × List (List Nat × List Nat):=(true,[([],[]),([],[]),([0,1],[0,1]),([2],[2]),([],[]),([],[]),([4,5],[4,5]),([6],[6]),([7],[7]),([],[]),([3,8,9],[3,8,9]),([],[]),([11,10,10,0,1,2,3,4,5,6,7,8,9,10,11],[10,11])])
def transhumancelaw5_Locks.B5:List Nat:=[0,0,3,7,0,0,48,112,240,0,1023,0,4095]
theorem transhumancelaw5_Locks.tab5:rtab .any (opsOf Tryz.f9 5)=transhumancelaw5_Locks.T5:=by kernel_rfl
theorem transhumancelaw5_Locks.bits5:waitsOk transhumancelaw5_Locks.T5.2 transhumancelaw5_Locks.B5=true:=by kernel_rfl
def transhumancelaw5_Locks.T10:Bool × List (List Nat × List Nat):=(true,[([],[]),([0],[0]),([1],[1]),([1],[1]),([2,3,1],[1,2,3]),([4,1],[1,4]),([5,1],[1,5]),([1],[1]),([7,1],[1,7]),([6,8,1],[1,6,8]),([1,9],[1,9]),([10,1,0,1,2,3,4,5,6,7,8,9,10],[0,10])])
def transhumancelaw5_Locks.B10:List Nat:=[0,1,3,3,15,31,63,3,131,511,1023,2047]
theorem transhumancelaw5_Locks.tab10:rtab .any (opsOf Tryz.f9 10)=transhumancelaw5_Locks.T10:=by kernel_rfl
theorem transhumancelaw5_Locks.bits10:waitsOk transhumancelaw5_Locks.T10.2 transhumancelaw5_Locks.B10=true:=by kernel_rfl
set_option maxHeartbeats 8000000 in
set_option maxRecDepth 100000 in
theorem transhumancelaw5_Locks.calls (k:Nat) (A0:Option Addr) (c0:Nat) (l0:List Int) (A1:Option Addr) (c1:Nat) (l1:List Int) (a2:Int) (r:List (S43)) (w:World) (hr0:Kd.C (Kd.int .i64) w A0 l0.length l0) (hc0:l0.length≤c0) (hr1:Kd.C (Kd.int .u8) w A1 l1.length l1) (hc1:l1.length≤c1) (h:transhumancelaw5_Locks.f k l0 l1 a2=some r) :
  Calls Tryz.prog 9 #[.slice A0 l0.length c0,.slice A1 l1.length c1,.int .i64 a2] w fun e w' => ∃ v0_:Value,e=.returned (v0_)∧Kd.R k43 43 w' w.heap.size (fun _ => True) v0_ r∧Below w.heap.size w w':=by
 have hu43:=Tryz.underlying43
 have HR0:=Aside0.mk hr0
 have HC0:=Aside0.mk hc0
 clear hr0 hc0
 have HR1:=Aside0.mk hr1
 have HC1:=Aside0.mk hc1
 clear hr1 hc1
 have HB:=Aside0.mk (Below.refl w.heap.size w)
 have H:(transhumancelaw5_Locks.l0 k l0 l1 a2 ([]:List (S43)) 0)=some r:=h
 clear h
 have H':=Aside0.mk H
 clear H
 go_enter Tryz.func9,Tryz.ntmps9
 go_wp2
 go_loopg [7,8] k (fun kq v7 v8 w' => ∃ (x7_1:List (S43)) (x8_1:Int),v8=.int .i64 x8_1∧Aside0 (transhumancelaw5_Locks.l0 kq l0 l1 a2 x7_1 x8_1=some r)∧Aside0 (kq≤k)∧Aside0 (Kd.R k43 43 w' w.heap.size (fun _ => True) v7 x7_1)∧Aside0 (Below w.heap.size w w'))
 case atStart => exact ⟨(([]:List (S43))),(0),(by first|rfl|(simp;done)|(simp [*];done)|(simp;exact (fun l_:List UInt8 => by cases l_ <;> rfl:∀ l_:List UInt8,l_.isEmpty=!(l_ != [])) _)),H',⟨Nat.le_refl _⟩,⟨by first|exact Kd.R_nil _ _ _ _ _|exact Kd.N_nil _ _ _ _ _|exact Kd.V_nil _ _ _ _ _|exact Kd.Q_nil _ _ _ _ _|exact Kd.S_nil _ _ _ _ _⟩,⟨by repeat (first|(with_reducible first|exact HB.out|apply below_alloc|apply pw_below_drewN|apply below_drew1)|exact HB.out)⟩⟩
 case round =>
  clear H'
  try clear c1
  try clear p2
  obtain ⟨x7_1,x8_1,rfl,HA,HK1,HO_7,HB⟩:=hrel
  cases gk with
  | zero => exact absurd HA.out (by simp [transhumancelaw5_Locks.l0])
  | succ k1 =>
   have H:=HA.out
   clear HA
   simp only [transhumancelaw5_Locks.l0] at H
   have HC4:=Aside0.mk H
   clear H
   go_upto_region 3 with (fail)
   go_cut [20] (fun v20 wc => ∃ (kq:Nat) (x20_3:Bool),v20=.bool x20_3∧Aside0 (transhumancelaw5_Locks.j1 kq l0 l1 a2 x7_1 x8_1 x20_3=some r)∧Aside0 (kq≤k1)∧Aside0 (Kd.R k43 43 wc w.heap.size (fun _ => True) u7 x7_1)∧Aside0 (Below w.heap.size w wc))
   case first =>
    have H:=HC4.out
    clear HC4
    by_cases c5:x8_1<(l0.length:Int)
    ·rw [if_pos c5] at H
     have c5b0:decide (x8_1<(l0.length:Int))=true:=decide_eq_true c5
     clear c5
     (first|rw [c5b0]|(simp only [i64_w,i32_w];rw [c5b0])|skip)
     have H':=Aside0.mk H
     clear H
     go_wp2
     go_meet
     case rel => exact ⟨_,(decide (x8_1<a2)),(by first|rfl|(simp;done)|(simp [*];done)|(simp;exact (fun l_:List UInt8 => by cases l_ <;> rfl:∀ l_:List UInt8,l_.isEmpty=!(l_ != [])) _)),H',⟨by have:=HK1.out;first|omega|exact Nat.le_refl _⟩,⟨by (with_reducible repeat (first|apply Kd.R_alloc|apply Kd.R_drewN|apply Kd.R_drew));exact HO_7.out⟩,⟨by repeat (first|(with_reducible first|exact HB.out|apply below_alloc|apply pw_below_drewN|apply below_drew1)|exact HB.out)⟩⟩
    ·rw [if_neg c5] at H
     have c5b0:decide (x8_1<(l0.length:Int))=false:=decide_eq_false c5
     clear c5
     (first|rw [c5b0]|(simp only [i64_w,i32_w];rw [c5b0])|skip)
     have H':=Aside0.mk H
     clear H
     go_wp2
     go_meet
     case rel => exact ⟨_,(false),(by first|rfl|(simp;done)|(simp [*];done)|(simp;exact (fun l_:List UInt8 => by cases l_ <;> rfl:∀ l_:List UInt8,l_.isEmpty=!(l_ != [])) _)),H',⟨by have:=HK1.out;first|omega|exact Nat.le_refl _⟩,⟨by (with_reducible repeat (first|apply Kd.R_alloc|apply Kd.R_drewN|apply Kd.R_drew));exact HO_7.out⟩,⟨by repeat (first|(with_reducible first|exact HB.out|apply below_alloc|apply pw_below_drewN|apply below_drew1)|exact HB.out)⟩⟩
   case rest =>
    clear HC4
    try clear c1
    try clear p2
    try clear c5
    try clear c5b0
    try clear p2
    obtain ⟨kq,x20_3,rfl,HA,HJ3,HO_7,HB⟩:=hcut
    cases kq with
    | zero => exact absurd HA.out (by simp [transhumancelaw5_Locks.j1])
    | succ kj3 =>
     have H:=HA.out
     clear HA
     simp only [transhumancelaw5_Locks.j1] at H
     by_cases c6:x20_3=true
     ·subst c6
      have H1:(if 0≤x8_1 then (if x8_1<(l0.length:Int) then ((transhumancelaw5_Lock.f kj3 (rd l0 x8_1) (wrap64 (Int.tdiv (rd l0 x8_1) 7)) l1).bind fun bt204 => (transhumancelaw5_Locks.l1 kj3 l0 l1 a2 x7_1 x8_1 false 0 bt204.1 bt204.2.1 bt204.2.2.1 bt204.2.2.2.1 bt204.2.2.2.2)) else (none)) else (none))=some r:=by rw [if_pos rfl] at H;exact H
      clear H
      have H:=H1
      clear H1
      by_cases c7:0≤x8_1
      ·rw [if_pos c7] at H
       have c7b0:decide (0≤x8_1)=true:=decide_eq_true c7
       clear c7
       by_cases c8:x8_1<(l0.length:Int)
       ·rw [if_pos c8] at H
        have c8b0:decide (x8_1<(l0.length:Int))=true:=decide_eq_true c8
        clear c8
        replace H:=Option.bind_eq_some_iff.mp H
        obtain ⟨⟨t204,t205,t206,t207,t208⟩,A90,H⟩:=H
        replace H:(transhumancelaw5_Locks.l1 kj3 l0 l1 a2 x7_1 x8_1 false 0 t204 t205 t206 t207 t208)=some r:=H
        have A9:=Aside0.mk A90
        clear A90
        have H':=Aside0.mk H
        clear H
        try go_wp2
        have n0_:=Aside0.mk (Kd.R_drew HO_7.out)
        have n1_:=Aside0.mk (below_drew1 HB.out)
        clear HO_7
        clear HB
        have HO_7:=n0_
        have HB:=n1_
        clear n0_ n1_
        have p202:0≤(x8_1:Int):=of_decide_eq_true (by first|(with_reducible assumption)|assumption)
        have q202:x8_1<(l0.length:Int):=of_decide_eq_true (by first|(with_reducible assumption)|assumption)
        obtain ⟨ad202,e202,hx202_0⟩:=Kd.at_int HR0.out x8_1 p202 q202
        have hw202_0:=hx202_0
        cases e202
        replace hx202_0:=(HB.out.cell (World.block_lt_of_cell? w _ hx202_0)).trans hx202_0
        replace p202:=eq_true p202
        replace q202:=eq_true q202
        have p203:0≤(x8_1:Int):=of_decide_eq_true (by first|(with_reducible assumption)|assumption)
        have q203:x8_1<(l0.length:Int):=of_decide_eq_true (by first|(with_reducible assumption)|assumption)
        obtain ⟨ad203,e203,hx203_0⟩:=Kd.at_int HR0.out x8_1 p203 q203
        have hw203_0:=hx203_0
        obtain rfl:ad202=ad203:=(by injection e203)
        replace hx203_0:=(HB.out.cell (World.block_lt_of_cell? w _ hx203_0)).trans hx203_0
        replace p203:=eq_true p203
        replace q203:=eq_true q203
        refine start_ (n:=13) (S:=fun w' => w'.cell? (ad202.add (x8_1).toNat)=some (.int .i64 (rd l0 x8_1))∧w'.cell? (ad202.add (x8_1).toNat)=some (.int .i64 (rd l0 x8_1))) (ds:=[]) #[false,false,false,false,false,false,false,false,false,false,false,false,false] (by kernel_rfl) rfl rfl ⟨((HB.out.cell (World.block_lt_of_cell? w _ hw202_0)).trans hw202_0),((HB.out.cell (World.block_lt_of_cell? w _ hw203_0)).trans hw203_0)⟩ (fun hHeld => ?_);refine with_tabW transhumancelaw5_Locks.tab5 transhumancelaw5_Locks.bits5 (fun HT_ HW_ => ?_)
        generalize wc.drew=w10 at HO_7 HB hx202_0 hx203_0 hHeld ⊢
        refine pure_ (i:=0) (N:=some 23) (v:=?_) (a':=?_) #[true,false,false,false,false,false,false,false,false,false,false,false,false] rfl rfl (any_of HT_.out (by kernel_rfl)) (fun _ _ _ h => h) (Or.inl ⟨by rfl,?_⟩) ?_ ?_
        rotate_left
        ·intro w'
         go_simp
         with_reducible rfl
        rotate_left
        ·simp only [Act.put,List.setIfInBounds_toArray,List.set_cons_zero,List.set_cons_succ,i64_w,i32_w]
         rfl
        refine pure_ (i:=1) (N:=some 24) (v:=?_) (a':=?_) #[true,true,false,false,false,false,false,false,false,false,false,false,false] rfl rfl (any_of HT_.out (by kernel_rfl)) (fun _ _ _ h => h) (Or.inl ⟨by rfl,?_⟩) ?_ ?_
        rotate_left
        ·intro w'
         go_simp
         with_reducible rfl
        rotate_left
        ·simp only [Act.put,List.setIfInBounds_toArray,List.set_cons_zero,List.set_cons_succ,i64_w,i32_w]
         rfl
        refine pure_ (i:=2) (N:=some 25) (v:=?_) (a':=?_) #[true,true,true,false,false,false,false,false,false,false,false,false,false] rfl rfl (any_of HT_.out (by kernel_rfl)) (fun _ _ _ h => h) (Or.inl ⟨by rfl,?_⟩) ?_ ?_
        rotate_left
        ·intro w'
         go_simp
         with_reducible rfl
        rotate_left
        ·simp only [Act.put,List.setIfInBounds_toArray,List.set_cons_zero,List.set_cons_succ,i64_w,i32_w]
         rfl
        refine pure_ (i:=4) (N:=some 27) (v:=?_) (a':=?_) #[true,true,true,false,true,false,false,false,false,false,false,false,false] rfl rfl (any_of HT_.out (by kernel_rfl)) (fun _ _ _ h => h) (Or.inl ⟨by rfl,?_⟩) ?_ ?_
        rotate_left
        ·intro w'
         go_simp
         with_reducible rfl
        rotate_left
        ·simp only [Act.put,List.setIfInBounds_toArray,List.set_cons_zero,List.set_cons_succ,i64_w,i32_w]
         rfl
        refine pure_ (i:=5) (N:=some 28) (v:=?_) (a':=?_) #[true,true,true,false,true,true,false,false,false,false,false,false,false] rfl rfl (any_of HT_.out (by kernel_rfl)) (fun _ _ _ h => h) (Or.inl ⟨by rfl,?_⟩) ?_ ?_
        rotate_left
        ·intro w'
         go_simp
         with_reducible rfl
        rotate_left
        ·simp only [Act.put,List.setIfInBounds_toArray,List.set_cons_zero,List.set_cons_succ,i64_w,i32_w]
         rfl
        refine pure_ (i:=6) (N:=some 29) (v:=?_) (a':=?_) #[true,true,true,false,true,true,true,false,false,false,false,false,false] rfl rfl (any_of HT_.out (by kernel_rfl)) (fun _ _ _ h => h) (Or.inl ⟨by rfl,?_⟩) ?_ ?_
        rotate_left
        ·intro w'
         go_simp
         with_reducible rfl
        rotate_left
        ·simp only [Act.put,List.setIfInBounds_toArray,List.set_cons_zero,List.set_cons_succ,i64_w,i32_w]
         rfl
        refine pure_ (i:=9) (N:=some 32) (v:=?_) (a':=?_) #[true,true,true,false,true,true,true,false,false,true,false,false,false] rfl rfl (any_of HT_.out (by kernel_rfl)) (fun _ _ _ h => h) (Or.inl ⟨by rfl,?_⟩) ?_ ?_
        rotate_left
        ·intro w'
         go_simp
         with_reducible rfl
        rotate_left
        ·simp only [Act.put,List.setIfInBounds_toArray,List.set_cons_zero,List.set_cons_succ,i64_w,i32_w]
         rfl
        refine take_ (i:=3) (N:=some 26) (v:=?_) (a':=?_) #[true,true,true,true,true,true,true,false,false,true,false,false,false] rfl rfl (take_ofW HT_.out HW_.out (by kernel_rfl)) (fun _ _ _ h => h) (Or.inl ⟨by rfl,?_⟩) hHeld ?_ ?_
        rotate_left
        ·rintro w' ⟨s0,s1⟩
         go_simp
         with_reducible rfl
        rotate_left
        ·simp only [Act.put,List.setIfInBounds_toArray,List.set_cons_zero,List.set_cons_succ,i64_w,i32_w]
         rfl
        refine take_ (i:=7) (N:=some 30) (v:=?_) (a':=?_) #[true,true,true,true,true,true,true,true,false,true,false,false,false] rfl rfl (take_ofW HT_.out HW_.out (by kernel_rfl)) (fun _ _ _ h => h) (Or.inl ⟨by rfl,?_⟩) hHeld ?_ ?_
        rotate_left
        ·rintro w' ⟨s0,s1⟩
         go_simp
         with_reducible rfl
        rotate_left
        ·simp only [Act.put,List.setIfInBounds_toArray,List.set_cons_zero,List.set_cons_succ,i64_w,i32_w]
         rfl
        refine pure_ (i:=8) (N:=some 31) (v:=?_) (a':=?_) #[true,true,true,true,true,true,true,true,true,true,false,false,false] rfl rfl (any_of HT_.out (by kernel_rfl)) (fun _ _ _ h => h) (Or.inl ⟨by rfl,?_⟩) ?_ ?_
        rotate_left
        ·intro w'
         go_simp
         with_reducible rfl
        rotate_left
        ·simp only [Act.put,List.setIfInBounds_toArray,List.set_cons_zero,List.set_cons_succ,i64_w,i32_w]
         rfl
        refine join_ (σ:=Nat) 1 #[true,true,true,true,true,true,true,true,true,true,true,true,false] (fun s_ => [(33,.agg #[.string t204,.string t205,.string t206,.string t207,.string t208]),(9,.pointer (some ⟨s_,0,none⟩))]) (fun s_ w' => (w'.cell? (ad202.add (x8_1).toNat)=some (.int .i64 (rd l0 x8_1))∧w'.cell? (ad202.add (x8_1).toNat)=some (.int .i64 (rd l0 x8_1)))∧(Kd.R k43 43 w' w.heap.size (fun k_ => k_≠s_) u7 x7_1)∧(w'.heap[s_]?=some (.cells #[.string (⟨#[]⟩:ByteArray),.string (⟨#[]⟩:ByteArray),.string (⟨#[]⟩:ByteArray),.string (⟨#[]⟩:ByteArray),.string (⟨#[]⟩:ByteArray)] 43 (0,0)))∧(w.heap.size≤s_)∧(w.heap.size≤s_)∧(Below w.heap.size w w')) ?_ ?_
        rotate_left
        ·intro hCont
         refine two_ (i:=10) (j:=11) (Ni:=some 33) (Nj:=some 9) #[true,true,true,true,true,true,true,true,true,true,true,false,false] #[true,true,true,true,true,true,true,true,true,true,false,true,false] rfl rfl rfl rfl (two_of HT_.out (by kernel_rfl)) (by decide) (by decide) (fun K hK => ?_) (fun K hK => ?_)
         ·skip
          refine goes_ Tryz.func19 (by kernel_rfl) rfl #[.int .i64 (rd l0 x8_1),.int .i64 (wrap64 (Int.tdiv (rd l0 x8_1) 7)),.slice A1 l1.length c1] (by rfl) rfl rfl (by (try simp only [List.map_toArray,List.map_cons,List.map_nil]);first|done|rfl|(simp only [List.length_drop,List.length_take];rfl)) ?_
          with_reducible refine (transhumancelaw5_Lock.calls kj3 (rd l0 x8_1) (wrap64 (Int.tdiv (rd l0 x8_1) 7)) _ _ l1 t204 t205 t206 t207 t208 _ ?side1 ?side2 A9.out).mono ?_
          (case side1 => repeat (first|exact (Kd.C_below HR1.out HB.out)|(with_reducible refine Kd.C_alloc ?_ _)|(with_reducible refine Kd.C_drewN ?_ _)|(with_reducible refine Kd.C_drew ?_)))
          (case side2 => exact HC1.out)
          rintro e w11 ⟨rfl,hb⟩
          refine ⟨_,rfl,?_⟩
          have n0_:=Aside0.mk (Kd.R_below (by (with_reducible repeat (first|apply Kd.R_alloc|apply Kd.R_drewN|apply Kd.R_drew));exact HO_7.out) hb)
          have n1_:=Aside0.mk (below_step (by repeat (first|(with_reducible first|exact HB.out|apply below_alloc|apply pw_below_drewN|apply below_drew1)|exact HB.out)) hb)
          clear HO_7
          clear HB
          have HO_7:=n0_
          have HB:=n1_
          clear n0_ n1_
          (try clear hb)
          (try clear hb2)
          (try clear hk)
          (try clear hi)
          refine hK.out _ _ ⟨((HB.out.cell (World.block_lt_of_cell? w _ hw202_0)).trans hw202_0),((HB.out.cell (World.block_lt_of_cell? w _ hw203_0)).trans hw203_0)⟩ (fun hHeld => ?_)
          clear hK K
          refine norm_ (a':=?_) ?_ ?_
          rotate_left
          ·show Act.put _ (some 33) _=_
           simp only [Act.put,List.setIfInBounds_toArray,List.set_cons_zero,List.set_cons_succ,i64_w,i32_w]
           rfl
          refine one_ (i:=11) (N:=some 9) #[true,true,true,true,true,true,true,true,true,true,true,true,false] rfl rfl (one_of HT_.out (by kernel_rfl)) (by decide) (fun K hK => ?_)
          refine box_step ?hg (N:=9) ?hd (cs:=#[.string (⟨#[]⟩:ByteArray),.string (⟨#[]⟩:ByteArray),.string (⟨#[]⟩:ByteArray),.string (⟨#[]⟩:ByteArray),.string (⟨#[]⟩:ByteArray)]) (t:=43) ?hr ?_;(case hd => rfl);(case hg => rfl);(case hr => first|(go_simp;done)|(go_simp;rfl))
          intro gb209 hg w12 hbox hb
          have n0_:=Aside0.mk (Kd.R_below (Kd.R_elderB (by (with_reducible repeat (first|apply Kd.R_alloc|apply Kd.R_drewN|apply Kd.R_drew));exact HO_7.out) gb209 (Nat.le_of_eq hg.symm)) hb)
          have n1_:=Aside0.mk (below_step (by repeat (first|(with_reducible first|exact HB.out|apply below_alloc|apply pw_below_drewN|apply below_drew1)|exact HB.out)) hb)
          have n2_:=Aside0.mk (hbox)
          have n3_:=Aside0.mk ((by rw [hg];exact (below_size (by repeat (first|(with_reducible first|exact HB.out|apply below_alloc|apply pw_below_drewN|apply below_drew1)|exact HB.out))):w.heap.size≤gb209))
          have n4_:=Aside0.mk ((by rw [hg];exact (below_size (by repeat (first|(with_reducible first|exact HB.out|apply below_alloc|apply pw_below_drewN|apply below_drew1)|exact HB.out))):w.heap.size≤gb209))
          clear HO_7
          clear HB
          have HO_7:=n0_
          have HB:=n1_
          have BK209:=n2_
          have GW209:=n3_
          have GE209:=n4_
          clear n0_ n1_ n2_ n3_ n4_
          clear hb hbox hg
          refine hK.out _ _ ⟨((HB.out.cell (World.block_lt_of_cell? w _ hw202_0)).trans hw202_0),((HB.out.cell (World.block_lt_of_cell? w _ hw203_0)).trans hw203_0)⟩ (fun hHeld => ?_)
          clear hK K
          refine norm_ (a':=?_) ?_ ?_
          rotate_left
          ·show Act.put _ (some 9) _=_
           simp only [Act.put,List.setIfInBounds_toArray,List.set_cons_zero,List.set_cons_succ,i64_w,i32_w]
           rfl
          exact norm_ (by simp only [putAll,Act.put,List.setIfInBounds_toArray,List.set_cons_zero,List.set_cons_succ]) (hCont (gb209) _ ⟨hHeld,(by (with_reducible repeat (first|apply Kd.R_alloc|apply Kd.R_drewN|apply Kd.R_drew));exact Kd.R_mono HO_7.out (fun _ hk => hk.2)),(by (with_reducible repeat (first|refine blk_drewN ?_ _|refine blk_drew ?_|refine blk_alloc ?_ _));exact BK209.out),GW209.out,GE209.out,(by repeat (first|(with_reducible first|exact HB.out|apply below_alloc|apply pw_below_drewN|apply below_drew1|refine below_set ?_ GE209.out)|exact HB.out))⟩)
         ·skip
          refine box_step ?hg (N:=9) ?hd (cs:=#[.string (⟨#[]⟩:ByteArray),.string (⟨#[]⟩:ByteArray),.string (⟨#[]⟩:ByteArray),.string (⟨#[]⟩:ByteArray),.string (⟨#[]⟩:ByteArray)]) (t:=43) ?hr ?_;(case hd => rfl);(case hg => rfl);(case hr => first|(go_simp;done)|(go_simp;rfl))
          intro gb209 hg w11 hbox hb
          have n0_:=Aside0.mk (Kd.R_below (Kd.R_elderB (by (with_reducible repeat (first|apply Kd.R_alloc|apply Kd.R_drewN|apply Kd.R_drew));exact HO_7.out) gb209 (Nat.le_of_eq hg.symm)) hb)
          have n1_:=Aside0.mk (below_step (by repeat (first|(with_reducible first|exact HB.out|apply below_alloc|apply pw_below_drewN|apply below_drew1)|exact HB.out)) hb)
          have n2_:=Aside0.mk (hbox)
          have n3_:=Aside0.mk ((by rw [hg];exact (below_size (by repeat (first|(with_reducible first|exact HB.out|apply below_alloc|apply pw_below_drewN|apply below_drew1)|exact HB.out))):w.heap.size≤gb209))
          have n4_:=Aside0.mk ((by rw [hg];exact (below_size (by repeat (first|(with_reducible first|exact HB.out|apply below_alloc|apply pw_below_drewN|apply below_drew1)|exact HB.out))):w.heap.size≤gb209))
          clear HO_7
          clear HB
          have HO_7:=n0_
          have HB:=n1_
          have BK209:=n2_
          have GW209:=n3_
          have GE209:=n4_
          clear n0_ n1_ n2_ n3_ n4_
          clear hb hbox hg
          refine hK.out _ _ ⟨((HB.out.cell (World.block_lt_of_cell? w _ hw202_0)).trans hw202_0),((HB.out.cell (World.block_lt_of_cell? w _ hw203_0)).trans hw203_0)⟩ (fun hHeld => ?_)
          clear hK K
          refine norm_ (a':=?_) ?_ ?_
          rotate_left
          ·show Act.put _ (some 9) _=_
           simp only [Act.put,List.setIfInBounds_toArray,List.set_cons_zero,List.set_cons_succ,i64_w,i32_w]
           rfl
          refine one_ (i:=10) (N:=some 33) #[true,true,true,true,true,true,true,true,true,true,true,true,false] rfl rfl (one_of HT_.out (by kernel_rfl)) (by decide) (fun K hK => ?_)
          refine goes_ Tryz.func19 (by kernel_rfl) rfl #[.int .i64 (rd l0 x8_1),.int .i64 (wrap64 (Int.tdiv (rd l0 x8_1) 7)),.slice A1 l1.length c1] (by rfl) rfl rfl (by (try simp only [List.map_toArray,List.map_cons,List.map_nil]);first|done|rfl|(simp only [List.length_drop,List.length_take];rfl)) ?_
          with_reducible refine (transhumancelaw5_Lock.calls kj3 (rd l0 x8_1) (wrap64 (Int.tdiv (rd l0 x8_1) 7)) _ _ l1 t204 t205 t206 t207 t208 _ ?side1 ?side2 A9.out).mono ?_
          (case side1 => repeat (first|exact (Kd.C_below HR1.out HB.out)|(with_reducible refine Kd.C_alloc ?_ _)|(with_reducible refine Kd.C_drewN ?_ _)|(with_reducible refine Kd.C_drew ?_)))
          (case side2 => exact HC1.out)
          rintro e w12 ⟨rfl,hb⟩
          refine ⟨_,rfl,?_⟩
          have n0_:=Aside0.mk (Kd.R_below (by (with_reducible repeat (first|apply Kd.R_alloc|apply Kd.R_drewN|apply Kd.R_drew));exact HO_7.out) hb)
          have n1_:=Aside0.mk (blk_below (g:=gb209) (o:=.cells #[.string (⟨#[]⟩:ByteArray),.string (⟨#[]⟩:ByteArray),.string (⟨#[]⟩:ByteArray),.string (⟨#[]⟩:ByteArray),.string (⟨#[]⟩:ByteArray)] 43 (0,0)) (by (with_reducible repeat (first|refine blk_drewN ?_ _|refine blk_drew ?_|refine blk_alloc ?_ _));exact BK209.out) hb)
          have n2_:=Aside0.mk (below_step (by repeat (first|(with_reducible first|exact HB.out|apply below_alloc|apply pw_below_drewN|apply below_drew1|refine below_set ?_ GE209.out)|exact HB.out)) hb)
          clear HO_7
          clear BK209
          clear HB
          have HO_7:=n0_
          have BK209:=n1_
          have HB:=n2_
          clear n0_ n1_ n2_
          (try clear hb)
          (try clear hb2)
          (try clear hk)
          (try clear hi)
          refine hK.out _ _ ⟨((HB.out.cell (World.block_lt_of_cell? w _ hw202_0)).trans hw202_0),((HB.out.cell (World.block_lt_of_cell? w _ hw203_0)).trans hw203_0)⟩ (fun hHeld => ?_)
          clear hK K
          refine norm_ (a':=?_) ?_ ?_
          rotate_left
          ·show Act.put _ (some 33) _=_
           simp only [Act.put,List.setIfInBounds_toArray,List.set_cons_zero,List.set_cons_succ,i64_w,i32_w]
           rfl
          exact norm_ (by simp only [putAll,Act.put,List.setIfInBounds_toArray,List.set_cons_zero,List.set_cons_succ]) (hCont (gb209) _ ⟨hHeld,(by (with_reducible repeat (first|apply Kd.R_alloc|apply Kd.R_drewN|apply Kd.R_drew));exact Kd.R_mono HO_7.out (fun _ hk => hk.2)),(by (with_reducible repeat (first|refine blk_drewN ?_ _|refine blk_drew ?_|refine blk_alloc ?_ _));exact BK209.out),GW209.out,GE209.out,(by repeat (first|(with_reducible first|exact HB.out|apply below_alloc|apply pw_below_drewN|apply below_drew1|refine below_set ?_ GE209.out)|exact HB.out))⟩)
        rintro gb209 w13 ⟨hS_,h0_,h1_,h2_,h3_,h4_⟩
        have n0_:Aside0 (Kd.R k43 43 w13 w.heap.size (fun k_ => k_≠gb209) u7 x7_1):=⟨h0_⟩
        have n1_:Aside0 (w13.heap[gb209]?=some (.cells #[.string (⟨#[]⟩:ByteArray),.string (⟨#[]⟩:ByteArray),.string (⟨#[]⟩:ByteArray),.string (⟨#[]⟩:ByteArray),.string (⟨#[]⟩:ByteArray)] 43 (0,0))):=⟨h1_⟩
        have n2_:Aside0 (w.heap.size≤gb209):=⟨h2_⟩
        have n3_:Aside0 (w.heap.size≤gb209):=⟨h3_⟩
        have n4_:Aside0 (Below w.heap.size w w13):=⟨h4_⟩
        clear HO_7
        clear HB
        clear h0_ h1_ h2_ h3_ h4_
        have HO_7:=n0_
        have BK209:=n1_
        have GW209:=n2_
        have GE209:=n3_
        have HB:=n4_
        clear n0_ n1_ n2_ n3_ n4_
        have hHeld:w13.cell? (ad202.add (x8_1).toNat)=some (.int .i64 (rd l0 x8_1))∧w13.cell? (ad202.add (x8_1).toNat)=some (.int .i64 (rd l0 x8_1)):=hS_
        refine norm_ (a':=?_) ?_ ?_
        rotate_left
        ·simp only [putAll,Act.put,List.setIfInBounds_toArray,List.set_cons_zero,List.set_cons_succ]
         rfl
        refine one_ (i:=12) (N:=none) #[true,true,true,true,true,true,true,true,true,true,true,true,true] rfl rfl (one_of HT_.out (by kernel_rfl)) (by decide) (fun K hK => ?_)
        have hs14:w13.cell? ⟨gb209,0,none⟩=some (.string (⟨#[]⟩:ByteArray)):=(blk_cell BK209.out 0).trans rfl
        have hfs14:=blk_frozen BK209.out 0
        have hs15:w13.cell? ⟨gb209,1,none⟩=some (.string (⟨#[]⟩:ByteArray)):=(blk_cell BK209.out 1).trans rfl
        have hfs15:=blk_frozen BK209.out 1
        have hs16:w13.cell? ⟨gb209,2,none⟩=some (.string (⟨#[]⟩:ByteArray)):=(blk_cell BK209.out 2).trans rfl
        have hfs16:=blk_frozen BK209.out 2
        have hs17:w13.cell? ⟨gb209,3,none⟩=some (.string (⟨#[]⟩:ByteArray)):=(blk_cell BK209.out 3).trans rfl
        have hfs17:=blk_frozen BK209.out 3
        have hs18:w13.cell? ⟨gb209,4,none⟩=some (.string (⟨#[]⟩:ByteArray)):=(blk_cell BK209.out 4).trans rfl
        have hfs18:=blk_frozen BK209.out 4
        refine skip_ (w1:=?_) (by rfl) rfl ?_ ?_
        rotate_left
        ·go_simp
         rfl
        refine hK.out _ _ ⟨((cell_far (p:=⟨gb209,_,none⟩) (by first|exact Nat.ne_of_lt (Nat.lt_of_lt_of_le (by have:=World.block_lt_of_cell? _ _ hw202_0;first|rwa [add_block] at this|exact this) GW209.out)|(rw [add_block];exact Nat.ne_of_lt (Nat.lt_of_lt_of_le (by have:=World.block_lt_of_cell? _ _ hw202_0;first|rwa [add_block] at this|exact this) GW209.out))|(show (Addr.add _ _).block≠_;rw [add_block];exact Nat.ne_of_lt (Nat.lt_of_lt_of_le (by have:=World.block_lt_of_cell? _ _ hw202_0;first|rwa [add_block] at this|exact this) GW209.out))|(dsimp only;exact Nat.ne_of_lt (Nat.lt_of_lt_of_le (by have:=World.block_lt_of_cell? _ _ hw202_0;first|rwa [add_block] at this|exact this) GW209.out))) _).trans (((cell_far (p:=⟨gb209,_,none⟩) (by first|exact Nat.ne_of_lt (Nat.lt_of_lt_of_le (by have:=World.block_lt_of_cell? _ _ hw202_0;first|rwa [add_block] at this|exact this) GW209.out)|(rw [add_block];exact Nat.ne_of_lt (Nat.lt_of_lt_of_le (by have:=World.block_lt_of_cell? _ _ hw202_0;first|rwa [add_block] at this|exact this) GW209.out))|(show (Addr.add _ _).block≠_;rw [add_block];exact Nat.ne_of_lt (Nat.lt_of_lt_of_le (by have:=World.block_lt_of_cell? _ _ hw202_0;first|rwa [add_block] at this|exact this) GW209.out))|(dsimp only;exact Nat.ne_of_lt (Nat.lt_of_lt_of_le (by have:=World.block_lt_of_cell? _ _ hw202_0;first|rwa [add_block] at this|exact this) GW209.out))) _).trans (((cell_far (p:=⟨gb209,_,none⟩) (by first|exact Nat.ne_of_lt (Nat.lt_of_lt_of_le (by have:=World.block_lt_of_cell? _ _ hw202_0;first|rwa [add_block] at this|exact this) GW209.out)|(rw [add_block];exact Nat.ne_of_lt (Nat.lt_of_lt_of_le (by have:=World.block_lt_of_cell? _ _ hw202_0;first|rwa [add_block] at this|exact this) GW209.out))|(show (Addr.add _ _).block≠_;rw [add_block];exact Nat.ne_of_lt (Nat.lt_of_lt_of_le (by have:=World.block_lt_of_cell? _ _ hw202_0;first|rwa [add_block] at this|exact this) GW209.out))|(dsimp only;exact Nat.ne_of_lt (Nat.lt_of_lt_of_le (by have:=World.block_lt_of_cell? _ _ hw202_0;first|rwa [add_block] at this|exact this) GW209.out))) _).trans (((cell_far (p:=⟨gb209,_,none⟩) (by first|exact Nat.ne_of_lt (Nat.lt_of_lt_of_le (by have:=World.block_lt_of_cell? _ _ hw202_0;first|rwa [add_block] at this|exact this) GW209.out)|(rw [add_block];exact Nat.ne_of_lt (Nat.lt_of_lt_of_le (by have:=World.block_lt_of_cell? _ _ hw202_0;first|rwa [add_block] at this|exact this) GW209.out))|(show (Addr.add _ _).block≠_;rw [add_block];exact Nat.ne_of_lt (Nat.lt_of_lt_of_le (by have:=World.block_lt_of_cell? _ _ hw202_0;first|rwa [add_block] at this|exact this) GW209.out))|(dsimp only;exact Nat.ne_of_lt (Nat.lt_of_lt_of_le (by have:=World.block_lt_of_cell? _ _ hw202_0;first|rwa [add_block] at this|exact this) GW209.out))) _).trans (((cell_far (p:=⟨gb209,_,none⟩) (by first|exact Nat.ne_of_lt (Nat.lt_of_lt_of_le (by have:=World.block_lt_of_cell? _ _ hw202_0;first|rwa [add_block] at this|exact this) GW209.out)|(rw [add_block];exact Nat.ne_of_lt (Nat.lt_of_lt_of_le (by have:=World.block_lt_of_cell? _ _ hw202_0;first|rwa [add_block] at this|exact this) GW209.out))|(show (Addr.add _ _).block≠_;rw [add_block];exact Nat.ne_of_lt (Nat.lt_of_lt_of_le (by have:=World.block_lt_of_cell? _ _ hw202_0;first|rwa [add_block] at this|exact this) GW209.out))|(dsimp only;exact Nat.ne_of_lt (Nat.lt_of_lt_of_le (by have:=World.block_lt_of_cell? _ _ hw202_0;first|rwa [add_block] at this|exact this) GW209.out))) _).trans (hHeld.1)))))))))),((cell_far (p:=⟨gb209,_,none⟩) (by first|exact Nat.ne_of_lt (Nat.lt_of_lt_of_le (by have:=World.block_lt_of_cell? _ _ hw203_0;first|rwa [add_block] at this|exact this) GW209.out)|(rw [add_block];exact Nat.ne_of_lt (Nat.lt_of_lt_of_le (by have:=World.block_lt_of_cell? _ _ hw203_0;first|rwa [add_block] at this|exact this) GW209.out))|(show (Addr.add _ _).block≠_;rw [add_block];exact Nat.ne_of_lt (Nat.lt_of_lt_of_le (by have:=World.block_lt_of_cell? _ _ hw203_0;first|rwa [add_block] at this|exact this) GW209.out))|(dsimp only;exact Nat.ne_of_lt (Nat.lt_of_lt_of_le (by have:=World.block_lt_of_cell? _ _ hw203_0;first|rwa [add_block] at this|exact this) GW209.out))) _).trans (((cell_far (p:=⟨gb209,_,none⟩) (by first|exact Nat.ne_of_lt (Nat.lt_of_lt_of_le (by have:=World.block_lt_of_cell? _ _ hw203_0;first|rwa [add_block] at this|exact this) GW209.out)|(rw [add_block];exact Nat.ne_of_lt (Nat.lt_of_lt_of_le (by have:=World.block_lt_of_cell? _ _ hw203_0;first|rwa [add_block] at this|exact this) GW209.out))|(show (Addr.add _ _).block≠_;rw [add_block];exact Nat.ne_of_lt (Nat.lt_of_lt_of_le (by have:=World.block_lt_of_cell? _ _ hw203_0;first|rwa [add_block] at this|exact this) GW209.out))|(dsimp only;exact Nat.ne_of_lt (Nat.lt_of_lt_of_le (by have:=World.block_lt_of_cell? _ _ hw203_0;first|rwa [add_block] at this|exact this) GW209.out))) _).trans (((cell_far (p:=⟨gb209,_,none⟩) (by first|exact Nat.ne_of_lt (Nat.lt_of_lt_of_le (by have:=World.block_lt_of_cell? _ _ hw203_0;first|rwa [add_block] at this|exact this) GW209.out)|(rw [add_block];exact Nat.ne_of_lt (Nat.lt_of_lt_of_le (by have:=World.block_lt_of_cell? _ _ hw203_0;first|rwa [add_block] at this|exact this) GW209.out))|(show (Addr.add _ _).block≠_;rw [add_block];exact Nat.ne_of_lt (Nat.lt_of_lt_of_le (by have:=World.block_lt_of_cell? _ _ hw203_0;first|rwa [add_block] at this|exact this) GW209.out))|(dsimp only;exact Nat.ne_of_lt (Nat.lt_of_lt_of_le (by have:=World.block_lt_of_cell? _ _ hw203_0;first|rwa [add_block] at this|exact this) GW209.out))) _).trans (((cell_far (p:=⟨gb209,_,none⟩) (by first|exact Nat.ne_of_lt (Nat.lt_of_lt_of_le (by have:=World.block_lt_of_cell? _ _ hw203_0;first|rwa [add_block] at this|exact this) GW209.out)|(rw [add_block];exact Nat.ne_of_lt (Nat.lt_of_lt_of_le (by have:=World.block_lt_of_cell? _ _ hw203_0;first|rwa [add_block] at this|exact this) GW209.out))|(show (Addr.add _ _).block≠_;rw [add_block];exact Nat.ne_of_lt (Nat.lt_of_lt_of_le (by have:=World.block_lt_of_cell? _ _ hw203_0;first|rwa [add_block] at this|exact this) GW209.out))|(dsimp only;exact Nat.ne_of_lt (Nat.lt_of_lt_of_le (by have:=World.block_lt_of_cell? _ _ hw203_0;first|rwa [add_block] at this|exact this) GW209.out))) _).trans (((cell_far (p:=⟨gb209,_,none⟩) (by first|exact Nat.ne_of_lt (Nat.lt_of_lt_of_le (by have:=World.block_lt_of_cell? _ _ hw203_0;first|rwa [add_block] at this|exact this) GW209.out)|(rw [add_block];exact Nat.ne_of_lt (Nat.lt_of_lt_of_le (by have:=World.block_lt_of_cell? _ _ hw203_0;first|rwa [add_block] at this|exact this) GW209.out))|(show (Addr.add _ _).block≠_;rw [add_block];exact Nat.ne_of_lt (Nat.lt_of_lt_of_le (by have:=World.block_lt_of_cell? _ _ hw203_0;first|rwa [add_block] at this|exact this) GW209.out))|(dsimp only;exact Nat.ne_of_lt (Nat.lt_of_lt_of_le (by have:=World.block_lt_of_cell? _ _ hw203_0;first|rwa [add_block] at this|exact this) GW209.out))) _).trans (hHeld.2))))))))))⟩ (fun hHeld => ?_)
        clear hK K
        refine done_ (done_of HT_.out (by kernel_rfl)) ?_
        try go_wp2
        go_loopg [10,11] kj3 (fun kq v10 v11 w' => ∃ (x10_3:Bool) (x11_3:Int),v10=.bool x10_3∧v11=.int .i64 x11_3∧Aside0 (transhumancelaw5_Locks.l1 kq l0 l1 a2 x7_1 x8_1 x10_3 x11_3 t204 t205 t206 t207 t208=some r)∧Aside0 (kq≤kj3)∧Aside0 (Kd.R k43 43 w' w.heap.size (fun k_ => k_≠gb209) u7 x7_1)∧Aside0 (w'.heap[gb209]?=some (.cells #[.string t204,.string t205,.string t206,.string t207,.string t208] 43 (0,0)))∧Aside0 (Below w.heap.size w w'))
        case atStart => exact ⟨(false),(0),(by first|rfl|(simp;done)|(simp [*];done)|(simp;exact (fun l_:List UInt8 => by cases l_ <;> rfl:∀ l_:List UInt8,l_.isEmpty=!(l_ != [])) _)),(by first|rfl|(simp;done)|(simp [*];done)|(simp;exact (fun l_:List UInt8 => by cases l_ <;> rfl:∀ l_:List UInt8,l_.isEmpty=!(l_ != [])) _)),H',⟨Nat.le_refl _⟩,⟨by (with_reducible repeat (first|apply Kd.R_alloc|apply Kd.R_drewN|apply Kd.R_drew));exact Kd.R_mono (Kd.R_far (p:=⟨gb209,4,none⟩) (Kd.R_far (p:=⟨gb209,3,none⟩) (Kd.R_far (p:=⟨gb209,2,none⟩) (Kd.R_far (p:=⟨gb209,1,none⟩) (Kd.R_far (p:=⟨gb209,0,none⟩) (Kd.R_mono HO_7.out (fun k_ hk => (⟨hk,hk⟩:_∧k_≠gb209))) (fun _ hk => hk.2) (.string t204)) (fun _ hk => hk.2) (.string t205)) (fun _ hk => hk.2) (.string t206)) (fun _ hk => hk.2) (.string t207)) (fun _ hk => hk.2) (.string t208)) (fun _ hk => hk.1)⟩,⟨by (with_reducible repeat (first|refine blk_drewN ?_ _|refine blk_drew ?_|refine blk_alloc ?_ _));refine blk_put (cs:=#[.string t204,.string t205,.string t206,.string t207,.string (⟨#[]⟩:ByteArray)]) ?_ 4 _ rfl;(with_reducible repeat (first|refine blk_drewN ?_ _|refine blk_drew ?_|refine blk_alloc ?_ _));refine blk_put (cs:=#[.string t204,.string t205,.string t206,.string (⟨#[]⟩:ByteArray),.string (⟨#[]⟩:ByteArray)]) ?_ 3 _ rfl;(with_reducible repeat (first|refine blk_drewN ?_ _|refine blk_drew ?_|refine blk_alloc ?_ _));refine blk_put (cs:=#[.string t204,.string t205,.string (⟨#[]⟩:ByteArray),.string (⟨#[]⟩:ByteArray),.string (⟨#[]⟩:ByteArray)]) ?_ 2 _ rfl;(with_reducible repeat (first|refine blk_drewN ?_ _|refine blk_drew ?_|refine blk_alloc ?_ _));refine blk_put (cs:=#[.string t204,.string (⟨#[]⟩:ByteArray),.string (⟨#[]⟩:ByteArray),.string (⟨#[]⟩:ByteArray),.string (⟨#[]⟩:ByteArray)]) ?_ 1 _ rfl;(with_reducible repeat (first|refine blk_drewN ?_ _|refine blk_drew ?_|refine blk_alloc ?_ _));refine blk_put (cs:=#[.string (⟨#[]⟩:ByteArray),.string (⟨#[]⟩:ByteArray),.string (⟨#[]⟩:ByteArray),.string (⟨#[]⟩:ByteArray),.string (⟨#[]⟩:ByteArray)]) ?_ 0 _ rfl;(with_reducible repeat (first|refine blk_drewN ?_ _|refine blk_drew ?_|refine blk_alloc ?_ _));exact BK209.out⟩,⟨by repeat (first|(with_reducible first|exact HB.out|apply below_alloc|apply pw_below_drewN|apply below_drew1|refine below_set ?_ GE209.out)|exact HB.out)⟩⟩
        case round =>
         clear H'
         try clear c1
         try clear p2
         try clear q2
         try clear hx2
         try clear c5
         try clear c5b0
         try clear c6
         try clear p6
         try clear c7
         try clear c7b0
         try clear c8
         try clear c8b0
         try clear c9
         try clear hx202_0
         try clear hx203_0
         try clear p2
         try clear p202
         try clear p203
         try clear q202
         try clear q203
         obtain ⟨x10_3,x11_3,rfl,rfl,HA,HK3,HO_7,BK209,HB⟩:=hrel
         cases gk with
         | zero => exact absurd HA.out (by simp [transhumancelaw5_Locks.l1])
         | succ k3 =>
          have H:=HA.out
          clear HA
          simp only [transhumancelaw5_Locks.l1] at H
          by_cases c19:x11_3<(x7_1.length:Int)
          ·rw [if_pos c19] at H
           have c19b0:decide (x11_3<(x7_1.length:Int))=true:=decide_eq_true c19
           clear c19
           by_cases c20:x10_3=true
           ·subst c20
            have H1:(transhumancelaw5_Locks.l1 k3 l0 l1 a2 x7_1 x8_1 true (wrap64 (x11_3+1)) t204 t205 t206 t207 t208)=some r:=by rw [if_pos rfl] at H;exact H
            clear H
            have H:=H1
            clear H1
            have H':=Aside0.mk H
            clear H
            obtain ⟨Ao21,co21,eo21⟩:=Kd.R_slice HO_7.out
            subst eo21
            try go_wp2
            have n0_:=Aside0.mk (Kd.R_drew HO_7.out)
            have n1_:=Aside0.mk (blk_drew BK209.out)
            have n2_:=Aside0.mk (below_drew1 HB.out)
            clear HO_7
            clear BK209
            clear HB
            have HO_7:=n0_
            have BK209:=n1_
            have HB:=n2_
            clear n0_ n1_ n2_
            refine start_ (n:=12) (S:=fun w' => True) (ds:=[]) #[false,false,false,false,false,false,false,false,false,false,false,false] (by kernel_rfl) rfl rfl trivial (fun hHeld => ?_);refine with_tabW transhumancelaw5_Locks.tab10 transhumancelaw5_Locks.bits10 (fun HT_ HW_ => ?_)
            generalize wr.drew=w22 at HO_7 BK209 HB hHeld ⊢
            refine pure_ (i:=0) (N:=some 40) (v:=?_) (a':=?_) #[true,false,false,false,false,false,false,false,false,false,false,false] rfl rfl (any_of HT_.out (by kernel_rfl)) (fun _ _ _ h => h) (Or.inl ⟨by rfl,?_⟩) ?_ ?_
            rotate_left
            ·intro w'
             go_simp
             with_reducible rfl
            rotate_left
            ·simp only [Act.put,List.setIfInBounds_toArray,List.set_cons_zero,List.set_cons_succ,i64_w,i32_w]
             rfl
            refine pure_ (i:=1) (N:=some 41) (v:=?_) (a':=?_) #[true,true,false,false,false,false,false,false,false,false,false,false] rfl rfl (any_of HT_.out (by kernel_rfl)) (fun _ _ _ h => h) (Or.inl ⟨by rfl,?_⟩) ?_ ?_
            rotate_left
            ·intro w'
             go_simp
             with_reducible rfl
            rotate_left
            ·simp only [Act.put,List.setIfInBounds_toArray,List.set_cons_zero,List.set_cons_succ,i64_w,i32_w]
             rfl
            refine pure_ (i:=2) (N:=some 42) (v:=undef) (a':=?_) #[true,true,true,false,false,false,false,false,false,false,false,false] rfl rfl (any_of HT_.out (by kernel_rfl)) (fun _ _ _ h => h) (Or.inr ⟨by rfl,rfl⟩) ?_ ?_
            rotate_left
            ·simp only [Act.put,List.setIfInBounds_toArray,List.set_cons_zero,List.set_cons_succ,i64_w,i32_w]
             rfl
            refine pure_ (i:=3) (N:=some 43) (v:=undef) (a':=?_) #[true,true,true,true,false,false,false,false,false,false,false,false] rfl rfl (any_of HT_.out (by kernel_rfl)) (fun _ _ _ h => h) (Or.inr ⟨by rfl,rfl⟩) ?_ ?_
            rotate_left
            ·simp only [Act.put,List.setIfInBounds_toArray,List.set_cons_zero,List.set_cons_succ,i64_w,i32_w]
             rfl
            refine pure_ (i:=4) (N:=some 44) (v:=undef) (a':=?_) #[true,true,true,true,true,false,false,false,false,false,false,false] rfl rfl (any_of HT_.out (by kernel_rfl)) (fun _ _ _ h => h) (Or.inr ⟨by rfl,rfl⟩) ?_ ?_
            rotate_left
            ·simp only [Act.put,List.setIfInBounds_toArray,List.set_cons_zero,List.set_cons_succ,i64_w,i32_w]
             rfl
            refine pure_ (i:=5) (N:=some 45) (v:=undef) (a':=?_) #[true,true,true,true,true,true,false,false,false,false,false,false] rfl rfl (any_of HT_.out (by kernel_rfl)) (fun _ _ _ h => h) (Or.inr ⟨by rfl,rfl⟩) ?_ ?_
            rotate_left
            ·simp only [Act.put,List.setIfInBounds_toArray,List.set_cons_zero,List.set_cons_succ,i64_w,i32_w]
             rfl
            refine pure_ (i:=6) (N:=some 46) (v:=undef) (a':=?_) #[true,true,true,true,true,true,true,false,false,false,false,false] rfl rfl (any_of HT_.out (by kernel_rfl)) (fun _ _ _ h => h) (Or.inr ⟨by rfl,rfl⟩) ?_ ?_
            rotate_left
            ·simp only [Act.put,List.setIfInBounds_toArray,List.set_cons_zero,List.set_cons_succ,i64_w,i32_w]
             rfl
            refine pure_ (i:=7) (N:=some 47) (v:=undef) (a':=?_) #[true,true,true,true,true,true,true,true,false,false,false,false] rfl rfl (any_of HT_.out (by kernel_rfl)) (fun _ _ _ h => h) (Or.inr ⟨by rfl,rfl⟩) ?_ ?_
            rotate_left
            ·simp only [Act.put,List.setIfInBounds_toArray,List.set_cons_zero,List.set_cons_succ,i64_w,i32_w]
             rfl
            refine pure_ (i:=8) (N:=some 48) (v:=undef) (a':=?_) #[true,true,true,true,true,true,true,true,true,false,false,false] rfl rfl (any_of HT_.out (by kernel_rfl)) (fun _ _ _ h => h) (Or.inr ⟨by rfl,rfl⟩) ?_ ?_
            rotate_left
            ·simp only [Act.put,List.setIfInBounds_toArray,List.set_cons_zero,List.set_cons_succ,i64_w,i32_w]
             rfl
            refine pure_ (i:=9) (N:=some 49) (v:=undef) (a':=?_) #[true,true,true,true,true,true,true,true,true,true,false,false] rfl rfl (any_of HT_.out (by kernel_rfl)) (fun _ _ _ h => h) (Or.inr ⟨by rfl,rfl⟩) ?_ ?_
            rotate_left
            ·simp only [Act.put,List.setIfInBounds_toArray,List.set_cons_zero,List.set_cons_succ,i64_w,i32_w]
             rfl
            refine pure_ (i:=10) (N:=some 50) (v:=?_) (a':=?_) #[true,true,true,true,true,true,true,true,true,true,true,false] rfl rfl (any_of HT_.out (by kernel_rfl)) (fun _ _ _ h => h) (Or.inl ⟨by rfl,?_⟩) ?_ ?_
            rotate_left
            ·intro w'
             go_simp
             with_reducible rfl
            rotate_left
            ·simp only [Act.put,List.setIfInBounds_toArray,List.set_cons_zero,List.set_cons_succ,i64_w,i32_w]
             rfl
            refine pure_ (i:=11) (N:=some 10) (v:=?_) (a':=?_) #[true,true,true,true,true,true,true,true,true,true,true,true] rfl rfl (any_of HT_.out (by kernel_rfl)) (fun _ _ _ h => h) (Or.inl ⟨by rfl,?_⟩) ?_ ?_
            rotate_left
            ·intro w'
             go_simp
             with_reducible rfl
            rotate_left
            ·simp only [Act.put,List.setIfInBounds_toArray,List.set_cons_zero,List.set_cons_succ,i64_w,i32_w]
             rfl
            refine done_ (done_of HT_.out (by kernel_rfl)) ?_
            try go_wp2
            go_roundg k3
            case measure => have:=HK1.out;have:=HJ3.out;have:=HK3.out;omega
            case rel => exact ⟨(true),(wrap64 (x11_3+1)),(by first|rfl|(simp;done)|(simp [*];done)|(simp;exact (fun l_:List UInt8 => by cases l_ <;> rfl:∀ l_:List UInt8,l_.isEmpty=!(l_ != [])) _)),(by first|rfl|(simp;done)|(simp [*];done)|(simp;exact (fun l_:List UInt8 => by cases l_ <;> rfl:∀ l_:List UInt8,l_.isEmpty=!(l_ != [])) _)),H',⟨by have:=HK1.out;have:=HJ3.out;have:=HK3.out;omega⟩,⟨by (with_reducible repeat (first|apply Kd.R_alloc|apply Kd.R_drewN|apply Kd.R_drew));exact HO_7.out⟩,⟨by (with_reducible repeat (first|refine blk_drewN ?_ _|refine blk_drew ?_|refine blk_alloc ?_ _));exact BK209.out⟩,⟨by repeat (first|(with_reducible first|exact HB.out|apply below_alloc|apply pw_below_drewN|apply below_drew1|refine below_set ?_ GE209.out)|exact HB.out)⟩⟩
           ·replace c20:=Bool.eq_false_iff.mpr c20
            subst c20
            have H1:(if 0≤x11_3 then (transhumancelaw5_Locks.l1 k3 l0 l1 a2 x7_1 x8_1 (((rd_T43 x7_1 x11_3).f0).toList == t204.toList) (wrap64 (x11_3+1)) t204 t205 t206 t207 t208) else (none))=some r:=by rw [if_neg (show ¬ (false=true) by decide)] at H;exact H
            clear H
            have H:=H1
            clear H1
            by_cases c23:0≤x11_3
            ·rw [if_pos c23] at H
             have c23b0:decide (0≤x11_3)=true:=decide_eq_true c23
             clear c23
             have H':=Aside0.mk H
             clear H
             obtain ⟨Ao24,co24,eo24⟩:=Kd.R_slice HO_7.out
             subst eo24
             try go_wp2
             have n0_:=Aside0.mk (Kd.R_drew HO_7.out)
             have n1_:=Aside0.mk (blk_drew BK209.out)
             have n2_:=Aside0.mk (below_drew1 HB.out)
             clear HO_7
             clear BK209
             clear HB
             have HO_7:=n0_
             have BK209:=n1_
             have HB:=n2_
             clear n0_ n1_ n2_
             have p210:0≤(x11_3:Int):=of_decide_eq_true (by first|(with_reducible assumption)|assumption)
             have q210:x11_3<(x7_1.length:Int):=of_decide_eq_true (by first|(with_reducible assumption)|assumption)
             obtain ⟨ad210,e210,hx210_0,hx210_1,hx210_2,hx210_3,hx210_4⟩:=at_T43 (Kd.R_reads' HO_7.out).2.2 x11_3 p210 q210
             cases e210
             replace p210:=eq_true p210
             replace q210:=eq_true q210
             refine start_ (n:=12) (S:=fun w' => w'.cell? ⟨gb209,0,none⟩=some (.string t204)∧w'.cell? ⟨gb209,1,none⟩=some (.string t205)∧w'.cell? ⟨gb209,2,none⟩=some (.string t206)∧w'.cell? ⟨gb209,3,none⟩=some (.string t207)∧w'.cell? ⟨gb209,4,none⟩=some (.string t208)∧w'.cell? (ad210.add ((x11_3).toNat * 5))=some (.string ((rd_T43 x7_1 x11_3).f0))∧w'.cell? ⟨(ad210.add ((x11_3).toNat * 5)).block,(ad210.add ((x11_3).toNat * 5)).off+1,none⟩=some (.string ((rd_T43 x7_1 x11_3).f1))∧w'.cell? ⟨(ad210.add ((x11_3).toNat * 5)).block,(ad210.add ((x11_3).toNat * 5)).off+2,none⟩=some (.string ((rd_T43 x7_1 x11_3).f2))∧w'.cell? ⟨(ad210.add ((x11_3).toNat * 5)).block,(ad210.add ((x11_3).toNat * 5)).off+3,none⟩=some (.string ((rd_T43 x7_1 x11_3).f3))∧w'.cell? ⟨(ad210.add ((x11_3).toNat * 5)).block,(ad210.add ((x11_3).toNat * 5)).off+4,none⟩=some (.string ((rd_T43 x7_1 x11_3).f4))) (ds:=[]) #[false,false,false,false,false,false,false,false,false,false,false,false] (by kernel_rfl) rfl rfl ⟨(blk_cell BK209.out 0).trans rfl,(blk_cell BK209.out 1).trans rfl,(blk_cell BK209.out 2).trans rfl,(blk_cell BK209.out 3).trans rfl,(blk_cell BK209.out 4).trans rfl,hx210_0,hx210_1,hx210_2,hx210_3,hx210_4⟩ (fun hHeld => ?_);refine with_tabW transhumancelaw5_Locks.tab10 transhumancelaw5_Locks.bits10 (fun HT_ HW_ => ?_)
             generalize wr.drew=w25 at HO_7 BK209 HB hx210_0 hx210_1 hx210_2 hx210_3 hx210_4 hHeld ⊢
             refine pure_ (i:=0) (N:=some 40) (v:=?_) (a':=?_) #[true,false,false,false,false,false,false,false,false,false,false,false] rfl rfl (any_of HT_.out (by kernel_rfl)) (fun _ _ _ h => h) (Or.inl ⟨by rfl,?_⟩) ?_ ?_
             rotate_left
             ·intro w'
              go_simp
              with_reducible rfl
             rotate_left
             ·simp only [Act.put,List.setIfInBounds_toArray,List.set_cons_zero,List.set_cons_succ,i64_w,i32_w]
              rfl
             refine pure_ (i:=1) (N:=some 41) (v:=?_) (a':=?_) #[true,true,false,false,false,false,false,false,false,false,false,false] rfl rfl (any_of HT_.out (by kernel_rfl)) (fun _ _ _ h => h) (Or.inl ⟨by rfl,?_⟩) ?_ ?_
             rotate_left
             ·intro w'
              go_simp
              with_reducible rfl
             rotate_left
             ·simp only [Act.put,List.setIfInBounds_toArray,List.set_cons_zero,List.set_cons_succ,i64_w,i32_w]
              rfl
             refine pure_ (i:=2) (N:=some 42) (v:=?_) (a':=?_) #[true,true,true,false,false,false,false,false,false,false,false,false] rfl rfl (any_of HT_.out (by kernel_rfl)) (fun _ _ _ h => h) (Or.inl ⟨by rfl,?_⟩) ?_ ?_
             rotate_left
             ·intro w'
              go_simp
              with_reducible rfl
             rotate_left
             ·simp only [Act.put,List.setIfInBounds_toArray,List.set_cons_zero,List.set_cons_succ,i64_w,i32_w]
              rfl
             refine pure_ (i:=3) (N:=some 43) (v:=?_) (a':=?_) #[true,true,true,true,false,false,false,false,false,false,false,false] rfl rfl (any_of HT_.out (by kernel_rfl)) (fun _ _ _ h => h) (Or.inl ⟨by rfl,?_⟩) ?_ ?_
             rotate_left
             ·intro w'
              go_simp
              with_reducible rfl
             rotate_left
             ·simp only [Act.put,List.setIfInBounds_toArray,List.set_cons_zero,List.set_cons_succ,i64_w,i32_w]
              rfl
             refine pure_ (i:=4) (N:=some 44) (v:=?_) (a':=?_) #[true,true,true,true,true,false,false,false,false,false,false,false] rfl rfl (any_of HT_.out (by kernel_rfl)) (fun _ _ _ h => h) (Or.inl ⟨by rfl,?_⟩) ?_ ?_
             rotate_left
             ·intro w'
              go_simp
              with_reducible rfl
             rotate_left
             ·simp only [Act.put,List.setIfInBounds_toArray,List.set_cons_zero,List.set_cons_succ,i64_w,i32_w]
              rfl
             refine pure_ (i:=5) (N:=some 45) (v:=?_) (a':=?_) #[true,true,true,true,true,true,false,false,false,false,false,false] rfl rfl (any_of HT_.out (by kernel_rfl)) (fun _ _ _ h => h) (Or.inl ⟨by rfl,?_⟩) ?_ ?_
             rotate_left
             ·intro w'
              go_simp
              with_reducible rfl
             rotate_left
             ·simp only [Act.put,List.setIfInBounds_toArray,List.set_cons_zero,List.set_cons_succ,i64_w,i32_w]
              rfl
             refine pure_ (i:=7) (N:=some 47) (v:=?_) (a':=?_) #[true,true,true,true,true,true,false,true,false,false,false,false] rfl rfl (any_of HT_.out (by kernel_rfl)) (fun _ _ _ h => h) (Or.inl ⟨by rfl,?_⟩) ?_ ?_
             rotate_left
             ·intro w'
              go_simp
              with_reducible rfl
             rotate_left
             ·simp only [Act.put,List.setIfInBounds_toArray,List.set_cons_zero,List.set_cons_succ,i64_w,i32_w]
              rfl
             refine take_ (i:=6) (N:=some 46) (v:=?_) (a':=?_) #[true,true,true,true,true,true,true,true,false,false,false,false] rfl rfl (take_ofW HT_.out HW_.out (by kernel_rfl)) (fun _ _ _ h => h) (Or.inl ⟨by rfl,?_⟩) hHeld ?_ ?_
             rotate_left
             ·rintro w' ⟨s0,s1,s2,s3,s4,s5,s6,s7,s8,s9⟩
              go_simp
              with_reducible rfl
             rotate_left
             ·simp only [Act.put,List.setIfInBounds_toArray,List.set_cons_zero,List.set_cons_succ,i64_w,i32_w]
              rfl
             refine take_ (i:=8) (N:=some 48) (v:=?_) (a':=?_) #[true,true,true,true,true,true,true,true,true,false,false,false] rfl rfl (take_ofW HT_.out HW_.out (by kernel_rfl)) (fun _ _ _ h => h) (Or.inl ⟨by rfl,?_⟩) hHeld ?_ ?_
             rotate_left
             ·rintro w' ⟨s0,s1,s2,s3,s4,s5,s6,s7,s8,s9⟩
              go_simp
              with_reducible rfl
             rotate_left
             ·simp only [Act.put,List.setIfInBounds_toArray,List.set_cons_zero,List.set_cons_succ,i64_w,i32_w]
              rfl
             refine pure_ (i:=9) (N:=some 49) (v:=?_) (a':=?_) #[true,true,true,true,true,true,true,true,true,true,false,false] rfl rfl (any_of HT_.out (by kernel_rfl)) (fun _ _ _ h => h) (Or.inl ⟨by rfl,?_⟩) ?_ ?_
             rotate_left
             ·intro w'
              go_simp
              with_reducible rfl
             rotate_left
             ·simp only [Act.put,List.setIfInBounds_toArray,List.set_cons_zero,List.set_cons_succ,i64_w,i32_w]
              rfl
             refine pure_ (i:=10) (N:=some 50) (v:=?_) (a':=?_) #[true,true,true,true,true,true,true,true,true,true,true,false] rfl rfl (any_of HT_.out (by kernel_rfl)) (fun _ _ _ h => h) (Or.inl ⟨by rfl,?_⟩) ?_ ?_
             rotate_left
             ·intro w'
              go_simp
              with_reducible rfl
             rotate_left
             ·simp only [Act.put,List.setIfInBounds_toArray,List.set_cons_zero,List.set_cons_succ,i64_w,i32_w]
              rfl
             refine pure_ (i:=11) (N:=some 10) (v:=?_) (a':=?_) #[true,true,true,true,true,true,true,true,true,true,true,true] rfl rfl (any_of HT_.out (by kernel_rfl)) (fun _ _ _ h => h) (Or.inl ⟨by rfl,?_⟩) ?_ ?_
             rotate_left
             ·intro w'
              go_simp
              with_reducible rfl
             rotate_left
             ·simp only [Act.put,List.setIfInBounds_toArray,List.set_cons_zero,List.set_cons_succ,i64_w,i32_w]
              rfl
             refine done_ (done_of HT_.out (by kernel_rfl)) ?_
             try go_wp2
             go_roundg k3
             case measure => have:=HK1.out;have:=HJ3.out;have:=HK3.out;omega
             case rel => exact ⟨((((rd_T43 x7_1 x11_3).f0).toList == t204.toList)),(wrap64 (x11_3+1)),(by first|rfl|(simp;done)|(simp [*];done)|(simp;exact (fun l_:List UInt8 => by cases l_ <;> rfl:∀ l_:List UInt8,l_.isEmpty=!(l_ != [])) _)),(by first|rfl|(simp;done)|(simp [*];done)|(simp;exact (fun l_:List UInt8 => by cases l_ <;> rfl:∀ l_:List UInt8,l_.isEmpty=!(l_ != [])) _)),H',⟨by have:=HK1.out;have:=HJ3.out;have:=HK3.out;omega⟩,⟨by (with_reducible repeat (first|apply Kd.R_alloc|apply Kd.R_drewN|apply Kd.R_drew));exact HO_7.out⟩,⟨by (with_reducible repeat (first|refine blk_drewN ?_ _|refine blk_drew ?_|refine blk_alloc ?_ _));exact BK209.out⟩,⟨by repeat (first|(with_reducible first|exact HB.out|apply below_alloc|apply pw_below_drewN|apply below_drew1|refine below_set ?_ GE209.out)|exact HB.out)⟩⟩
            ·rw [if_neg c23] at H
             exact absurd H (by simp)
          ·rw [if_neg c19] at H
           have c19b0:decide (x11_3<(x7_1.length:Int))=false:=decide_eq_false c19
           clear c19
           by_cases c26:x10_3=true
           ·subst c26
            have H1:(transhumancelaw5_Locks.l0 k3 l0 l1 a2 x7_1 (wrap64 (x8_1+1)))=some r:=by rw [if_pos rfl] at H;exact H
            clear H
            have H:=H1
            clear H1
            have H':=Aside0.mk H
            clear H
            obtain ⟨Ao27,co27,eo27⟩:=Kd.R_slice HO_7.out
            subst eo27
            go_wp2
            go_roundg k3
            case measure => have:=HK1.out;have:=HJ3.out;have:=HK3.out;omega
            case rel => exact ⟨(x7_1),(wrap64 (x8_1+1)),(by first|rfl|(simp;done)|(simp [*];done)|(simp;exact (fun l_:List UInt8 => by cases l_ <;> rfl:∀ l_:List UInt8,l_.isEmpty=!(l_ != [])) _)),H',⟨by have:=HK1.out;have:=HJ3.out;have:=HK3.out;omega⟩,⟨by (with_reducible repeat (first|apply Kd.R_alloc|apply Kd.R_drewN|apply Kd.R_drew));exact Kd.R_mono HO_7.out (fun _ hk => trivial)⟩,⟨by repeat (first|(with_reducible first|exact HB.out|apply below_alloc|apply pw_below_drewN|apply below_drew1|refine below_set ?_ GE209.out)|exact HB.out)⟩⟩
           ·replace c26:=Bool.eq_false_iff.mpr c26
            subst c26
            have H1:(if x7_1.length<1759218604441 then (transhumancelaw5_Locks.l0 k3 l0 l1 a2 (x7_1++[(⟨t204,t205,t206,t207,t208⟩:S43)]) (wrap64 (x8_1+1))) else (none))=some r:=by rw [if_neg (show ¬ (false=true) by decide)] at H;exact H
            clear H
            have H:=H1
            clear H1
            by_cases c28:x7_1.length<1759218604441
            ·rw [if_pos c28] at H
             have LMc28:=Aside0.mk c28
             clear c28
             obtain ⟨y211,hy211⟩:∃ y_:List (S43),y_=(x7_1++[(⟨t204,t205,t206,t207,t208⟩:S43)]):=⟨_,rfl⟩
             replace H:(transhumancelaw5_Locks.l0 k3 l0 l1 a2 y211 (wrap64 (x8_1+1)))=some r:=by first|(rw [hy211];with_reducible exact H)|(have H2_:=(Option.bind_some _ _).symm.trans H;rw [hy211];with_reducible exact H2_)|(have H2_:=(Option.bind_some _ _).symm.trans H;with_reducible exact H2_)|with_reducible exact H|(rw [hy211];exact H)|exact H
             have Ny211:=Aside0.mk hy211
             clear hy211
             have H':=Aside0.mk H
             clear H
             obtain ⟨Ao29,co29,eo29⟩:=Kd.R_slice HO_7.out
             subst eo29
             have hcz30_0:wr.cell? ⟨gb209,0,none⟩=some (.string t204):=(blk_cell BK209.out 0).trans rfl
             have hcz30_1:wr.cell? ⟨gb209,1,none⟩=some (.string t205):=(blk_cell BK209.out 1).trans rfl
             have hcz30_2:wr.cell? ⟨gb209,2,none⟩=some (.string t206):=(blk_cell BK209.out 2).trans rfl
             have hcz30_3:wr.cell? ⟨gb209,3,none⟩=some (.string t207):=(blk_cell BK209.out 3).trans rfl
             have hcz30_4:wr.cell? ⟨gb209,4,none⟩=some (.string t208):=(blk_cell BK209.out 4).trans rfl
             have hfz30_0:=blk_frozen BK209.out 0
             have hfz30_1:=blk_frozen BK209.out 1
             have hfz30_2:=blk_frozen BK209.out 2
             have hfz30_3:=blk_frozen BK209.out 3
             have hfz30_4:=blk_frozen BK209.out 4
             go_wp2_with (first|((with_reducible refine gate_builtin (b:=.append) (xs:=#[.tmp 53,.tmp 55]) rfl ?_);at_builtin;refine Kd.R_append k43 (w0:=w) w.heap.size rfl (.tmp 53) (.tmp 55) 25 43 (.agg #[(.string ⟨#[]⟩),(.string ⟨#[]⟩),(.string ⟨#[]⟩),(.string ⟨#[]⟩),(.string ⟨#[]⟩)]) 80 rfl Tryz.underlying25 info43 rfl (by decide) (by omega) (.slice Ao29 x7_1.length co29) x7_1 (⟨t204,t205,t206,t207,t208⟩:S43) [.string t204,.string t205,.string t206,.string t207,.string t208] (fun k_ => k_≠gb209) (fun _ => False) rfl rfl ?aP (fun _ hk => hk.elim) ?aF ?aO ?aB ?aS ?aL ?_;(case aP => exact k43_mkM _ _ _ (⟨t204,t205,t206,t207,t208⟩:S43));(case aB => exact (by repeat (first|(with_reducible first|exact HB.out|apply below_alloc|apply pw_below_drewN|apply below_drew1|refine below_set ?_ GE209.out)|exact HB.out)));(case aF => exact (fun k_ hk => Kd.freshB (g:=gb209) (o:=.cells #[.string t204,.string t205,.string t206,.string t207,.string t208] 43 (0,0)) (by (with_reducible repeat (first|refine blk_drewN ?_ _|refine blk_drew ?_|refine blk_alloc ?_ _));exact BK209.out) k_ hk));(case aO => exact (by (with_reducible repeat (first|apply Kd.R_alloc|apply Kd.R_drewN|apply Kd.R_drew));exact HO_7.out));(case aS => exact (below_size (by repeat (first|(with_reducible first|exact HB.out|apply below_alloc|apply pw_below_drewN|apply below_drew1|refine below_set ?_ GE209.out)|exact HB.out))));(case aL => have:=LMc28.out;omega);intro v212 w31 ho hb hg hat;rw [← Ny211.out] at ho;have n0_:=Aside0.mk (blk_grown (g:=gb209) (o:=.cells #[.string t204,.string t205,.string t206,.string t207,.string t208] 43 (0,0)) (by (with_reducible repeat (first|refine blk_drewN ?_ _|refine blk_drew ?_|refine blk_alloc ?_ _));exact BK209.out) hg (Kd.R_away HO_7.out (fun _ hk => hk)));have n1_:=Aside0.mk (hb);have n2_:=Aside0.mk (ho);clear BK209;clear HB;clear HO_7;have BK209:=n0_;have HB:=n1_;have HO213:=n2_;clear n0_ n1_ n2_;clear ho hb hg hat))
             go_roundg k3
             case measure => have:=HK1.out;have:=HJ3.out;have:=HK3.out;omega
             case rel => exact ⟨(y211),(wrap64 (x8_1+1)),(by first|rfl|(simp;done)|(simp [*];done)|(simp;exact (fun l_:List UInt8 => by cases l_ <;> rfl:∀ l_:List UInt8,l_.isEmpty=!(l_ != [])) _)),H',⟨by have:=HK1.out;have:=HJ3.out;have:=HK3.out;omega⟩,⟨by (with_reducible repeat (first|apply Kd.R_alloc|apply Kd.R_drewN|apply Kd.R_drew));exact Kd.R_mono HO213.out (fun _ hk => trivial)⟩,⟨by repeat (first|(with_reducible first|exact HB.out|apply below_alloc|apply pw_below_drewN|apply below_drew1|refine below_set ?_ GE209.out)|exact HB.out)⟩⟩
            ·rw [if_neg c28] at H
             exact absurd H (by simp)
       ·rw [if_neg c8] at H
        exact absurd H (by simp)
      ·rw [if_neg c7] at H
       exact absurd H (by simp)
     ·replace c6:=Bool.eq_false_iff.mpr c6
      subst c6
      have H1:(some x7_1)=some r:=by rw [if_neg (show ¬ (false=true) by decide)] at H;exact H
      clear H
      have H:=H1
      clear H1
      obtain rfl:=Option.some.inj H
      go_wp2
      go_ret
      exact ⟨_,by first|rfl|(simp [errW_none,errW_some] <;> rfl)|(simp [*,errW_none,errW_some] <;> rfl),by (with_reducible repeat (first|apply Kd.R_alloc|apply Kd.R_drewN|apply Kd.R_drew));exact HO_7.out,by repeat (first|(with_reducible first|exact HB.out|apply below_alloc|apply pw_below_drewN|apply below_drew1)|exact HB.out)⟩
end Go.Proofs.YtjdjljgbfpkbdaaGreatDoor.Q
