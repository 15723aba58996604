import Derived.Test.YtjiidlkkkednoaaGreatDoorZMpa
import Derived.Test.YtjiidlkkkednoaaGreatDoorZVmg
import Derived.Sort.Walk0
import Derived.Lib.ItoaNum
import Derived.Test.YtjiidlkkkednoaaGreatDoorZMnog
import Derived.Sort.LotA
import Derived.Test.YtjiidlkkkednoaaGreatDoorZBaseg
import Derived.Test.YtjiidlkkkednoaaGreatDoorZW0
set_option linter.unusedVariables false
set_option linter.unusedSimpArgs false
section
namespace Go.Proofs.YtjiidlkkkednoaaGreatDoor.Q
open Go.RowKit Go.Shelf Go.Proofs.YtjiidlkkkednoaaGreatDoorW.PrintWords
def knT:ByteArray:=⟨#[109,111,100,117,108,101,32,97,10,10,114,101,113,117,105,114,101,32,98,32,118,49,46,48,46,48,10,101,120,99,108,117,100,101,32,98,32,118,49,46,49,46,48,10,114,101,112,108,97,99,101,32,98,32,61,62,32,99,32,118,49,46,50,46,48,10]⟩
def knQ:S45:=reqM [98] ⟨1,0,0,[]⟩
def knX:S45:=reqM [98] ⟨1,1,0,[]⟩
def knS:S48:=swapM [98] [99] ⟨1,2,0,[]⟩
def knSt:MS:=⟨true,[97],[knQ],[knX],[knS]⟩
theorem kn_run:runM 0 startM (pieces knT.data.toList)=.ok knSt:=by kernel_rfl
theorem normA_one (cf:S45→S45→Int) (x:S45):normA cf [x]=[x]:=by
  have e:sortedA cf #[x]=#[x]:=by unfold sortedA Sort.insertionSort;exact insO_stop _ _ _ _ _ (by simp)
  unfold normA
  rw [show [x].toArray=#[x] from rfl,e]
  rfl
theorem normB_one (cf:S48→S48→Int) (x:S48):normB cf [x]=[x]:=by
  have e:sortedB cf #[x]=#[x]:=by unfold sortedB Sort.insertionSort;exact insO_stop _ _ _ _ _ (by simp)
  unfold normB
  rw [show [x].toArray=#[x] from rfl,e]
  rfl
theorem kn_q:okqR knQ=true∧(mani_req.f 60 knQ.f0 knQ.f1.f0 knQ.f1.f1 knQ.f1.f2 knQ.f1.f3).isSome=true:=⟨by kernel_rfl,by kernel_rfl⟩
theorem kn_x:okqR knX=true∧(mani_req.f 60 knX.f0 knX.f1.f0 knX.f1.f1 knX.f1.f2 knX.f1.f3).isSome=true:=⟨by kernel_rfl,by kernel_rfl⟩
theorem kn_s:okqR ⟨knS.f1,knS.f2⟩=true∧(mani_req.f 60 knS.f1 knS.f2.f0 knS.f2.f1 knS.f2.f2 knS.f2.f3).isSome=true:=⟨by kernel_rfl,by kernel_rfl⟩
theorem kn_right:rightM okqR cfA (bs [97]) [knQ] [knX] [knS]=true:=by kernel_rfl
theorem kn_fit:FitM knSt where
  n1:=by decide
  n2:=by decide
  n3:=by decide
  a1:=fun r hr => by
    obtain rfl:r=knQ:=by simpa [knSt] using hr
    decide
  a2:=fun r hr => by
    obtain rfl:r=knX:=by simpa [knSt] using hr
    decide
  a3:=fun r hr => by
    obtain rfl:r=knS:=by simpa [knSt] using hr
    decide
  o1:=fun i hi => by
    have e:normA cfA knSt.q=[knQ]:=normA_one _ _
    rw [e] at hi ⊢
    obtain rfl:i=0:=by simp at hi;omega
    exact ⟨by decide,kn_q.2⟩
  o2:=fun i hi => by
    have e:normA cfA knSt.x=[knX]:=normA_one _ _
    rw [e] at hi ⊢
    obtain rfl:i=0:=by simp at hi;omega
    exact ⟨by decide,kn_x.2⟩
  o3:=fun i hi => by
    have e:normB cfB knSt.s=[knS]:=normB_one _ _
    rw [e] at hi ⊢
    obtain rfl:i=0:=by simp at hi;omega
    exact ⟨⟨by decide,kn_s.2⟩,by decide⟩
  mo:=by decide
  m1:=by
    have e:normA cfA knSt.q=[knQ]:=normA_one _ _
    rw [e];decide
  m2:=by
    have e:normA cfA knSt.x=[knX]:=normA_one _ _
    rw [e];decide
  m3:=by
    have e:normB cfB knSt.s=[knS]:=normB_one _ _
    rw [e];decide
theorem kn_out:outM knT.data.toList=.yes (bs [97]) [knQ] [knX] [knS]:=by
  unfold outM
  rw [if_neg (by decide),kn_run]
  have e1:normA cfA knSt.q=[knQ]:=normA_one _ _
  have e2:normA cfA knSt.x=[knX]:=normA_one _ _
  have e3:normB cfB knSt.s=[knS]:=normB_one _ _
  simp only [e1,e2,e3]
  rw [if_pos]
  · rfl
  · exact kn_right
theorem kn_text:(bs (textM tvM ⟨#[97]⟩ [] [] []))=⟨#[109,111,100,117,108,101,32,97,10]⟩:=by kernel_rfl
section
variable (w:World)
set_option maxHeartbeats 2000000 in
set_option maxRecDepth 100000 in
theorem known_calls (hG:GL w):Calls Tryz.prog 10 #[] w fun e w' => e=.returned (.bool true)∧Below w.heap.size w w':=by
  have hp:=mparse_short w knT (by decide) hG (fun st h => by rw [kn_run] at h;cases h;exact kn_fit)
  have HP:=Lib.hid hp
  have HG:=Lib.hid hG
  clear hG hp
  have hT:knT=⟨#[109,111,100,117,108,101,32,97,10,10,114,101,113,117,105,114,101,32,98,32,118,49,46,48,46,48,10,101,120,99,108,117,100,101,32,98,32,118,49,46,49,46,48,10,114,101,112,108,97,99,101,32,98,32,61,62,32,99,32,118,49,46,50,46,48,10]⟩:=rfl
  rw [hT] at HP
  clear hT
  go_enter Tryz.func10,Tryz.ntmps10
  go_wp2_with (fail)
  refine HP.out.mono ?_
  rintro e w1 ⟨hb1,hm⟩
  have hT:(⟨#[109,111,100,117,108,101,32,97,10,10,114,101,113,117,105,114,101,32,98,32,118,49,46,48,46,48,10,101,120,99,108,117,100,101,32,98,32,118,49,46,49,46,48,10,114,101,112,108,97,99,101,32,98,32,61,62,32,99,32,118,49,46,50,46,48,10]⟩:ByteArray)=knT:=rfl
  rw [hT,kn_out] at hm
  clear hT
  obtain ⟨v1,v2,v3,rfl,g1,g2,g3⟩:=hm
  obtain ⟨A1,c1,rfl,hc1,q1⟩:=g1.reads (by decide)
  obtain ⟨A2,c2,rfl,hc2,q2⟩:=g2.reads (by decide)
  rcases g3 with ⟨_,h⟩|⟨P3,c3,z3,rfl,_,hc3,hr3⟩
  · cases h
  have q3:=rw_readsB hr3 (by decide)
  have s1:w1.cell? ⟨P3,1,none⟩=some (.string ⟨#[99]⟩):=hr3.cell encB_len 0 1 (by decide) (by decide)
  have S1:=Lib.hid s1
  have HB1:=Lib.hid hb1
  have Q1:=Lib.hid q1
  have Q2:=Lib.hid q2
  have Q3:=Lib.hid q3
  clear hb1 g1 g2 hr3 q1 q2 q3 s1
  go_wp2_with (fail)
  have hbl:=Blk.new w1 27 #[.string (bs [97]),.slice A1 1 c1,.slice A2 1 c2,.slice (some ⟨P3,0,none⟩) 1 c3]
  have hb2:=below_alloc (below_alloc (Below.refl _ w1) (.cells #[.string (bs [97]),.slice A1 1 c1,.slice A2 1 c2,.slice (some ⟨P3,0,none⟩) 1 c3] 27)) (.cells #[.int .i64 0,.int .i64 0] 31)
  replace hbl:=hbl.alloc (.cells #[.int .i64 0,.int .i64 0] 31)
  generalize hW2:(w1.alloc (.cells #[.string (bs [97]),.slice A1 1 c1,.slice A2 1 c2,.slice (some ⟨P3,0,none⟩) 1 c3] 27)).alloc (.cells #[.int .i64 0,.int .i64 0] 31)=W2 at *
  have HB2:=Lib.hid (below_then HB1.out HB1.out.size hb2)
  have q1:=Kd.C_below Q1.out hb2
  have q2:=Kd.C_below Q2.out hb2
  have q3:=Kd.C_below Q3.out hb2
  have hG2:=HG.out.below0 HB2.out
  have S2:=Lib.hid (pw_cell_below hb2 S1.out)
  have hmt:=mtext_calls W2 (tv:=tvM) (OkV:=OkV) ⟨#[97]⟩ none none none 0 0 0 [] [] [] (fun v hv W hW => text_on W2 hG2 v hv W hW) ⟨rfl,by simp,fun h => by simp at h⟩ (by decide) (fun i hi => by simp at hi) ⟨rfl,by simp,fun h => by simp at h⟩ (by decide) (fun i hi => by simp at hi) ⟨rfl,by simp,fun h => by simp at h⟩ (by decide) (fun i hi => by simp at hi) (by decide)
  rw [kn_text] at hmt
  have HMT:=Lib.hid hmt
  have HBK:=Lib.hid hbl
  have R1:=Lib.hid q1
  have R2:=Lib.hid q2
  have R3:=Lib.hid q3
  generalize w1.heap.size=P at *
  clear hbl hb2 hW2 q1 q2 q3 hG2 hmt Q1 Q2 Q3 HB1
  refine HMT.out.mono ?_
  rintro e w3 ⟨rfl,hb3⟩
  have hk3:=HBK.out.below hb3
  have m0:=hk3.cell 0
  have m1:=hk3.cell 1
  have m2:=hk3.cell 2
  have m3:=hk3.cell 3
  have HB3:=Lib.hid (below_then HB2.out HB2.out.size hb3)
  have hG3:=HG.out.below0 HB3.out
  have q1:=Kd.C_below R1.out hb3
  have q2:=Kd.C_below R2.out hb3
  have q3:=Kd.C_below R3.out hb3
  have hrt:=mright_calls w3 (okq:=okqR) (cfA:=cfA) (OkR:=OkR) (bs [97]) A1 A2 (some ⟨P3,0,none⟩) c1 c2 c3 [knQ] [knX] [knS] (fun r hr W hW => req_on w3 hG3 r hr W hW) (fun x y hx hy => cmpA_on w3 hG3 x y hx.1 hy.1) (by decide) q1 (by decide)
    (fun i hi => by obtain rfl:i=0:=by simp at hi;omega
                    exact ⟨by decide,kn_q.2⟩) q2 (by decide)
    (fun i hi => by obtain rfl:i=0:=by simp at hi;omega
                    exact ⟨by decide,kn_x.2⟩) q3 (by decide)
    (fun i hi => by obtain rfl:i=0:=by simp at hi;omega
                    exact ⟨⟨by decide,kn_s.2⟩,by decide⟩)
  rw [kn_right] at hrt
  have HRT:=Lib.hid hrt
  have S3:=Lib.hid (pw_cell_below hb3 S2.out)
  have HK3:=Lib.hid hk3
  have Z3:=Lib.hid q3
  clear hb3 hk3 hG3 q1 q2 q3 hrt HBK R1 R2 R3 HMT HB2
  go_wp2_with (fail)
  refine HRT.out.mono ?_
  rintro e w4 ⟨rfl,hb4⟩
  have y3:=(HK3.out.below hb4).cell 3
  have s4:=pw_cell_below hb4 S3.out
  have HB4:=Lib.hid (below_then HB3.out HB3.out.size hb4)
  clear hb4 m0 m1 m2 m3
  go_wp2_with (fail)
  go_ret
  exact ⟨rfl,HB4.out⟩
end
end Go.Proofs.YtjiidlkkkednoaaGreatDoor.Q
end
section
namespace Go.Proofs.YtjiidlkkkednoaaGreatDoor.Q
open Go.RowKit Go.Proofs.YtjiidlkkkednoaaGreatDoorW.PrintWords
structure Way {α:Type} (f:α→α→Int):Prop where
  bd:∀ x y,-1≤f x y∧f x y≤1
  anti:∀ x y,f y x=- f x y
  trans:∀ x y z,f x y≤0→f y z≤0→f x z≤0
section
variable {α β:Type} {f g:α→α→Int}
theorem Way.refl (h:Way f) (x:α):f x x=0:=by have:=h.anti x x;omega
theorem Way.eqL (h:Way f) {x y z:α} (e:f x y=0):f x z=f y z:=by
  have a1:=h.anti x y
  have a2:=h.anti y z
  have a3:=h.anti x z
  have b1:=h.bd x z
  have b2:=h.bd y z
  have t1:=h.trans x y z
  have t2:=h.trans y x z
  have t3:=h.trans z x y
  have t4:=h.trans z y x
  omega
theorem Way.eqR (h:Way f) {x y z:α} (e:f x y=0):f z x=f z y:=by
  have:=h.eqL (z:=z) e
  have a2:=h.anti x z
  have a3:=h.anti y z
  omega
theorem Way.lt (h:Way f) {x y z:α} (a:f x y≤0) (b:f y z≤0) (c:f x y<0∨f y z<0):f x z<0:=by
  have t:=h.trans x y z a b
  rcases Int.lt_or_eq_of_le t with h1|h1
  · exact h1
  · have e1:=h.eqL (z:=y) h1
    have a1:=h.anti x y
    have a2:=h.anti y z
    have a3:=h.anti z y
    omega
theorem Way.pull (h:Way f) (k:β→α):Way (fun x y => f (k x) (k y)):=⟨fun _ _ => h.bd _ _,fun _ _ => h.anti _ _,fun _ _ _ => h.trans _ _ _⟩
def lexW (f g:α→α→Int) (x y:α):Int:=if f x y=0 then g x y else f x y
theorem Way.lex (h:Way f) (k:Way g):Way (lexW f g):=by
  refine ⟨fun x y => ?_,fun x y => ?_,fun x y z h1 h2 => ?_⟩
  · unfold lexW
    split
    · exact k.bd x y
    · exact h.bd x y
  · unfold lexW
    have a1:=h.anti x y
    have a2:=k.anti x y
    by_cases e:f x y=0
    · rw [if_pos e,if_pos (by omega)]
      exact a2
    · rw [if_neg e,if_neg (by omega)]
      exact a1
  · unfold lexW at *
    by_cases e1:f x y=0
    · rw [if_pos e1] at h1
      have q1:=h.eqL (z:=z) e1
      by_cases e2:f y z=0
      · rw [if_pos e2] at h2
        rw [if_pos (by omega)]
        exact k.trans x y z h1 h2
      · rw [if_neg e2] at h2
        rw [if_neg (by omega)]
        omega
    · rw [if_neg e1] at h1
      by_cases e2:f y z=0
      · have q1:=h.eqR (z:=x) e2
        rw [if_neg (by omega)]
        omega
      · rw [if_neg e2] at h2
        have:=h.lt h1 h2 (.inl (by omega))
        rw [if_neg (by omega)]
        omega
def rowsW (f:α→α→Int):List α→List α→Int
  | [],[] => 0
  | [],_ :: _ => -1
  | _ :: _,[] => 1
  | x :: l,y :: m => if f x y=0 then rowsW f l m else f x y
theorem Way.rows (h:Way f):Way (rowsW f):=by
  refine ⟨?_,?_,?_⟩
  · intro x
    induction x with
    | nil => intro y;cases y <;> simp [rowsW]
    | cons a x ih =>
      intro y
      cases y with
      | nil => simp [rowsW]
      | cons b y =>
        rw [rowsW]
        split
        · exact ih y
        · exact h.bd a b
  · intro x
    induction x with
    | nil => intro y;cases y <;> simp [rowsW]
    | cons a x ih =>
      intro y
      cases y with
      | nil => simp [rowsW]
      | cons b y =>
        have a1:=h.anti a b
        rw [rowsW,rowsW]
        by_cases e:f a b=0
        · rw [if_pos e,if_pos (by omega)]
          exact ih y
        · rw [if_neg e,if_neg (by omega)]
          exact a1
  · intro x
    induction x with
    | nil => intro y z;cases y <;> cases z <;> simp [rowsW]
    | cons a x ih =>
      intro y z
      cases y with
      | nil => cases z <;> simp [rowsW]
      | cons b y =>
        cases z with
        | nil => simp [rowsW]
        | cons c z =>
          rw [rowsW,rowsW,rowsW]
          intro h1 h2
          by_cases e1:f a b=0
          · rw [if_pos e1] at h1
            have q1:=h.eqL (z:=c) e1
            by_cases e2:f b c=0
            · rw [if_pos e2] at h2
              rw [if_pos (by omega)]
              exact ih y z h1 h2
            · rw [if_neg e2] at h2
              rw [if_neg (by omega)]
              omega
          · rw [if_neg e1] at h1
            by_cases e2:f b c=0
            · have q1:=h.eqR (z:=a) e2
              rw [if_neg (by omega)]
              omega
            · rw [if_neg e2] at h2
              have:=h.lt h1 h2 (.inl (by omega))
              rw [if_neg (by omega)]
              omega
theorem rowsW_eq (h:∀ x y,f x y=0→x=y):∀ l m:List α,rowsW f l m=0→l=m
  | [],[],_ => rfl
  | [],_ :: _,e => by simp [rowsW] at e
  | _ :: _,[],e => by simp [rowsW] at e
  | x :: l,y :: m,e => by
    rw [rowsW] at e
    by_cases c:f x y=0
    · rw [if_pos c] at e
      rw [h x y c,rowsW_eq h l m e]
    · rw [if_neg c] at e
      exact absurd e c
end
theorem way_int:Way cmpI:=by
  refine ⟨fun x y => ?_,fun x y => ?_,fun x y z => ?_⟩
  · unfold cmpI;split;decide;split <;> decide
  · unfold cmpI
    by_cases h1:x<y
    · rw [if_pos h1,if_neg (by omega),if_pos (by omega)];rfl
    · rw [if_neg h1]
      by_cases h2:y<x
      · rw [if_pos h2,if_neg h1,if_pos h2]
      · rw [if_neg h2,if_neg h1,if_neg h2];rfl
  · unfold cmpI
    intro h1 h2
    have a:x≤y:=by
      rcases Int.lt_or_le y x with h|h
      · rw [if_neg (by omega),if_pos h] at h1;omega
      · exact h
    have b:y≤z:=by
      rcases Int.lt_or_le z y with h|h
      · rw [if_neg (by omega),if_pos h] at h2;omega
      · exact h
    split
    · decide
    · rw [if_neg (by omega)];decide
theorem cmpI_eq {x y:Int} (h:cmpI x y=0):x=y:=by
  unfold cmpI at h
  split at h
  · omega
  · split at h
    · omega
    · omega
theorem cmpBs_lt (x y:List UInt8):cmpBs x y=if x<y then -1 else if x=y then 0 else 1:=by
  unfold cmpBs
  rw [Proofs.bytesLess_eq]
  simp only [decide_eq_true_eq,beq_iff_eq]
theorem lt_or_eqL {a b:List UInt8} (h:a≤b):a<b∨a=b:=by
  by_cases c:a<b
  · exact .inl c
  · exact .inr (Std.le_antisymm h (List.not_lt.1 c))
theorem way_bs:Way cmpBs:=by
  refine ⟨fun x y => ?_,fun x y => ?_,fun x y z => ?_⟩
  · rw [cmpBs_lt];split;decide;split <;> decide
  · rw [cmpBs_lt,cmpBs_lt]
    by_cases h1:x<y
    · have h2:¬ y<x:=List.not_lt.2 (Std.le_of_lt h1)
      have h3:y≠x:=by rintro rfl;exact h2 h1
      rw [if_pos h1,if_neg h2,if_neg h3];rfl
    · rw [if_neg h1]
      by_cases e:x=y
      · subst e
        rw [if_neg h1,if_pos rfl];rfl
      · have h2:y<x:=by
          rcases lt_or_eqL (List.not_lt.1 h1) with h|h
          · exact h
          · exact absurd h.symm e
        rw [if_pos h2,if_neg e]
  · rw [cmpBs_lt,cmpBs_lt,cmpBs_lt]
    intro h1 h2
    have le:∀ {a b:List UInt8},(if a<b then (-1:Int) else if a=b then 0 else 1)≤0→a≤b:=by
      intro a b h
      by_cases c:a<b
      · exact Std.le_of_lt c
      · rw [if_neg c] at h
        by_cases e:a=b
        · subst e;exact Std.le_refl _
        · rw [if_neg e] at h;omega
    have:=Std.le_trans (le h1) (le h2)
    rcases lt_or_eqL this with h|h
    · rw [if_pos h];decide
    · subst h
      split
      · decide
      · rw [if_pos rfl];decide
theorem cmpBs_eq {x y:List UInt8} (h:cmpBs x y=0):x=y:=by
  rw [cmpBs_lt] at h
  split at h
  · omega
  · split at h
    · assumption
    · omega
def clsI (x:List UInt8):Int:=if allL x=true then 0 else 1
def lenI (x:List UInt8):Int:=if allL x=true then x.length else 0
theorem wordsI_lex (x y:List UInt8):wordsI x y=lexW (fun x y => cmpI (clsI x) (clsI y)) (lexW (fun x y => cmpI (lenI x) (lenI y)) cmpBs) x y:=by
  have c01:cmpI 0 1=-1:=rfl
  have c10:cmpI 1 0=1:=rfl
  have c00:cmpI 0 0=0:=rfl
  have c11:cmpI 1 1=0:=rfl
  unfold wordsI lexW clsI lenI
  cases h1:allL x <;> cases h2:allL y <;> simp [c01,c10,c00,c11,h1,h2]
theorem way_words:Way wordsI:=by
  have:wordsI=lexW (fun x y => cmpI (clsI x) (clsI y)) (lexW (fun x y => cmpI (lenI x) (lenI y)) cmpBs):=funext fun x => funext fun y => wordsI_lex x y
  rw [this]
  exact (way_int.pull clsI).lex ((way_int.pull lenI).lex way_bs)
theorem lexW_eq {α:Type} {f g:α→α→Int} {x y:α} (h:lexW f g x y=0):f x y=0∧g x y=0:=by
  unfold lexW at h
  by_cases e:f x y=0
  · rw [if_pos e] at h
    exact ⟨e,h⟩
  · rw [if_neg e] at h
    exact absurd h e
theorem wordsI_eq {x y:List UInt8} (h:wordsI x y=0):x=y:=by
  rw [wordsI_lex] at h
  exact cmpBs_eq (lexW_eq (lexW_eq h).2).2
theorem rowsI_W:∀ l m:List (List UInt8),rowsI l m=rowsW wordsI l m
  | [],[] => rfl
  | [],_ :: _ => rfl
  | _ :: _,[] => rfl
  | x :: l,y :: m => by rw [rowsI,rowsW,rowsI_W l m]
theorem way_rowsI:Way rowsI:=by
  have:rowsI=rowsW wordsI:=funext fun x => funext fun y => rowsI_W x y
  rw [this]
  exact way_words.rows
theorem rowsI_eq {l m:List (List UInt8)} (h:rowsI l m=0):l=m:=by
  rw [rowsI_W] at h
  exact rowsW_eq (fun _ _ => wordsI_eq) l m h
theorem parts_inj (c:UInt8):∀ x y:List UInt8,parts c x=parts c y→x=y
  | [],[],_ => rfl
  | [],y :: m,h => by
    rw [parts_cons] at h
    split at h
    · have:=congrArg List.tail h
      exact absurd this.symm (parts_ne c m)
    · split at h
      · simp [parts] at h
      · simp [parts] at h
  | x :: l,[],h => by
    rw [parts_cons] at h
    split at h
    · have:=congrArg List.tail h
      exact absurd this (parts_ne c l)
    · split at h
      · simp [parts] at h
      · simp [parts] at h
  | x :: l,y :: m,h => by
    rw [parts_cons,parts_cons] at h
    have hl:=parts_ne c l
    have hm:=parts_ne c m
    have ih:=parts_inj c l m
    by_cases hx:x=c
    · by_cases hy:y=c
      · rw [if_pos hx,if_pos hy] at h
        rw [hx,hy,ih (List.cons.inj h).2]
      · rw [if_pos hx,if_neg hy] at h
        cases e:parts c m with
        | nil => exact absurd e hm
        | cons w ws => rw [e] at h;simp at h
    · by_cases hy:y=c
      · rw [if_neg hx,if_pos hy] at h
        cases e:parts c l with
        | nil => exact absurd e hl
        | cons w ws => rw [e] at h;simp at h
      · rw [if_neg hx,if_neg hy] at h
        cases e:parts c l with
        | nil => exact absurd e hl
        | cons w ws =>
          cases e2:parts c m with
          | nil => exact absurd e2 hm
          | cons v vs =>
            rw [e,e2] at h
            simp only [List.cons.injEq] at h
            obtain ⟨⟨rfl,rfl⟩,rfl⟩:=h
            rw [ih (e.trans e2.symm)]
def nilI (x:List UInt8):Int:=if x=[] then 1 else 0
theorem aheadI_lex (x y:List UInt8):aheadI x y=lexW (fun x y => cmpI (nilI x) (nilI y)) (fun x y => rowsI (parts 46 x) (parts 46 y)) x y:=by
  unfold aheadI lexW nilI
  have e:∀ a b:List UInt8,((a == b)=true)=(a=b):=fun a b => by simp
  simp only [e]
  by_cases h:x=y
  · subst h
    rw [if_pos rfl,if_pos (way_int.refl _),way_rowsI.refl]
  · rw [if_neg h]
    by_cases h1:x=[]
    · subst h1
      have h2:¬ y=[]:=fun e => h e.symm
      rw [if_pos rfl,if_pos rfl,if_neg h2]
      rfl
    · rw [if_neg h1,if_neg h1]
      by_cases h2:y=[]
      · rw [if_pos h2,if_pos h2]
        rfl
      · rw [if_neg h2,if_neg h2]
        rfl
theorem way_ahead:Way aheadI:=by
  have:aheadI=lexW (fun x y => cmpI (nilI x) (nilI y)) (fun x y => rowsI (parts 46 x) (parts 46 y)):=funext fun x => funext fun y => aheadI_lex x y
  rw [this]
  exact (way_int.pull nilI).lex (way_rowsI.pull (parts 46))
theorem aheadI_eq {x y:List UInt8} (h:aheadI x y=0):x=y:=by
  rw [aheadI_lex] at h
  exact parts_inj 46 x y (rowsI_eq (lexW_eq h).2)
theorem cmpV_lex (x y:Vr):cmpV x y=lexW (fun x y => cmpI x.a y.a) (lexW (fun x y => cmpI x.b y.b) (lexW (fun x y => cmpI x.c y.c) (fun x y => aheadI x.p y.p))) x y:=by
  unfold cmpV lexW
  by_cases h1:cmpI x.a y.a=0
  · rw [if_neg (by omega),if_pos h1]
    by_cases h2:cmpI x.b y.b=0
    · rw [if_neg (by omega),if_pos h2]
      by_cases h3:cmpI x.c y.c=0
      · rw [if_neg (by omega),if_pos h3]
      · rw [if_pos h3,if_neg h3]
    · rw [if_pos h2,if_neg h2]
  · rw [if_pos h1,if_neg h1]
theorem way_ver:Way cmpV:=by
  have:cmpV=lexW (fun x y => cmpI x.a y.a) (lexW (fun x y => cmpI x.b y.b) (lexW (fun x y => cmpI x.c y.c) (fun x y => aheadI x.p y.p))):=funext fun x => funext fun y => cmpV_lex x y
  rw [this]
  exact (way_int.pull Vr.a).lex ((way_int.pull Vr.b).lex ((way_int.pull Vr.c).lex (way_ahead.pull Vr.p)))
theorem cmpV_eq {x y:Vr} (h:cmpV x y=0):x=y:=by
  rw [cmpV_lex] at h
  obtain ⟨h1,h⟩:=lexW_eq h
  obtain ⟨h2,h⟩:=lexW_eq h
  obtain ⟨h3,h4⟩:=lexW_eq h
  have e1:=cmpI_eq h1
  have e2:=cmpI_eq h2
  have e3:=cmpI_eq h3
  have e4:=aheadI_eq h4
  cases x
  cases y
  simp only at e1 e2 e3 e4
  subst e1 e2 e3 e4
  rfl
theorem cmpI_eq0 (a:Int):cmpI a a=0:=way_int.refl a
theorem cmpI_lt {a b:Int} (h:a<b):cmpI a b=-1:=by unfold cmpI;rw [if_pos h]
theorem cmpI_gt {a b:Int} (h:b<a):cmpI a b=1:=by unfold cmpI;rw [if_neg (by omega),if_pos h]
end Go.Proofs.YtjiidlkkkednoaaGreatDoor.Q
end
section
namespace Go.Proofs.YtjiidlkkkednoaaGreatDoor.Q
open Go.RowKit
theorem cmpB_eq:∀ x y:List UInt8,Lib.compareBytes x y=cmpBs x y
  | [],[] => rfl
  | [],y :: b => by
    rw [cmpBs_lt,if_pos (List.nil_lt_cons y b)]
    rfl
  | x :: a,[] => by
    rw [cmpBs_lt,if_neg (List.not_lt_nil _),if_neg (by simp)]
    rfl
  | x :: a,y :: b => by
    have ih:=cmpB_eq a b
    rw [cmpBs_lt] at ih
    rw [cmpBs_lt]
    unfold Lib.compareBytes
    by_cases h1:x<y
    · rw [if_pos h1,if_pos (List.cons_lt_cons_iff.2 (.inl h1))]
    · rw [if_neg h1]
      by_cases h2:y<x
      · rw [if_pos h2,if_neg (fun h => by
          rcases List.cons_lt_cons_iff.1 h with h|h
          · exact h1 h
          · rw [h.1] at h2;exact absurd h2 (by simp)),if_neg (by intro h;injection h with h;rw [h] at h2;exact absurd h2 (by simp))]
      · have he:x=y:=by
          apply UInt8.toNat.inj
          rw [UInt8.lt_iff_toNat_lt] at h1 h2
          omega
        subst he
        rw [if_neg h2,ih]
        have e1:(x :: a<x :: b)↔a<b:=⟨fun h => by
          rcases List.cons_lt_cons_iff.1 h with h|h
          · exact absurd h h1
          · exact h.2,fun h => List.cons_lt_cons_iff.2 (.inr ⟨rfl,h⟩)⟩
        have e2:(x :: a=x :: b)↔a=b:=by simp
        simp only [e1,e2]
theorem way_cb:Way (Lib.compareBytes):=by
  have:Lib.compareBytes=cmpBs:=funext fun x => funext fun y => cmpB_eq x y
  rw [this]
  exact way_bs
theorem cb_eq {x y:ByteArray} (h:Lib.compareBytes x.data.toList y.data.toList=0):x=y:=by
  rw [cmpB_eq] at h
  exact ext_bs (cmpBs_eq h)
theorem lex_neg {α:Type} (f g:α→α→Int) (x y:α):(if f x y≠0 then f x y else g x y)=lexW f g x y:=by
  unfold lexW
  by_cases h:f x y=0
  · rw [if_neg (by simp [h]),if_pos h]
  · rw [if_pos h,if_neg h]
theorem cfA_lex:cfA=lexW cmpPA (fun x y => cmpV (vrM x.f1) (vrM y.f1)):=funext fun x => funext fun y => lex_neg cmpPA (fun x y => cmpV (vrM x.f1) (vrM y.f1)) x y
theorem cfB_lex:cfB=lexW cmpPB (lexW (fun x y => Lib.compareBytes x.f1.data.toList y.f1.data.toList) (fun x y => cmpV (vrM x.f2) (vrM y.f2))):=funext fun x => funext fun y => by
  have:=lex_neg cmpPB (fun x y => if Lib.compareBytes x.f1.data.toList y.f1.data.toList≠0 then Lib.compareBytes x.f1.data.toList y.f1.data.toList else cmpV (vrM x.f2) (vrM y.f2)) x y
  refine this.trans ?_
  unfold lexW
  by_cases h:cmpPB x y=0
  · rw [if_pos h,if_pos h]
    exact lex_neg (fun x y:S48 => Lib.compareBytes x.f1.data.toList y.f1.data.toList) (fun x y => cmpV (vrM x.f2) (vrM y.f2)) x y
  · rw [if_neg h,if_neg h]
theorem way_cfA:Way cfA:=by
  rw [cfA_lex]
  exact (way_cb.pull (fun x:S45 => x.f0.data.toList)).lex (way_ver.pull (fun x:S45 => vrM x.f1))
theorem way_cfB:Way cfB:=by
  rw [cfB_lex]
  exact (way_cb.pull (fun x:S48 => x.f0.data.toList)).lex ((way_cb.pull (fun x:S48 => x.f1.data.toList)).lex (way_ver.pull (fun x:S48 => vrM x.f2)))
theorem vrM_inj {x y:S43} (h:vrM x=vrM y):x=y:=by
  obtain ⟨a,b,c,d⟩:=x
  obtain ⟨a2,b2,c2,d2⟩:=y
  unfold vrM at h
  simp only [Vr.mk.injEq] at h
  obtain ⟨h1,h2,h3,h4⟩:=h
  rw [h1,h2,h3,ext_bs h4]
theorem cfA_eq {x y:S45} (h:cfA x y=0):x=y:=by
  rw [cfA_lex] at h
  obtain ⟨h1,h2⟩:=lexW_eq h
  have e1:=cb_eq h1
  have e2:=vrM_inj (cmpV_eq h2)
  cases x
  cases y
  simp only at e1 e2
  rw [e1,e2]
theorem cfB_eq {x y:S48} (h:cfB x y=0):x=y:=by
  rw [cfB_lex] at h
  obtain ⟨h1,h2⟩:=lexW_eq h
  obtain ⟨h2,h3⟩:=lexW_eq h2
  have e1:=cb_eq h1
  have e2:=cb_eq h2
  have e3:=vrM_inj (cmpV_eq h3)
  cases x
  cases y
  simp only at e1 e2 e3
  rw [e1,e2,e3]
section
variable {α:Type} {cf:α→α→Int}
def ltW (cf:α→α→Int) (x y:α):Bool:=decide (cf x y<0)
theorem swoW (hw:Way cf):Sort.SWO (ltW cf) where
  irrefl x:=by unfold ltW;rw [hw.refl x];decide
  trans x y z h1 h2:=by
    unfold ltW at *
    simp only [decide_eq_true_eq] at *
    exact hw.lt (by omega) (by omega) (.inl h1)
  ntrans x y z h1 h2:=by
    unfold ltW at *
    simp only [decide_eq_false_iff_not] at *
    have a1:=hw.anti x y
    have a2:=hw.anti y z
    have a3:=hw.anti x z
    have:=hw.trans z y x (by omega) (by omega)
    omega
end
section
variable {α:Type} [Inhabited α] {cf:α→α→Int}
theorem rise_pair [DecidableEq α] (hw:Way cf) (he:∀ {x y:α},cf x y=0→x=y) (d:Array α) (hs:Sort.SortedIn (ltW cf) 0 d.size d):(Lib.compactUpTo d d.size).Pairwise (fun x y => cf x y<0):=by
  unfold Lib.compactUpTo
  rw [List.pairwise_map]
  have h1:((List.range d.size).filter (Lib.keeps d)).Pairwise (·<·):=List.Pairwise.filter _ List.pairwise_lt_range
  refine h1.imp_of_mem ?_
  intro i j hi hj hij
  have hk:=(List.mem_filter.1 hj).2
  have hjr:=List.mem_range.1 (List.mem_filter.1 hj).1
  unfold Lib.keeps at hk
  simp only [decide_eq_true_eq] at hk
  have hne:d[j]!≠d[j - 1]!:=by
    rcases hk with h|h
    · omega
    · exact h
  have le:∀ a b,a≤b→b<d.size→cf d[a]! d[b]!≤0:=fun a b hab hb => by
    by_cases e:a=b
    · rw [e,hw.refl];omega
    · have:=hs a b (Nat.zero_le _) (by omega) hb
      unfold ltW at this
      simp only [decide_eq_false_iff_not] at this
      have a1:=hw.anti d[a]! d[b]!
      omega
  have l1:=le i (j - 1) (by omega) (by omega)
  have l2:=le (j - 1) j (by omega) hjr
  have l3:cf d[j - 1]! d[j]!≠0:=fun h => hne (he h).symm
  exact hw.lt l1 l2 (.inr (by omega))
theorem sort_mem (hw:Way cf) (l:List α) (x:α) (hx:x ∈ (Sort.insertionSort (ltW cf) l.toArray 0 l.toArray.size).toList):x ∈ l:=by
  have h:=(Sort.insertionSort_holds (lt:=ltW cf) (swoW hw) l.toArray 0 l.toArray.size (Nat.zero_le _) (Nat.le_refl _)).1
  have hp:=h.2.2
  have hz:=h.1
  have e1:(Sort.insertionSort (ltW cf) l.toArray 0 l.toArray.size).extract 0 l.toArray.size=Sort.insertionSort (ltW cf) l.toArray 0 l.toArray.size:=by
    generalize Sort.insertionSort (ltW cf) l.toArray 0 l.toArray.size=D at *
    rw [← hz,Array.extract_size]
  have e2:l.toArray.extract 0 l.toArray.size=l.toArray:=Array.extract_size
  rw [e1,e2] at hp
  simpa using hp.mem_iff.1 hx
theorem compact_mem [DecidableEq α] (d:Array α) (x:α) (hx:x ∈ Lib.compactUpTo d d.size):x ∈ d.toList:=by
  unfold Lib.compactUpTo at hx
  obtain ⟨i,hi,rfl⟩:=List.mem_map.1 hx
  have hr:=List.mem_range.1 (List.mem_filter.1 hi).1
  rw [getElem!_pos d i hr]
  simp
end
theorem normA_rise (l:List S45):(normA cfA l).Pairwise (fun x y => cfA x y<0) :=
  rise_pair way_cfA cfA_eq _ (by
    have h:=(Sort.insertionSort_holds (lt:=ltW cfA) (swoW way_cfA) l.toArray 0 l.toArray.size (Nat.zero_le _) (Nat.le_refl _))
    have hz:(sortedA cfA l.toArray).size=l.toArray.size:=h.1.1
    have hs:Sort.SortedIn (ltW cfA) 0 l.toArray.size (sortedA cfA l.toArray):=h.2
    rw [← hz] at hs
    exact hs)
theorem normB_rise (l:List S48):(normB cfB l).Pairwise (fun x y => cfB x y<0) :=
  rise_pair way_cfB cfB_eq _ (by
    have h:=(Sort.insertionSort_holds (lt:=ltW cfB) (swoW way_cfB) l.toArray 0 l.toArray.size (Nat.zero_le _) (Nat.le_refl _))
    have hz:(sortedB cfB l.toArray).size=l.toArray.size:=h.1.1
    have hs:Sort.SortedIn (ltW cfB) 0 l.toArray.size (sortedB cfB l.toArray):=h.2
    rw [← hz] at hs
    exact hs)
theorem normA_mem (l:List S45) (x:S45) (h:x ∈ normA cfA l):x ∈ l:=sort_mem way_cfA l x (compact_mem _ x h)
theorem normB_mem (l:List S48) (x:S48) (h:x ∈ normB cfB l):x ∈ l:=sort_mem way_cfB l x (compact_mem _ x h)
theorem normA_len (l:List S45):(normA cfA l).length≤l.length:=by
  have h:=(Sort.insertionSort_holds (lt:=ltW cfA) (swoW way_cfA) l.toArray 0 l.toArray.size (Nat.zero_le _) (Nat.le_refl _)).1.1
  have h2:=cpA_le (sortedA cfA l.toArray)
  have h3:(sortedA cfA l.toArray).size=l.toArray.size:=h
  rw [h3] at h2
  exact Nat.le_trans h2 (by simp)
theorem normB_len (l:List S48):(normB cfB l).length≤l.length:=by
  have h:=(Sort.insertionSort_holds (lt:=ltW cfB) (swoW way_cfB) l.toArray 0 l.toArray.size (Nat.zero_le _) (Nat.le_refl _)).1.1
  have h2:=cpB_le (sortedB cfB l.toArray)
  have h3:(sortedB cfB l.toArray).size=l.toArray.size:=h
  rw [h3] at h2
  exact Nat.le_trans h2 (by simp)
theorem rdIA_mem (l:List S45) (i:Nat) (h:i<l.length):rdIA l i=l[i]:=by
  show l.getD (i:Int).toNat _=_
  rw [Int.toNat_natCast]
  simp [List.getD,h]
theorem rdIB_mem (l:List S48) (i:Nat) (h:i<l.length):rdIB l i=l[i]:=by
  show l.getD (i:Int).toNat _=_
  rw [Int.toNat_natCast]
  simp [List.getD,h]
theorem adjA (l:List S45) (i:Nat) (h:i+1<(normA cfA l).length):cfA (rdIA (normA cfA l) i) (rdIA (normA cfA l) (i+1))<0:=by
  rw [rdIA_mem _ _ (by omega),rdIA_mem _ _ h]
  exact List.pairwise_iff_getElem.1 (normA_rise l) i (i+1) (by omega) h (by omega)
theorem adjB (l:List S48) (i:Nat) (h:i+1<(normB cfB l).length):cfB (rdIB (normB cfB l) i) (rdIB (normB cfB l) (i+1))<0:=by
  rw [rdIB_mem _ _ (by omega),rdIB_mem _ _ h]
  exact List.pairwise_iff_getElem.1 (normB_rise l) i (i+1) (by omega) h (by omega)
end Go.Proofs.YtjiidlkkkednoaaGreatDoor.Q
end
section
namespace Go.Proofs.YtjiidlkkkednoaaGreatDoor.Q
open Go.RowKit Go.Proofs.YtjiidlkkkednoaaGreatDoorW.PrintWords Go.Proofs.YtjiidlkkkednoaaGreatDoorW.PrintLast Go.Proofs.YtjiidlkkkednoaaGreatDoorW.PrintMore
theorem Ev.pos {α:Type} {c:Prop} [Decidable c] {a b:Nat→Option α} {r:α} (h:c) (k:Ev a r):Ev (fun n => if c then a n else b n) r:=by
  simpa only [if_pos h] using k
theorem Ev.neg {α:Type} {c:Prop} [Decidable c] {a b:Nat→Option α} {r:α} (h:¬ c) (k:Ev b r):Ev (fun n => if c then a n else b n) r:=by
  simpa only [if_neg h] using k
theorem Ev.val {α β:Type} {o:Option α} {f:Nat→α→Option β} {a:α} {r:β} (h:o=some a) (k:Ev (fun n => f n a) r):Ev (fun n => o.bind (f n)) r:=by
  subst h
  exact k
theorem Ev.ret {α:Type} {o:Option α} {r:α} (h:o=some r):Ev (fun _ => o) r:=⟨0,fun _ _ => h⟩
theorem wrap_id {x:Int} (h1:-9223372036854775808≤x) (h2:x≤9223372036854775807):wrap64 x=x:=by unfold wrap64;omega
theorem tdiv_bd {x:Int} (n:Int) (h0:0≤x) (hn:0<n):0≤Int.tdiv x n∧Int.tdiv x n≤x:=by
  rw [Int.tdiv_eq_ediv_of_nonneg h0]
  exact ⟨Int.ediv_nonneg h0 (by omega),Int.ediv_le_self n h0⟩
theorem tmod_bd {x:Int} (n:Int) (h0:0≤x) (hn:0<n):0≤Int.tmod x n∧Int.tmod x n<n :=
  ⟨Int.tmod_nonneg n h0,Int.tmod_lt_of_pos x hn⟩
def win (a n:Int):Int:=if Int.tmod a n<0 then Int.tmod a n+n else Int.tmod a n
theorem win_bd (a n:Int) (hn:0<n):0≤win a n∧win a n<n:=by
  unfold win
  have h1:=Int.tmod_lt_of_pos a hn
  have h2:-n<Int.tmod a n:=by
    have:=Int.tmod_lt_of_pos (-a) hn
    rw [Int.neg_tmod] at this
    omega
  split <;> omega
theorem win_val (f:Int→Int→Option Int) (hf:∀ a b,f a b=if b=0 then none else if Int.tmod a b<0 then some (wrap64 (Int.tmod a b+b)) else some (Int.tmod a b)) (a n:Int) (hn:0<n) (hn2:n≤4611686018427387904):f a n=some (win a n):=by
  rw [hf,if_neg (by omega)]
  unfold win
  have h1:=Int.tmod_lt_of_pos a hn
  have h2:-n<Int.tmod a n:=by
    have:=Int.tmod_lt_of_pos (-a) hn
    rw [Int.neg_tmod] at this
    omega
  split
  · rw [wrap_id (by omega) (by omega)]
  · rfl
end Go.Proofs.YtjiidlkkkednoaaGreatDoor.Q
end
