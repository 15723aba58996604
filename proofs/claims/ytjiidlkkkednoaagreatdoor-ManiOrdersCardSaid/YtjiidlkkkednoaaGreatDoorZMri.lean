import Derived.Test.YtjiidlkkkednoaaGreatDoorZMsoAg
import Derived.Test.YtjiidlkkkednoaaGreatDoorZMsoBg
import Derived.ScopeJumps
import Derived.WalkMore
set_option linter.unusedVariables false
set_option linter.unusedSimpArgs false
namespace Go.Proofs.YtjiidlkkkednoaaGreatDoor.Q
open Go.RowKit Go.Proofs.YtjiidlkkkednoaaGreatDoorW.PrintWords
def rdIA (l:List S45) (i:Nat):S45:=rd_T45 l (i:Int)
def rdIB (l:List S48) (i:Nat):S48:=rd_T48 l (i:Int)
theorem wp_scope_both {P:Program} {a:Act} {w:World} {Q:Exit→Act→World→Prop} {c rest:Code} (l:Nat) (J:Act→World→Prop) (μ:Act→World→Nat) (hf:findLabel c l=some (Code.skip.seq rest))
  (pass:∀ a w,J a w→rest.wp P (Exit.jump l (fun a' w' => J a' w'∧μ a' w'<μ a w) Q) a w)
  (first:(∀ a w,J a w→rest.wp P (Exit.jump l J Q) a w)→c.wp P (Exit.jump l J Q) a w):(Code.scope c).wp P Q a w :=
 wp_scope_jumps l J μ hf (first fun a w h => wp_mono (pass a w h) fun e a' w' hq => by
  cases e <;> first|exact hq|exact ⟨hq.1,hq.2.1⟩) fun a w h => by
   have h2:=pass a w h
   generalize (Exit.jump l (fun a' w' => J a' w'∧μ a' w'<μ a w) Q)=Q2 at *
   exact wp_seq (wp_skip h2)
theorem exists_u2 {A:Act} {F:Nat→(Nat→Value)→Act} {p:Nat→Prop} (j:Nat) (h:A=F j (fun k => A.tmps.getD k undef)) (hp:p j):∃ (j:Nat) (u:Nat→Value),A=F j u∧p j:=⟨j,_,h,hp⟩
def risesI {α:Type} (get:Nat→α) (cf:α→α→Int) (n:Nat):Bool:=(List.range n).all fun i => i == 0 || decide (cf (get (i - 1)) (get i)<0)
theorem risesI_succ {α:Type} (get:Nat→α) (cf:α→α→Int) (n:Nat) (h:1≤n):risesI get cf (n+1)=(risesI get cf n && decide (cf (get (n - 1)) (get n)<0)):=by
 have e:(n == 0)=false:=by simpa using Nat.ne_of_gt h
 unfold risesI
 rw [List.range_succ,List.all_append]
 simp [e]
theorem risesI_one {α:Type} (get:Nat→α) (cf:α→α→Int):risesI get cf 1=true:=rfl
theorem risesI_no {α:Type} (get:Nat→α) (cf:α→α→Int) (n i:Nat) (h1:1≤i) (h:i<n) (hc:¬ cf (get (i - 1)) (get i)<0):risesI get cf n=false:=by
 unfold risesI
 rw [List.all_eq_false]
 exact ⟨i,List.mem_range.2 h,by simp [Nat.ne_of_gt h1,hc]⟩
theorem risesI_last {α:Type} (get:Nat→α) (cf:α→α→Int) (n j:Nat) (h:risesI get cf j=true) (hj:n≤j):risesI get cf n=true:=by
 unfold risesI at h ⊢
 rw [List.all_eq_true] at h ⊢
 exact fun i hi => h i (List.mem_range.2 (Nat.lt_of_lt_of_le (List.mem_range.1 hi) hj))
def RJP (w0 w:World) (A:Option Addr) (c:Nat) (l:List S45) (cf:S45→S45→Int) (a':Act) (w':World):Prop :=
 ∃ (j:Nat) (u:Nat→Value),a'={ tmps:=#[.slice A l.length c,.func (.func 39) #[] #[],undef,undef,.bool false,.int .i64 (j:Int),u 6,u 7,u 8,u 9,u 10,u 11,u 12,u 13,u 14,u 15,u 16,u 17,u 18,u 19,u 20,u 21,u 22,u 23,u 24,u 25,u 26],defers:=[] }∧1≤j∧j≤l.length+1∧risesI (rdIA l) cf j=true∧Below w.heap.size w w'
def RMP (n:Nat) (a':Act) (_:World):Nat:=match a'.tmps.getD 5 undef with|.int _ i => n+1 - i.toNat|_ => 0
set_option maxHeartbeats 4000000 in
set_option maxRecDepth 100000 in
theorem risesP_calls {w0:World} (w:World) (A:Option Addr) (c:Nat) (l:List S45) {Ok:S45→Prop} {cf:S45→S45→Int}
  (hC:∀ x y,Ok x→Ok y→∀ W,Below w0.heap.size w0 W→Calls Tryz.prog 39 #[.agg #[.string x.f0,.int .i64 x.f1.f0,.int .i64 x.f1.f1,.int .i64 x.f1.f2,.string x.f1.f3],.agg #[.string y.f0,.int .i64 y.f1.f0,.int .i64 y.f1.f1,.int .i64 y.f1.f2,.string y.f1.f3]] W fun e w' => e=.returned (.int .i64 (cf x y))∧Below W.heap.size W w')
  (h:Kd.C k45 w A l.length l) (hl:l.length≤1000000) (hok:∀ i,i<l.length→Ok (rdIA l i)) (hw:Below w0.heap.size w0 w) :
  Calls Tryz.prog 38 #[.slice A l.length c,.func (.func 39) #[] #[]] w fun e w' => e=.returned (.bool (risesI (rdIA l) cf l.length && decide (l.length≤2000)))∧Below w.heap.size w w':=by
 have HCC:=Lib.hid hC
 have HH:=Lib.hid h
 have HOK:=Lib.hid hok
 have HW0:=Lib.hid hw
 clear hC h hok hw
 go_enter Tryz.func38,Tryz.ntmps38
 go_wp2_with (fail)
 refine wp_scope_both 0 (RJP w0 w A c l cf) (RMP l.length) rfl ?pass ?first
 case pass =>
  rintro a' w' ⟨j,u,rfl,hj1,hj,hri,hb⟩
  have HRI:=Lib.hid hri
  have HB:=Lib.hid hb
  clear hri hb
  by_cases hlt:j<l.length
  ·obtain ⟨i,rfl⟩:∃ i,j=i+1:=⟨j - 1,by omega⟩
   have hat:=at_T45 (Kd.C_below HH.out HB.out) ((i+1:Nat):Int) (by omega) (by omega)
   have hap:=at_T45 (Kd.C_below HH.out HB.out) (i:Int) (by omega) (by omega)
   simp only [Int.toNat_natCast] at hat hap
   have hx:rd_T45 l (i:Int)=rdIA l i:=rfl
   have hy:rd_T45 l ((i+1:Nat):Int)=rdIA l (i+1):=rfl
   rw [hx] at hap
   rw [hy] at hat
   have hox:=HOK.out i (by omega)
   have hoy:=HOK.out (i+1) hlt
   have HSC:=Lib.hid (risesI_succ (rdIA l) cf (i+1) (by omega))
   rw [Nat.add_sub_cancel] at HSC
   have HNO:=Lib.hid (risesI_no (rdIA l) cf l.length (i+1) (by omega) hlt)
   rw [Nat.add_sub_cancel] at HNO
   generalize rdIA l i=X at *
   generalize rdIA l (i+1)=Y at *
   obtain ⟨ad,rfl,p0,p1,p2,p3,p4⟩:=hat
   obtain ⟨ad2,he,q0,q1,q2,q3,q4⟩:=hap
   cases he
   have HXY:=Lib.hid (HCC.out X Y hox hoy)
   have HWB:=Lib.hid (below_then HW0.out HW0.out.size HB.out)
   have hwp:IntKind.i64.wrap (i:Int)=(i:Int):=by rw [IntWalk.i64_in _ ⟨by omega,by omega⟩]
   have hw2:IntKind.i64.wrap ((i:Int)+1)=(i:Int)+1:=by rw [IntWalk.i64_in _ ⟨by omega,by omega⟩]
   have hw3:IntKind.i64.wrap ((i:Int)+1+1)=(i:Int)+1+1:=by rw [IntWalk.i64_in _ ⟨by omega,by omega⟩]
   have jz:(i:Int)+1<(l.length:Int):=by omega
   have jz1:(i:Int)<(l.length:Int):=by omega
   have pz:(0:Int)≤(i:Int)+1:=by omega
   have e0:((i:Int)+1).toNat=i+1:=by omega
   generalize hv:cf X Y=v at *
   clear hv hox hoy hx hy
   go_wp2_with (fail)
   by_cases hneg:v<0
   ·have d1:¬ (0:Int)≤v:=by omega
    go_region_with (go_at_call 39;refine (HXY.out _ (by repeat (first|exact HWB.out|refine below_drew1 ?_))).mono ?_;rintro e w1 ⟨rfl,hb1⟩;have HB1:=Lib.hid hb1;clear hb1)
    all_goals go_wp2_with (fail)
    all_goals go_step3
    all_goals (
     refine ⟨rfl,exists_u2 (i+1+1) rfl ⟨by omega,by omega,by rw [HSC.out,HRI.out];simp [hneg],below_then HB.out HB.out.size (by first|exact HB1.out|exact ⟨HB1.out.os,HB1.out.tape,HB1.out.output,HB1.out.size,HB1.out.block⟩)⟩,?_⟩
     show (l.length+1 - ((i:Int)+1+1).toNat)<(l.length+1 - (((i+1:Nat):Int)).toNat)
     omega)
   ·have d1:(0:Int)≤v:=by omega
    go_region_with (go_at_call 39;refine (HXY.out _ (by repeat (first|exact HWB.out|refine below_drew1 ?_))).mono ?_;rintro e w1 ⟨rfl,hb1⟩;have HB1:=Lib.hid hb1;clear hb1)
    all_goals go_wp2_with (fail)
    all_goals (
     simp only [Exit.jump]
     go_ret
     rw [HNO.out (by omega),Bool.false_and]
     exact ⟨rfl,below_then HB.out HB.out.size (by first|exact HB1.out|exact ⟨HB1.out.os,HB1.out.tape,HB1.out.output,HB1.out.size,HB1.out.block⟩)⟩)
  ·have h1:¬ (j:Int)<(l.length:Int):=by omega
   go_wp2_with (fail)
   simp only [Exit.jump]
   have hn:(decide ((l.length:Int)≤2000))=decide (l.length≤2000):=Bool.eq_iff_iff.2 (by simp;omega)
   rw [hn]
   go_ret
   rw [risesI_last _ _ _ _ HRI.out (by omega),Bool.true_and]
   exact ⟨rfl,HB.out⟩
 case first =>
  intro hrest
  go_wp2_with (fail)
  go_step3
  simp only [Exit.then]
  rename_i K hK
  refine hK _ _ (hrest _ _ ?_)
  exact ⟨1,fun k => undef,rfl,Nat.le_refl _,by omega,risesI_one _ _,Below.refl _ _⟩
def RJQ (w0 w:World) (A:Option Addr) (c:Nat) (l:List S45) (cf:S45→S45→Int) (a':Act) (w':World):Prop :=
 ∃ (j:Nat) (u:Nat→Value),a'={ tmps:=#[.slice A l.length c,.func (.func 41) #[] #[],undef,undef,.bool false,.int .i64 (j:Int),u 6,u 7,u 8,u 9,u 10,u 11,u 12,u 13,u 14,u 15,u 16,u 17,u 18,u 19,u 20,u 21,u 22,u 23,u 24,u 25,u 26],defers:=[] }∧1≤j∧j≤l.length+1∧risesI (rdIA l) cf j=true∧Below w.heap.size w w'
def RMQ (n:Nat) (a':Act) (_:World):Nat:=match a'.tmps.getD 5 undef with|.int _ i => n+1 - i.toNat|_ => 0
set_option maxHeartbeats 4000000 in
set_option maxRecDepth 100000 in
theorem risesQ_calls {w0:World} (w:World) (A:Option Addr) (c:Nat) (l:List S45) {Ok:S45→Prop} {cf:S45→S45→Int}
  (hC:∀ x y,Ok x→Ok y→∀ W,Below w0.heap.size w0 W→Calls Tryz.prog 41 #[.agg #[.string x.f0,.int .i64 x.f1.f0,.int .i64 x.f1.f1,.int .i64 x.f1.f2,.string x.f1.f3],.agg #[.string y.f0,.int .i64 y.f1.f0,.int .i64 y.f1.f1,.int .i64 y.f1.f2,.string y.f1.f3]] W fun e w' => e=.returned (.int .i64 (cf x y))∧Below W.heap.size W w')
  (h:Kd.C k45 w A l.length l) (hl:l.length≤1000000) (hok:∀ i,i<l.length→Ok (rdIA l i)) (hw:Below w0.heap.size w0 w) :
  Calls Tryz.prog 38 #[.slice A l.length c,.func (.func 41) #[] #[]] w fun e w' => e=.returned (.bool (risesI (rdIA l) cf l.length && decide (l.length≤2000)))∧Below w.heap.size w w':=by
 have HCC:=Lib.hid hC
 have HH:=Lib.hid h
 have HOK:=Lib.hid hok
 have HW0:=Lib.hid hw
 clear hC h hok hw
 go_enter Tryz.func38,Tryz.ntmps38
 go_wp2_with (fail)
 refine wp_scope_both 0 (RJQ w0 w A c l cf) (RMQ l.length) rfl ?pass ?first
 case pass =>
  rintro a' w' ⟨j,u,rfl,hj1,hj,hri,hb⟩
  have HRI:=Lib.hid hri
  have HB:=Lib.hid hb
  clear hri hb
  by_cases hlt:j<l.length
  ·obtain ⟨i,rfl⟩:∃ i,j=i+1:=⟨j - 1,by omega⟩
   have hat:=at_T45 (Kd.C_below HH.out HB.out) ((i+1:Nat):Int) (by omega) (by omega)
   have hap:=at_T45 (Kd.C_below HH.out HB.out) (i:Int) (by omega) (by omega)
   simp only [Int.toNat_natCast] at hat hap
   have hx:rd_T45 l (i:Int)=rdIA l i:=rfl
   have hy:rd_T45 l ((i+1:Nat):Int)=rdIA l (i+1):=rfl
   rw [hx] at hap
   rw [hy] at hat
   have hox:=HOK.out i (by omega)
   have hoy:=HOK.out (i+1) hlt
   have HSC:=Lib.hid (risesI_succ (rdIA l) cf (i+1) (by omega))
   rw [Nat.add_sub_cancel] at HSC
   have HNO:=Lib.hid (risesI_no (rdIA l) cf l.length (i+1) (by omega) hlt)
   rw [Nat.add_sub_cancel] at HNO
   generalize rdIA l i=X at *
   generalize rdIA l (i+1)=Y at *
   obtain ⟨ad,rfl,p0,p1,p2,p3,p4⟩:=hat
   obtain ⟨ad2,he,q0,q1,q2,q3,q4⟩:=hap
   cases he
   have HXY:=Lib.hid (HCC.out X Y hox hoy)
   have HWB:=Lib.hid (below_then HW0.out HW0.out.size HB.out)
   have hwp:IntKind.i64.wrap (i:Int)=(i:Int):=by rw [IntWalk.i64_in _ ⟨by omega,by omega⟩]
   have hw2:IntKind.i64.wrap ((i:Int)+1)=(i:Int)+1:=by rw [IntWalk.i64_in _ ⟨by omega,by omega⟩]
   have hw3:IntKind.i64.wrap ((i:Int)+1+1)=(i:Int)+1+1:=by rw [IntWalk.i64_in _ ⟨by omega,by omega⟩]
   have jz:(i:Int)+1<(l.length:Int):=by omega
   have jz1:(i:Int)<(l.length:Int):=by omega
   have pz:(0:Int)≤(i:Int)+1:=by omega
   have e0:((i:Int)+1).toNat=i+1:=by omega
   generalize hv:cf X Y=v at *
   clear hv hox hoy hx hy
   go_wp2_with (fail)
   by_cases hneg:v<0
   ·have d1:¬ (0:Int)≤v:=by omega
    go_region_with (go_at_call 41;refine (HXY.out _ (by repeat (first|exact HWB.out|refine below_drew1 ?_))).mono ?_;rintro e w1 ⟨rfl,hb1⟩;have HB1:=Lib.hid hb1;clear hb1)
    all_goals go_wp2_with (fail)
    all_goals go_step3
    all_goals (
     refine ⟨rfl,exists_u2 (i+1+1) rfl ⟨by omega,by omega,by rw [HSC.out,HRI.out];simp [hneg],below_then HB.out HB.out.size (by first|exact HB1.out|exact ⟨HB1.out.os,HB1.out.tape,HB1.out.output,HB1.out.size,HB1.out.block⟩)⟩,?_⟩
     show (l.length+1 - ((i:Int)+1+1).toNat)<(l.length+1 - (((i+1:Nat):Int)).toNat)
     omega)
   ·have d1:(0:Int)≤v:=by omega
    go_region_with (go_at_call 41;refine (HXY.out _ (by repeat (first|exact HWB.out|refine below_drew1 ?_))).mono ?_;rintro e w1 ⟨rfl,hb1⟩;have HB1:=Lib.hid hb1;clear hb1)
    all_goals go_wp2_with (fail)
    all_goals (
     simp only [Exit.jump]
     go_ret
     rw [HNO.out (by omega),Bool.false_and]
     exact ⟨rfl,below_then HB.out HB.out.size (by first|exact HB1.out|exact ⟨HB1.out.os,HB1.out.tape,HB1.out.output,HB1.out.size,HB1.out.block⟩)⟩)
  ·have h1:¬ (j:Int)<(l.length:Int):=by omega
   go_wp2_with (fail)
   simp only [Exit.jump]
   have hn:(decide ((l.length:Int)≤2000))=decide (l.length≤2000):=Bool.eq_iff_iff.2 (by simp;omega)
   rw [hn]
   go_ret
   rw [risesI_last _ _ _ _ HRI.out (by omega),Bool.true_and]
   exact ⟨rfl,HB.out⟩
 case first =>
  intro hrest
  go_wp2_with (fail)
  go_step3
  simp only [Exit.then]
  rename_i K hK
  refine hK _ _ (hrest _ _ ?_)
  exact ⟨1,fun k => undef,rfl,Nat.le_refl _,by omega,risesI_one _ _,Below.refl _ _⟩
def RJS (w0 w:World) (A:Option Addr) (c:Nat) (l:List S48) (cf:S48→S48→Int) (a':Act) (w':World):Prop :=
 ∃ (j:Nat) (u:Nat→Value),a'={ tmps:=#[.slice A l.length c,.func (.func 43) #[] #[],undef,undef,.bool false,.int .i64 (j:Int),u 6,u 7,u 8,u 9,u 10,u 11,u 12,u 13,u 14,u 15,u 16,u 17,u 18,u 19,u 20,u 21,u 22,u 23,u 24,u 25,u 26],defers:=[] }∧1≤j∧j≤l.length+1∧risesI (rdIB l) cf j=true∧Below w.heap.size w w'
def RMS (n:Nat) (a':Act) (_:World):Nat:=match a'.tmps.getD 5 undef with|.int _ i => n+1 - i.toNat|_ => 0
set_option maxHeartbeats 4000000 in
set_option maxRecDepth 100000 in
theorem risesS_calls {w0:World} (w:World) (A:Option Addr) (c:Nat) (l:List S48) {Ok:S48→Prop} {cf:S48→S48→Int}
  (hC:∀ x y,Ok x→Ok y→∀ W,Below w0.heap.size w0 W→Calls Tryz.prog 43 #[.agg #[.string x.f0,.string x.f1,.int .i64 x.f2.f0,.int .i64 x.f2.f1,.int .i64 x.f2.f2,.string x.f2.f3],.agg #[.string y.f0,.string y.f1,.int .i64 y.f2.f0,.int .i64 y.f2.f1,.int .i64 y.f2.f2,.string y.f2.f3]] W fun e w' => e=.returned (.int .i64 (cf x y))∧Below W.heap.size W w')
  (h:Kd.C k48 w A l.length l) (hl:l.length≤1000000) (hok:∀ i,i<l.length→Ok (rdIB l i)) (hw:Below w0.heap.size w0 w) :
  Calls Tryz.prog 42 #[.slice A l.length c,.func (.func 43) #[] #[]] w fun e w' => e=.returned (.bool (risesI (rdIB l) cf l.length && decide (l.length≤2000)))∧Below w.heap.size w w':=by
 have HCC:=Lib.hid hC
 have HH:=Lib.hid h
 have HOK:=Lib.hid hok
 have HW0:=Lib.hid hw
 clear hC h hok hw
 go_enter Tryz.func42,Tryz.ntmps42
 go_wp2_with (fail)
 refine wp_scope_both 0 (RJS w0 w A c l cf) (RMS l.length) rfl ?pass ?first
 case pass =>
  rintro a' w' ⟨j,u,rfl,hj1,hj,hri,hb⟩
  have HRI:=Lib.hid hri
  have HB:=Lib.hid hb
  clear hri hb
  by_cases hlt:j<l.length
  ·obtain ⟨i,rfl⟩:∃ i,j=i+1:=⟨j - 1,by omega⟩
   have hat:=at_T48 (Kd.C_below HH.out HB.out) ((i+1:Nat):Int) (by omega) (by omega)
   have hap:=at_T48 (Kd.C_below HH.out HB.out) (i:Int) (by omega) (by omega)
   simp only [Int.toNat_natCast] at hat hap
   have hx:rd_T48 l (i:Int)=rdIB l i:=rfl
   have hy:rd_T48 l ((i+1:Nat):Int)=rdIB l (i+1):=rfl
   rw [hx] at hap
   rw [hy] at hat
   have hox:=HOK.out i (by omega)
   have hoy:=HOK.out (i+1) hlt
   have HSC:=Lib.hid (risesI_succ (rdIB l) cf (i+1) (by omega))
   rw [Nat.add_sub_cancel] at HSC
   have HNO:=Lib.hid (risesI_no (rdIB l) cf l.length (i+1) (by omega) hlt)
   rw [Nat.add_sub_cancel] at HNO
   generalize rdIB l i=X at *
   generalize rdIB l (i+1)=Y at *
   obtain ⟨ad,rfl,p0,p1,p2,p3,p4,p5⟩:=hat
   obtain ⟨ad2,he,q0,q1,q2,q3,q4,q5⟩:=hap
   cases he
   have HXY:=Lib.hid (HCC.out X Y hox hoy)
   have HWB:=Lib.hid (below_then HW0.out HW0.out.size HB.out)
   have hwp:IntKind.i64.wrap (i:Int)=(i:Int):=by rw [IntWalk.i64_in _ ⟨by omega,by omega⟩]
   have hw2:IntKind.i64.wrap ((i:Int)+1)=(i:Int)+1:=by rw [IntWalk.i64_in _ ⟨by omega,by omega⟩]
   have hw3:IntKind.i64.wrap ((i:Int)+1+1)=(i:Int)+1+1:=by rw [IntWalk.i64_in _ ⟨by omega,by omega⟩]
   have jz:(i:Int)+1<(l.length:Int):=by omega
   have jz1:(i:Int)<(l.length:Int):=by omega
   have pz:(0:Int)≤(i:Int)+1:=by omega
   have e0:((i:Int)+1).toNat=i+1:=by omega
   generalize hv:cf X Y=v at *
   clear hv hox hoy hx hy
   go_wp2_with (fail)
   by_cases hneg:v<0
   ·have d1:¬ (0:Int)≤v:=by omega
    go_region_with (go_at_call 43;refine (HXY.out _ (by repeat (first|exact HWB.out|refine below_drew1 ?_))).mono ?_;rintro e w1 ⟨rfl,hb1⟩;have HB1:=Lib.hid hb1;clear hb1)
    all_goals go_wp2_with (fail)
    all_goals go_step3
    all_goals (
     refine ⟨rfl,exists_u2 (i+1+1) rfl ⟨by omega,by omega,by rw [HSC.out,HRI.out];simp [hneg],below_then HB.out HB.out.size (by first|exact HB1.out|exact ⟨HB1.out.os,HB1.out.tape,HB1.out.output,HB1.out.size,HB1.out.block⟩)⟩,?_⟩
     show (l.length+1 - ((i:Int)+1+1).toNat)<(l.length+1 - (((i+1:Nat):Int)).toNat)
     omega)
   ·have d1:(0:Int)≤v:=by omega
    go_region_with (go_at_call 43;refine (HXY.out _ (by repeat (first|exact HWB.out|refine below_drew1 ?_))).mono ?_;rintro e w1 ⟨rfl,hb1⟩;have HB1:=Lib.hid hb1;clear hb1)
    all_goals go_wp2_with (fail)
    all_goals (
     simp only [Exit.jump]
     go_ret
     rw [HNO.out (by omega),Bool.false_and]
     exact ⟨rfl,below_then HB.out HB.out.size (by first|exact HB1.out|exact ⟨HB1.out.os,HB1.out.tape,HB1.out.output,HB1.out.size,HB1.out.block⟩)⟩)
  ·have h1:¬ (j:Int)<(l.length:Int):=by omega
   go_wp2_with (fail)
   simp only [Exit.jump]
   have hn:(decide ((l.length:Int)≤2000))=decide (l.length≤2000):=Bool.eq_iff_iff.2 (by simp;omega)
   rw [hn]
   go_ret
   rw [risesI_last _ _ _ _ HRI.out (by omega),Bool.true_and]
   exact ⟨rfl,HB.out⟩
 case first =>
  intro hrest
  go_wp2_with (fail)
  go_step3
  simp only [Exit.then]
  rename_i K hK
  refine hK _ _ (hrest _ _ ?_)
  exact ⟨1,fun k => undef,rfl,Nat.le_refl _,by omega,risesI_one _ _,Below.refl _ _⟩
end Go.Proofs.YtjiidlkkkednoaaGreatDoor.Q
