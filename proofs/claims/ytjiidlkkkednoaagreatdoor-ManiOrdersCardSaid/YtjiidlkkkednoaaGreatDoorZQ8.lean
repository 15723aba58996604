import Derived.Test.YtjiidlkkkednoaaGreatDoorZBaseg
import Derived.Test.YtjiidlkkkednoaaGreatDoorZQ7g
import Derived.Test.YtjiidlkkkednoaaGreatDoorZR1g
namespace Go.Proofs.YtjiidlkkkednoaaGreatDoor.Q
open Go.RowKit Go.Proofs.YtjiidlkkkednoaaGreatDoorW.PrintWords Go.Proofs.YtjiidlkkkednoaaGreatDoorW.PrintLast Go.Proofs.YtjiidlkkkednoaaGreatDoorW.PrintMore
attribute [local go_sem] max2_int min2_int max_two min_two max_three min_three max_four min_four
set_option linter.unusedVariables false
set_option linter.unusedSimpArgs false
def path_part.j0:Nat→ByteArray→Int→Bool→Option (ByteArray × ByteArray × Int)
 | 0,_,_,_ => none
 | k+1,x0,x3,x15 => if x15=true then (if 0≤(wrap64 (x3+2)) then (if (wrap64 (x3+2))≤(x0.size:Int) then ((text_Number.f k (x0.extract ((wrap64 (x3+2)):Int).toNat x0.size)).bind fun bt123 => (if bt123.2=true then (if bt123.1 ≥ 2 then (if bt123.1≤999999 then (if 0≤x3 then (if x3≤(x0.size:Int) then (some (x0,x0.extract 0 (x3:Int).toNat,bt123.1)) else (none)) else (none)) else (some (x0,x0,0))) else (some (x0,x0,0))) else (some (x0,x0,0)))) else (none)) else (none)) else (some (x0,x0,0))
def path_part.f (k:Nat) (a0:ByteArray):Option (ByteArray × ByteArray × Int):=(R.strings_LastIndexByte.f a0 47).bind fun t121 => (if t121 ≥ 1 then (if 0≤t121 then (if t121≤(a0.size:Int) then ((strings_HasPrefix.f (a0.extract (t121:Int).toNat a0.size) (⟨#[47,118]⟩:ByteArray)).bind fun t122 => (path_part.j0 k a0 t121 t122)) else (none)) else (none)) else (path_part.j0 k a0 t121 false))
set_option maxHeartbeats 8000000 in
set_option maxRecDepth 100000 in
theorem path_part.calls (k:Nat) (a0:ByteArray) (r1:ByteArray) (r2:ByteArray) (r3:Int) (w:World) (h:path_part.f k a0=some (r1,r2,r3)) :
  Calls Tryz.prog 112 #[.string a0] w fun e w' => e=.returned (.agg #[.string r1,.string r2,.int .i64 r3])∧Below w.heap.size w w':=by
 have hu126:=Tryz.underlying126
 have HB:=Aside0.mk (Below.refl w.heap.size w)
 have H:((R.strings_LastIndexByte.f a0 47).bind fun t121 => (if t121 ≥ 1 then (if 0≤t121 then (if t121≤(a0.size:Int) then ((strings_HasPrefix.f (a0.extract (t121:Int).toNat a0.size) (⟨#[47,118]⟩:ByteArray)).bind fun t122 => (path_part.j0 k a0 t121 t122)) else (none)) else (none)) else (path_part.j0 k a0 t121 false)))=some (r1,r2,r3):=h
 clear h
 replace H:=Option.bind_eq_some_iff.mp H
 obtain ⟨t121,A20,H⟩:=H
 replace H:(if t121 ≥ 1 then (if 0≤t121 then (if t121≤(a0.size:Int) then ((strings_HasPrefix.f (a0.extract (t121:Int).toNat a0.size) (⟨#[47,118]⟩:ByteArray)).bind fun t122 => (path_part.j0 k a0 t121 t122)) else (none)) else (none)) else (path_part.j0 k a0 t121 false))=some (r1,r2,r3):=H
 have A2:=Aside0.mk A20
 clear A20
 have HC3:=Aside0.mk H
 clear H
 go_enter Tryz.func112,Tryz.ntmps112
 go_upto_region 2 with (first|((with_reducible refine gate_dst (N:=2) rfl ?_);refine box_event ?hg (N:=2) ?hd (cs:=#[.string (⟨#[]⟩:ByteArray),.string (⟨#[]⟩:ByteArray),.int .i64 0]) (t:=126) ?hr ?_;(case hd => rfl);(case hg => rfl);(case hr => first|(go_simp;done)|(go_simp;rfl));intro gb120 hg w4 hbox hb;have n0_:=Aside0.mk (below_step (by repeat (first|(with_reducible first|exact HB.out|apply below_alloc|apply pw_below_drewN|apply below_drew1)|exact HB.out)) hb);have n1_:=Aside0.mk (hbox);have n2_:=Aside0.mk ((by rw [hg];exact (below_size (by repeat (first|(with_reducible first|exact HB.out|apply below_alloc|apply pw_below_drewN|apply below_drew1)|exact HB.out))):w.heap.size≤gb120));have n3_:=Aside0.mk ((by rw [hg];exact (below_size (by repeat (first|(with_reducible first|exact HB.out|apply below_alloc|apply pw_below_drewN|apply below_drew1)|exact HB.out))):w.heap.size≤gb120));clear HB;have HB:=n0_;have BK120:=n1_;have GW120:=n2_;have GE120:=n3_;clear n0_ n1_ n2_ n3_;clear hb hbox hg)|((with_reducible refine gate_callee (f:=63) rfl ?_);refine goesL_ (some 7) rfl rfl Tryz.func63 (by kernel_rfl) rfl #[.string a0,.int .u8 47] rfl (by (try simp only [List.map_toArray,List.map_cons,List.map_nil]);first|done|rfl|(simp only [List.length_drop,List.length_take];rfl)) ?_;(with_reducible refine (R.strings_LastIndexByte.calls a0 47 t121 _ A2.out).mono ?_);rintro e w' ⟨rfl,⟨nd,rfl⟩⟩;refine ⟨_,rfl,?_⟩))
 (try simp only [Act.put,List.setIfInBounds_toArray,List.set_cons_zero,List.set_cons_succ])
 go_cut [15] (fun v15 wc => ∃ (kq:Nat) (x15_2:Bool),v15=.bool x15_2∧Aside0 (path_part.j0 kq a0 t121 x15_2=some (r1,r2,r3))∧Aside0 (kq≤k)∧Aside0 (wc.heap[gb120]?=some (.cells #[.string (⟨#[]⟩:ByteArray),.string (⟨#[]⟩:ByteArray),.int .i64 0] 126 (0,0)))∧Aside0 (Below w.heap.size w wc))
 case first =>
  have H:=HC3.out
  clear HC3
  by_cases c5:t121 ≥ 1
  ·rw [if_pos c5] at H
   have c5b0:decide (1≤t121)=true:=decide_eq_true c5
   clear c5
   (first|rw [c5b0]|(simp only [i64_w,i32_w];rw [c5b0])|skip)
   by_cases c6:0≤t121
   ·rw [if_pos c6] at H
    have c6b0:=eq_true c6
    have c6b1:decide (0≤t121)=true:=decide_eq_true c6
    clear c6
    by_cases c7:t121≤(a0.size:Int)
    ·rw [if_pos c7] at H
     have c7b0:=eq_true c7
     have c7b1:decide (t121≤(a0.size:Int))=true:=decide_eq_true c7
     clear c7
     replace H:=Option.bind_eq_some_iff.mp H
     obtain ⟨t122,A80,H⟩:=H
     replace H:(path_part.j0 k a0 t121 t122)=some (r1,r2,r3):=H
     have A8:=Aside0.mk A80
     clear A80
     have H':=Aside0.mk H
     clear H
     go_wp2_with (first|(go_at_call 132;(with_reducible refine (strings_HasPrefix.calls (a0.extract (t121:Int).toNat a0.size) (⟨#[47,118]⟩:ByteArray) t122 _ A8.out).mono ?_);rintro e w' ⟨rfl,⟨nd,rfl⟩⟩))
     go_meet
     case rel => exact ⟨_,(t122),(by first|rfl|(simp;done)|(simp [*];done)|(simp;exact (fun l_:List UInt8 => by cases l_ <;> rfl:∀ l_:List UInt8,l_.isEmpty=!(l_ != [])) _)),H',⟨by first|omega|exact Nat.le_refl _⟩,⟨by (with_reducible repeat (first|refine blk_drewN ?_ _|refine blk_drew ?_|refine blk_alloc ?_ _));exact BK120.out⟩,⟨by repeat (first|(with_reducible first|exact HB.out|apply below_alloc|apply pw_below_drewN|apply below_drew1|refine below_set ?_ GE120.out)|exact HB.out)⟩⟩
    ·rw [if_neg c7] at H
     exact absurd H (by simp)
   ·rw [if_neg c6] at H
    exact absurd H (by simp)
  ·rw [if_neg c5] at H
   have c5b0:decide (1≤t121)=false:=decide_eq_false c5
   clear c5
   (first|rw [c5b0]|(simp only [i64_w,i32_w];rw [c5b0])|skip)
   have H':=Aside0.mk H
   clear H
   go_wp2
   go_meet
   case rel => exact ⟨_,(false),(by first|rfl|(simp;done)|(simp [*];done)|(simp;exact (fun l_:List UInt8 => by cases l_ <;> rfl:∀ l_:List UInt8,l_.isEmpty=!(l_ != [])) _)),H',⟨by first|omega|exact Nat.le_refl _⟩,⟨by (with_reducible repeat (first|refine blk_drewN ?_ _|refine blk_drew ?_|refine blk_alloc ?_ _));exact BK120.out⟩,⟨by repeat (first|(with_reducible first|exact HB.out|apply below_alloc|apply pw_below_drewN|apply below_drew1|refine below_set ?_ GE120.out)|exact HB.out)⟩⟩
 case rest =>
  clear HC3
  try clear c1
  try clear p2
  try clear c5
  try clear c5b0
  try clear c6
  try clear c6b0
  try clear c6b1
  try clear c7
  try clear c7b0
  try clear c7b1
  obtain ⟨kq,x15_2,rfl,HA,HJ2,BK120,HB⟩:=hcut
  cases kq with
  | zero => exact absurd HA.out (by simp [path_part.j0])
  | succ kj2 =>
   have H:=HA.out
   clear HA
   simp only [path_part.j0] at H
   by_cases c9:x15_2=true
   ·subst c9
    have H1:(if 0≤(wrap64 (t121+2)) then (if (wrap64 (t121+2))≤(a0.size:Int) then ((text_Number.f kj2 (a0.extract ((wrap64 (t121+2)):Int).toNat a0.size)).bind fun bt123 => (if bt123.2=true then (if bt123.1 ≥ 2 then (if bt123.1≤999999 then (if 0≤t121 then (if t121≤(a0.size:Int) then (some (a0,a0.extract 0 (t121:Int).toNat,bt123.1)) else (none)) else (none)) else (some (a0,a0,0))) else (some (a0,a0,0))) else (some (a0,a0,0)))) else (none)) else (none))=some (r1,r2,r3):=by rw [if_pos rfl] at H;exact H
    clear H
    have H:=H1
    clear H1
    obtain ⟨ji10,hji10⟩:∃ j_:Int,(wrap64 (t121+2))=j_:=⟨_,rfl⟩
    replace H:(if 0≤(ji10) then (if (ji10)≤(a0.size:Int) then ((text_Number.f kj2 (a0.extract ((ji10):Int).toNat a0.size)).bind fun bt123 => (if bt123.2=true then (if bt123.1 ≥ 2 then (if bt123.1≤999999 then (if 0≤t121 then (if t121≤(a0.size:Int) then (some (a0,a0.extract 0 (t121:Int).toNat,bt123.1)) else (none)) else (none)) else (some (a0,a0,0))) else (some (a0,a0,0))) else (some (a0,a0,0)))) else (none)) else (none))=some (r1,r2,r3):=by first|(rw [hji10] at H;exact H)|(simp only [hji10] at H ⊢;exact H)
    have hji10w:(IntKind.i64.wrap (t121+2))=ji10:=(i64_w _).trans hji10
    by_cases c11:0≤(ji10)
    ·rw [if_pos c11] at H
     have c11b0:=eq_true c11
     have c11b1:decide (0≤(ji10))=true:=decide_eq_true c11
     clear c11
     by_cases c12:(ji10)≤(a0.size:Int)
     ·rw [if_pos c12] at H
      have c12b0:=eq_true c12
      have c12b1:decide ((ji10)≤(a0.size:Int))=true:=decide_eq_true c12
      clear c12
      replace H:=Option.bind_eq_some_iff.mp H
      obtain ⟨⟨t123,t124⟩,A130,H⟩:=H
      replace H:(if t124=true then (if t123 ≥ 2 then (if t123≤999999 then (if 0≤t121 then (if t121≤(a0.size:Int) then (some (a0,a0.extract 0 (t121:Int).toNat,t123)) else (none)) else (none)) else (some (a0,a0,0))) else (some (a0,a0,0))) else (some (a0,a0,0)))=some (r1,r2,r3):=H
      have A13:=Aside0.mk A130
      clear A130
      by_cases c14:t124=true
      ·subst c14
       have H1:(if t123 ≥ 2 then (if t123≤999999 then (if 0≤t121 then (if t121≤(a0.size:Int) then (some (a0,a0.extract 0 (t121:Int).toNat,t123)) else (none)) else (none)) else (some (a0,a0,0))) else (some (a0,a0,0)))=some (r1,r2,r3):=by rw [if_pos rfl] at H;exact H
       clear H
       have H:=H1
       clear H1
       by_cases c15:t123 ≥ 2
       ·rw [if_pos c15] at H
        have c15b0:decide (2≤t123)=true:=decide_eq_true c15
        clear c15
        by_cases c16:t123≤999999
        ·rw [if_pos c16] at H
         have c16b0:decide (t123≤999999)=true:=decide_eq_true c16
         clear c16
         by_cases c17:0≤t121
         ·rw [if_pos c17] at H
          have c17b0:=eq_true c17
          have c17b1:decide (0≤t121)=true:=decide_eq_true c17
          clear c17
          by_cases c18:t121≤(a0.size:Int)
          ·rw [if_pos c18] at H
           have c18b0:=eq_true c18
           have c18b1:decide (t121≤(a0.size:Int))=true:=decide_eq_true c18
           clear c18
           simp only [Option.some.injEq,Prod.mk.injEq] at H
           obtain ⟨rfl,rfl,rfl⟩:=H
           go_wp2_with (first|((with_reducible refine gate_callee (f:=107) rfl ?_);refine goesL_ (some 21) rfl rfl Tryz.func107 (by kernel_rfl) rfl #[.string (a0.extract ((ji10):Int).toNat a0.size)] rfl (by (try simp only [List.map_toArray,List.map_cons,List.map_nil]);first|done|(simp only [hji10];rfl)|rfl|(simp only [List.length_drop,List.length_take];rfl)) ?_;(with_reducible refine (text_Number.calls kj2 (a0.extract ((ji10):Int).toNat a0.size) t123 true _ A13.out).mono ?_);rintro e w' ⟨rfl,⟨nd,rfl⟩⟩;refine ⟨_,rfl,?_⟩;(try (rw [drewN_self wc];generalize hq_:World.drewN wc _=wc;have n0_:Aside0 (wc.heap[gb120]?=some (.cells #[.string (⟨#[]⟩:ByteArray),.string (⟨#[]⟩:ByteArray),.int .i64 0] 126 (0,0))):=⟨by rw [← hq_];exact (by (with_reducible repeat (first|refine blk_drewN ?_ _|refine blk_drew ?_|refine blk_alloc ?_ _));exact BK120.out)⟩;have n1_:Aside0 (Below w.heap.size w wc):=⟨by rw [← hq_];exact (by repeat (first|(with_reducible first|exact HB.out|apply below_alloc|apply pw_below_drewN|apply below_drew1|refine below_set ?_ GE120.out)|exact HB.out))⟩;clear BK120 HB hq_;have BK120:=n0_;have HB:=n1_;clear n0_ n1_));have hcz19_0:wc.cell? ⟨gb120,0,none⟩=some (.string (⟨#[]⟩:ByteArray)):=(blk_cell BK120.out 0).trans rfl;have hcz19_1:wc.cell? ⟨gb120,1,none⟩=some (.string (⟨#[]⟩:ByteArray)):=(blk_cell BK120.out 1).trans rfl;have hcz19_2:wc.cell? ⟨gb120,2,none⟩=some (.int .i64 0):=(blk_cell BK120.out 2).trans rfl;have hfz19_0:=blk_frozen BK120.out 0;have hfz19_1:=blk_frozen BK120.out 1;have hfz19_2:=blk_frozen BK120.out 2))
           refine bodyPost_ret (results_cell_row rfl _ _ gb120 126 #[.string a0,.string (a0.extract 0 (t121:Int).toNat),.int .i64 t123] (0,0) _ rfl (by (with_reducible repeat (first|refine blk_drewN ?_ _|refine blk_drew ?_|refine blk_alloc ?_ _));refine blk_put (cs:=#[.string a0,.string (a0.extract 0 (t121:Int).toNat),.int .i64 0]) ?_ 2 _ rfl;(with_reducible repeat (first|refine blk_drewN ?_ _|refine blk_drew ?_|refine blk_alloc ?_ _));refine blk_put (cs:=#[.string a0,.string (⟨#[]⟩:ByteArray),.int .i64 0]) ?_ 1 _ rfl;(with_reducible repeat (first|refine blk_drewN ?_ _|refine blk_drew ?_|refine blk_alloc ?_ _));refine blk_put (cs:=#[.string (⟨#[]⟩:ByteArray),.string (⟨#[]⟩:ByteArray),.int .i64 0]) ?_ 0 _ rfl;(with_reducible repeat (first|refine blk_drewN ?_ _|refine blk_drew ?_|refine blk_alloc ?_ _));exact BK120.out) Tryz.underlying126 rfl (by kernel_rfl)) rfl ?_
           exact ⟨by first|rfl|(simp [errW_none,errW_some] <;> rfl)|(simp only [← hji10];first|rfl|(simp [errW_none,errW_some] <;> rfl))|(simp [*,errW_none,errW_some] <;> rfl),by repeat (first|(with_reducible first|exact HB.out|apply below_alloc|apply pw_below_drewN|apply below_drew1|refine below_set ?_ GE120.out)|exact HB.out)⟩
          ·rw [if_neg c18] at H
           exact absurd H (by simp)
         ·rw [if_neg c17] at H
          exact absurd H (by simp)
        ·rw [if_neg c16] at H
         have c16b0:decide (t123≤999999)=false:=decide_eq_false c16
         clear c16
         simp only [Option.some.injEq,Prod.mk.injEq] at H
         obtain ⟨rfl,rfl,rfl⟩:=H
         go_wp2_with (first|((with_reducible refine gate_callee (f:=107) rfl ?_);refine goesL_ (some 21) rfl rfl Tryz.func107 (by kernel_rfl) rfl #[.string (a0.extract ((ji10):Int).toNat a0.size)] rfl (by (try simp only [List.map_toArray,List.map_cons,List.map_nil]);first|done|(simp only [hji10];rfl)|rfl|(simp only [List.length_drop,List.length_take];rfl)) ?_;(with_reducible refine (text_Number.calls kj2 (a0.extract ((ji10):Int).toNat a0.size) t123 true _ A13.out).mono ?_);rintro e w' ⟨rfl,⟨nd,rfl⟩⟩;refine ⟨_,rfl,?_⟩;(try (rw [drewN_self wc];generalize hq_:World.drewN wc _=wc;have n0_:Aside0 (wc.heap[gb120]?=some (.cells #[.string (⟨#[]⟩:ByteArray),.string (⟨#[]⟩:ByteArray),.int .i64 0] 126 (0,0))):=⟨by rw [← hq_];exact (by (with_reducible repeat (first|refine blk_drewN ?_ _|refine blk_drew ?_|refine blk_alloc ?_ _));exact BK120.out)⟩;have n1_:Aside0 (Below w.heap.size w wc):=⟨by rw [← hq_];exact (by repeat (first|(with_reducible first|exact HB.out|apply below_alloc|apply pw_below_drewN|apply below_drew1|refine below_set ?_ GE120.out)|exact HB.out))⟩;clear BK120 HB hq_;have BK120:=n0_;have HB:=n1_;clear n0_ n1_));have hcz20_0:wc.cell? ⟨gb120,0,none⟩=some (.string (⟨#[]⟩:ByteArray)):=(blk_cell BK120.out 0).trans rfl;have hcz20_1:wc.cell? ⟨gb120,1,none⟩=some (.string (⟨#[]⟩:ByteArray)):=(blk_cell BK120.out 1).trans rfl;have hcz20_2:wc.cell? ⟨gb120,2,none⟩=some (.int .i64 0):=(blk_cell BK120.out 2).trans rfl;have hfz20_0:=blk_frozen BK120.out 0;have hfz20_1:=blk_frozen BK120.out 1;have hfz20_2:=blk_frozen BK120.out 2))
         refine bodyPost_ret (results_cell_row rfl _ _ gb120 126 #[.string a0,.string a0,.int .i64 0] (0,0) _ rfl (by (with_reducible repeat (first|refine blk_drewN ?_ _|refine blk_drew ?_|refine blk_alloc ?_ _));refine blk_put (cs:=#[.string a0,.string a0,.int .i64 0]) ?_ 2 _ rfl;(with_reducible repeat (first|refine blk_drewN ?_ _|refine blk_drew ?_|refine blk_alloc ?_ _));refine blk_put (cs:=#[.string a0,.string (⟨#[]⟩:ByteArray),.int .i64 0]) ?_ 1 _ rfl;(with_reducible repeat (first|refine blk_drewN ?_ _|refine blk_drew ?_|refine blk_alloc ?_ _));refine blk_put (cs:=#[.string (⟨#[]⟩:ByteArray),.string (⟨#[]⟩:ByteArray),.int .i64 0]) ?_ 0 _ rfl;(with_reducible repeat (first|refine blk_drewN ?_ _|refine blk_drew ?_|refine blk_alloc ?_ _));exact BK120.out) Tryz.underlying126 rfl (by kernel_rfl)) rfl ?_
         exact ⟨by first|rfl|(simp [errW_none,errW_some] <;> rfl)|(simp only [← hji10];first|rfl|(simp [errW_none,errW_some] <;> rfl))|(simp [*,errW_none,errW_some] <;> rfl),by repeat (first|(with_reducible first|exact HB.out|apply below_alloc|apply pw_below_drewN|apply below_drew1|refine below_set ?_ GE120.out)|exact HB.out)⟩
       ·rw [if_neg c15] at H
        have c15b0:decide (2≤t123)=false:=decide_eq_false c15
        clear c15
        simp only [Option.some.injEq,Prod.mk.injEq] at H
        obtain ⟨rfl,rfl,rfl⟩:=H
        go_wp2_with (first|((with_reducible refine gate_callee (f:=107) rfl ?_);refine goesL_ (some 21) rfl rfl Tryz.func107 (by kernel_rfl) rfl #[.string (a0.extract ((ji10):Int).toNat a0.size)] rfl (by (try simp only [List.map_toArray,List.map_cons,List.map_nil]);first|done|(simp only [hji10];rfl)|rfl|(simp only [List.length_drop,List.length_take];rfl)) ?_;(with_reducible refine (text_Number.calls kj2 (a0.extract ((ji10):Int).toNat a0.size) t123 true _ A13.out).mono ?_);rintro e w' ⟨rfl,⟨nd,rfl⟩⟩;refine ⟨_,rfl,?_⟩;(try (rw [drewN_self wc];generalize hq_:World.drewN wc _=wc;have n0_:Aside0 (wc.heap[gb120]?=some (.cells #[.string (⟨#[]⟩:ByteArray),.string (⟨#[]⟩:ByteArray),.int .i64 0] 126 (0,0))):=⟨by rw [← hq_];exact (by (with_reducible repeat (first|refine blk_drewN ?_ _|refine blk_drew ?_|refine blk_alloc ?_ _));exact BK120.out)⟩;have n1_:Aside0 (Below w.heap.size w wc):=⟨by rw [← hq_];exact (by repeat (first|(with_reducible first|exact HB.out|apply below_alloc|apply pw_below_drewN|apply below_drew1|refine below_set ?_ GE120.out)|exact HB.out))⟩;clear BK120 HB hq_;have BK120:=n0_;have HB:=n1_;clear n0_ n1_));have hcz21_0:wc.cell? ⟨gb120,0,none⟩=some (.string (⟨#[]⟩:ByteArray)):=(blk_cell BK120.out 0).trans rfl;have hcz21_1:wc.cell? ⟨gb120,1,none⟩=some (.string (⟨#[]⟩:ByteArray)):=(blk_cell BK120.out 1).trans rfl;have hcz21_2:wc.cell? ⟨gb120,2,none⟩=some (.int .i64 0):=(blk_cell BK120.out 2).trans rfl;have hfz21_0:=blk_frozen BK120.out 0;have hfz21_1:=blk_frozen BK120.out 1;have hfz21_2:=blk_frozen BK120.out 2))
        refine bodyPost_ret (results_cell_row rfl _ _ gb120 126 #[.string a0,.string a0,.int .i64 0] (0,0) _ rfl (by (with_reducible repeat (first|refine blk_drewN ?_ _|refine blk_drew ?_|refine blk_alloc ?_ _));refine blk_put (cs:=#[.string a0,.string a0,.int .i64 0]) ?_ 2 _ rfl;(with_reducible repeat (first|refine blk_drewN ?_ _|refine blk_drew ?_|refine blk_alloc ?_ _));refine blk_put (cs:=#[.string a0,.string (⟨#[]⟩:ByteArray),.int .i64 0]) ?_ 1 _ rfl;(with_reducible repeat (first|refine blk_drewN ?_ _|refine blk_drew ?_|refine blk_alloc ?_ _));refine blk_put (cs:=#[.string (⟨#[]⟩:ByteArray),.string (⟨#[]⟩:ByteArray),.int .i64 0]) ?_ 0 _ rfl;(with_reducible repeat (first|refine blk_drewN ?_ _|refine blk_drew ?_|refine blk_alloc ?_ _));exact BK120.out) Tryz.underlying126 rfl (by kernel_rfl)) rfl ?_
        exact ⟨by first|rfl|(simp [errW_none,errW_some] <;> rfl)|(simp only [← hji10];first|rfl|(simp [errW_none,errW_some] <;> rfl))|(simp [*,errW_none,errW_some] <;> rfl),by repeat (first|(with_reducible first|exact HB.out|apply below_alloc|apply pw_below_drewN|apply below_drew1|refine below_set ?_ GE120.out)|exact HB.out)⟩
      ·replace c14:=Bool.eq_false_iff.mpr c14
       subst c14
       have H1:(some (a0,a0,0))=some (r1,r2,r3):=by rw [if_neg (show ¬ (false=true) by decide)] at H;exact H
       clear H
       have H:=H1
       clear H1
       simp only [Option.some.injEq,Prod.mk.injEq] at H
       obtain ⟨rfl,rfl,rfl⟩:=H
       go_wp2_with (first|((with_reducible refine gate_callee (f:=107) rfl ?_);refine goesL_ (some 21) rfl rfl Tryz.func107 (by kernel_rfl) rfl #[.string (a0.extract ((ji10):Int).toNat a0.size)] rfl (by (try simp only [List.map_toArray,List.map_cons,List.map_nil]);first|done|(simp only [hji10];rfl)|rfl|(simp only [List.length_drop,List.length_take];rfl)) ?_;(with_reducible refine (text_Number.calls kj2 (a0.extract ((ji10):Int).toNat a0.size) t123 false _ A13.out).mono ?_);rintro e w' ⟨rfl,⟨nd,rfl⟩⟩;refine ⟨_,rfl,?_⟩;(try (rw [drewN_self wc];generalize hq_:World.drewN wc _=wc;have n0_:Aside0 (wc.heap[gb120]?=some (.cells #[.string (⟨#[]⟩:ByteArray),.string (⟨#[]⟩:ByteArray),.int .i64 0] 126 (0,0))):=⟨by rw [← hq_];exact (by (with_reducible repeat (first|refine blk_drewN ?_ _|refine blk_drew ?_|refine blk_alloc ?_ _));exact BK120.out)⟩;have n1_:Aside0 (Below w.heap.size w wc):=⟨by rw [← hq_];exact (by repeat (first|(with_reducible first|exact HB.out|apply below_alloc|apply pw_below_drewN|apply below_drew1|refine below_set ?_ GE120.out)|exact HB.out))⟩;clear BK120 HB hq_;have BK120:=n0_;have HB:=n1_;clear n0_ n1_));have hcz22_0:wc.cell? ⟨gb120,0,none⟩=some (.string (⟨#[]⟩:ByteArray)):=(blk_cell BK120.out 0).trans rfl;have hcz22_1:wc.cell? ⟨gb120,1,none⟩=some (.string (⟨#[]⟩:ByteArray)):=(blk_cell BK120.out 1).trans rfl;have hcz22_2:wc.cell? ⟨gb120,2,none⟩=some (.int .i64 0):=(blk_cell BK120.out 2).trans rfl;have hfz22_0:=blk_frozen BK120.out 0;have hfz22_1:=blk_frozen BK120.out 1;have hfz22_2:=blk_frozen BK120.out 2))
       refine bodyPost_ret (results_cell_row rfl _ _ gb120 126 #[.string a0,.string a0,.int .i64 0] (0,0) _ rfl (by (with_reducible repeat (first|refine blk_drewN ?_ _|refine blk_drew ?_|refine blk_alloc ?_ _));refine blk_put (cs:=#[.string a0,.string a0,.int .i64 0]) ?_ 2 _ rfl;(with_reducible repeat (first|refine blk_drewN ?_ _|refine blk_drew ?_|refine blk_alloc ?_ _));refine blk_put (cs:=#[.string a0,.string (⟨#[]⟩:ByteArray),.int .i64 0]) ?_ 1 _ rfl;(with_reducible repeat (first|refine blk_drewN ?_ _|refine blk_drew ?_|refine blk_alloc ?_ _));refine blk_put (cs:=#[.string (⟨#[]⟩:ByteArray),.string (⟨#[]⟩:ByteArray),.int .i64 0]) ?_ 0 _ rfl;(with_reducible repeat (first|refine blk_drewN ?_ _|refine blk_drew ?_|refine blk_alloc ?_ _));exact BK120.out) Tryz.underlying126 rfl (by kernel_rfl)) rfl ?_
       exact ⟨by first|rfl|(simp [errW_none,errW_some] <;> rfl)|(simp only [← hji10];first|rfl|(simp [errW_none,errW_some] <;> rfl))|(simp [*,errW_none,errW_some] <;> rfl),by repeat (first|(with_reducible first|exact HB.out|apply below_alloc|apply pw_below_drewN|apply below_drew1|refine below_set ?_ GE120.out)|exact HB.out)⟩
     ·rw [if_neg c12] at H
      exact absurd H (by simp)
    ·rw [if_neg c11] at H
     exact absurd H (by simp)
   ·replace c9:=Bool.eq_false_iff.mpr c9
    subst c9
    have H1:(some (a0,a0,0))=some (r1,r2,r3):=by rw [if_neg (show ¬ (false=true) by decide)] at H;exact H
    clear H
    have H:=H1
    clear H1
    simp only [Option.some.injEq,Prod.mk.injEq] at H
    obtain ⟨rfl,rfl,rfl⟩:=H
    have hcz23_0:wc.cell? ⟨gb120,0,none⟩=some (.string (⟨#[]⟩:ByteArray)):=(blk_cell BK120.out 0).trans rfl
    have hcz23_1:wc.cell? ⟨gb120,1,none⟩=some (.string (⟨#[]⟩:ByteArray)):=(blk_cell BK120.out 1).trans rfl
    have hcz23_2:wc.cell? ⟨gb120,2,none⟩=some (.int .i64 0):=(blk_cell BK120.out 2).trans rfl
    have hfz23_0:=blk_frozen BK120.out 0
    have hfz23_1:=blk_frozen BK120.out 1
    have hfz23_2:=blk_frozen BK120.out 2
    go_wp2
    refine bodyPost_ret (results_cell_row rfl _ _ gb120 126 #[.string a0,.string a0,.int .i64 0] (0,0) _ rfl (by (with_reducible repeat (first|refine blk_drewN ?_ _|refine blk_drew ?_|refine blk_alloc ?_ _));refine blk_put (cs:=#[.string a0,.string a0,.int .i64 0]) ?_ 2 _ rfl;(with_reducible repeat (first|refine blk_drewN ?_ _|refine blk_drew ?_|refine blk_alloc ?_ _));refine blk_put (cs:=#[.string a0,.string (⟨#[]⟩:ByteArray),.int .i64 0]) ?_ 1 _ rfl;(with_reducible repeat (first|refine blk_drewN ?_ _|refine blk_drew ?_|refine blk_alloc ?_ _));refine blk_put (cs:=#[.string (⟨#[]⟩:ByteArray),.string (⟨#[]⟩:ByteArray),.int .i64 0]) ?_ 0 _ rfl;(with_reducible repeat (first|refine blk_drewN ?_ _|refine blk_drew ?_|refine blk_alloc ?_ _));exact BK120.out) Tryz.underlying126 rfl (by kernel_rfl)) rfl ?_
    exact ⟨by first|rfl|(simp [errW_none,errW_some] <;> rfl)|(simp [*,errW_none,errW_some] <;> rfl),by repeat (first|(with_reducible first|exact HB.out|apply below_alloc|apply pw_below_drewN|apply below_drew1|refine below_set ?_ GE120.out)|exact HB.out)⟩
def path_parted_fits.f (a0_0:ByteArray) (a0_1:ByteArray) (a0_2:Int) (a1_0:Int) (a1_1:Int) (a1_2:Int) (a1_3:ByteArray):Option (Bool):=if a1_0=a0_2 then (some true) else (if a0_2=0 then (some (a1_0 == 1)) else (some false))
set_option maxHeartbeats 8000000 in
set_option maxRecDepth 100000 in
theorem path_parted_fits.calls (a0_0:ByteArray) (a0_1:ByteArray) (a0_2:Int) (a1_0:Int) (a1_1:Int) (a1_2:Int) (a1_3:ByteArray) (r:Bool) (w:World) (h:path_parted_fits.f a0_0 a0_1 a0_2 a1_0 a1_1 a1_2 a1_3=some r) :
  Calls Tryz.prog 113 #[.agg #[.string a0_0,.string a0_1,.int .i64 a0_2],.agg #[.int .i64 a1_0,.int .i64 a1_1,.int .i64 a1_2,.string a1_3]] w fun e w' => e=.returned (.bool r)∧Below w.heap.size w w':=by
 have hu126:=Tryz.underlying126
 have hu43:=Tryz.underlying43
 have HB:=Aside0.mk (Below.refl w.heap.size w)
 have H:(if a1_0=a0_2 then (some true) else (if a0_2=0 then (some (a1_0 == 1)) else (some false)))=some r:=h
 clear h
 by_cases c3:a1_0=a0_2
 ·rw [if_pos c3] at H
  have c3b0:(a1_0 == a0_2)=true:=beq_iff_eq.mpr c3
  have c3b1:(a1_0 != a0_2)=false:=bne_eq_false_iff_eq.mpr c3
  clear c3
  obtain rfl:=Option.some.inj H
  go_enter Tryz.func113,Tryz.ntmps113
  go_wp2_with (first|((with_reducible refine gate_dst (N:=2) rfl ?_);refine box_event ?hg (N:=2) ?hd (cs:=#[.string a0_0,.string a0_1,.int .i64 a0_2]) (t:=126) ?hr ?_;(case hd => rfl);(case hg => rfl);(case hr => first|(go_simp;done)|(go_simp;rfl));intro gb125 hg w4 hbox hb;have n0_:=Aside0.mk (below_step (by repeat (first|(with_reducible first|exact HB.out|apply below_alloc|apply pw_below_drewN|apply below_drew1)|exact HB.out)) hb);have n1_:=Aside0.mk (hbox);have n2_:=Aside0.mk ((by rw [hg];exact (below_size (by repeat (first|(with_reducible first|exact HB.out|apply below_alloc|apply pw_below_drewN|apply below_drew1)|exact HB.out))):w.heap.size≤gb125));have n3_:=Aside0.mk ((by rw [hg];exact (below_size (by repeat (first|(with_reducible first|exact HB.out|apply below_alloc|apply pw_below_drewN|apply below_drew1)|exact HB.out))):w.heap.size≤gb125));clear HB;have HB:=n0_;have BK125:=n1_;have GW125:=n2_;have GE125:=n3_;clear n0_ n1_ n2_ n3_;clear hb hbox hg)|((with_reducible refine gate_dst (N:=3) rfl ?_);refine box_event ?hg (N:=3) ?hd (cs:=#[.int .i64 a1_0,.int .i64 a1_1,.int .i64 a1_2,.string a1_3]) (t:=43) ?hr ?_;(case hd => rfl);(case hg => rfl);(case hr => first|(go_simp;done)|(go_simp;rfl));intro gb126 hg w5 hbox hb;have n0_:=Aside0.mk (blk_below (g:=gb125) (o:=.cells #[.string a0_0,.string a0_1,.int .i64 a0_2] 126 (0,0)) (by (with_reducible repeat (first|refine blk_drewN ?_ _|refine blk_drew ?_|refine blk_alloc ?_ _));exact BK125.out) hb);have n1_:=Aside0.mk (below_step (by repeat (first|(with_reducible first|exact HB.out|apply below_alloc|apply pw_below_drewN|apply below_drew1|refine below_set ?_ GE125.out)|exact HB.out)) hb);have n2_:=Aside0.mk (hbox);have n3_:=Aside0.mk ((by rw [hg];exact (below_size (by repeat (first|(with_reducible first|exact HB.out|apply below_alloc|apply pw_below_drewN|apply below_drew1|refine below_set ?_ GE125.out)|exact HB.out))):w.heap.size≤gb126));have n4_:=Aside0.mk ((by rw [hg];exact (below_size (by repeat (first|(with_reducible first|exact HB.out|apply below_alloc|apply pw_below_drewN|apply below_drew1|refine below_set ?_ GE125.out)|exact HB.out))):w.heap.size≤gb126));have n5_:=Aside0.mk ((by rw [hg];exact Nat.ne_of_lt (blk_lt (g:=gb125) (o:=.cells #[.string a0_0,.string a0_1,.int .i64 a0_2] 126 (0,0)) (by (with_reducible repeat (first|refine blk_drewN ?_ _|refine blk_drew ?_|refine blk_alloc ?_ _));exact BK125.out)):gb125≠gb126));have n6_:=Aside0.mk ((by rw [hg];exact Nat.ne_of_gt (blk_lt (g:=gb125) (o:=.cells #[.string a0_0,.string a0_1,.int .i64 a0_2] 126 (0,0)) (by (with_reducible repeat (first|refine blk_drewN ?_ _|refine blk_drew ?_|refine blk_alloc ?_ _));exact BK125.out)):gb126≠gb125));clear BK125;clear HB;have BK125:=n0_;have HB:=n1_;have BK126:=n2_;have GW126:=n3_;have GE126:=n4_;have NB125_126:=n5_;have NB126_125:=n6_;clear n0_ n1_ n2_ n3_ n4_ n5_ n6_;clear hb hbox hg;have hnb6:=NB126_125.out;have hnc6:=NB125_126.out;have hcz7_0:w5.cell? ⟨gb126,0,none⟩=some (.int .i64 a1_0):=(blk_cell BK126.out 0).trans rfl;have hcz7_1:w5.cell? ⟨gb126,1,none⟩=some (.int .i64 a1_1):=(blk_cell BK126.out 1).trans rfl;have hcz7_2:w5.cell? ⟨gb126,2,none⟩=some (.int .i64 a1_2):=(blk_cell BK126.out 2).trans rfl;have hcz7_3:w5.cell? ⟨gb126,3,none⟩=some (.string a1_3):=(blk_cell BK126.out 3).trans rfl;have hfz7_0:=blk_frozen BK126.out 0;have hfz7_1:=blk_frozen BK126.out 1;have hfz7_2:=blk_frozen BK126.out 2;have hfz7_3:=blk_frozen BK126.out 3;have hcz8_0:w5.cell? ⟨gb125,0,none⟩=some (.string a0_0):=(blk_cell BK125.out 0).trans rfl;have hcz8_1:w5.cell? ⟨gb125,1,none⟩=some (.string a0_1):=(blk_cell BK125.out 1).trans rfl;have hcz8_2:w5.cell? ⟨gb125,2,none⟩=some (.int .i64 a0_2):=(blk_cell BK125.out 2).trans rfl;have hfz8_0:=blk_frozen BK125.out 0;have hfz8_1:=blk_frozen BK125.out 1;have hfz8_2:=blk_frozen BK125.out 2))
  go_ret
  exact ⟨by first|rfl|(simp [errW_none,errW_some] <;> rfl)|(simp [*,errW_none,errW_some] <;> rfl),by repeat (first|(with_reducible first|exact HB.out|apply below_alloc|apply pw_below_drewN|apply below_drew1|refine below_set ?_ GE125.out|refine below_set ?_ GE126.out)|exact HB.out)⟩
 ·rw [if_neg c3] at H
  have c3b0:(a1_0 == a0_2)=false:=beq_eq_false_iff_ne.mpr c3
  have c3b1:(a1_0 != a0_2)=true:=bne_iff_ne.mpr c3
  by_cases c9:a0_2=0
  ·rw [if_pos c9] at H
   have c9b0:(a0_2 == 0)=true:=beq_iff_eq.mpr c9
   have c9b1:(a0_2 != 0)=false:=bne_eq_false_iff_eq.mpr c9
   clear c9
   obtain rfl:=Option.some.inj H
   go_enter Tryz.func113,Tryz.ntmps113
   go_wp2_with (first|((with_reducible refine gate_dst (N:=2) rfl ?_);refine box_event ?hg (N:=2) ?hd (cs:=#[.string a0_0,.string a0_1,.int .i64 a0_2]) (t:=126) ?hr ?_;(case hd => rfl);(case hg => rfl);(case hr => first|(go_simp;done)|(go_simp;rfl));intro gb125 hg w10 hbox hb;have n0_:=Aside0.mk (below_step (by repeat (first|(with_reducible first|exact HB.out|apply below_alloc|apply pw_below_drewN|apply below_drew1)|exact HB.out)) hb);have n1_:=Aside0.mk (hbox);have n2_:=Aside0.mk ((by rw [hg];exact (below_size (by repeat (first|(with_reducible first|exact HB.out|apply below_alloc|apply pw_below_drewN|apply below_drew1)|exact HB.out))):w.heap.size≤gb125));have n3_:=Aside0.mk ((by rw [hg];exact (below_size (by repeat (first|(with_reducible first|exact HB.out|apply below_alloc|apply pw_below_drewN|apply below_drew1)|exact HB.out))):w.heap.size≤gb125));clear HB;have HB:=n0_;have BK125:=n1_;have GW125:=n2_;have GE125:=n3_;clear n0_ n1_ n2_ n3_;clear hb hbox hg)|((with_reducible refine gate_dst (N:=3) rfl ?_);refine box_event ?hg (N:=3) ?hd (cs:=#[.int .i64 a1_0,.int .i64 a1_1,.int .i64 a1_2,.string a1_3]) (t:=43) ?hr ?_;(case hd => rfl);(case hg => rfl);(case hr => first|(go_simp;done)|(go_simp;rfl));intro gb126 hg w11 hbox hb;have n0_:=Aside0.mk (blk_below (g:=gb125) (o:=.cells #[.string a0_0,.string a0_1,.int .i64 a0_2] 126 (0,0)) (by (with_reducible repeat (first|refine blk_drewN ?_ _|refine blk_drew ?_|refine blk_alloc ?_ _));exact BK125.out) hb);have n1_:=Aside0.mk (below_step (by repeat (first|(with_reducible first|exact HB.out|apply below_alloc|apply pw_below_drewN|apply below_drew1|refine below_set ?_ GE125.out)|exact HB.out)) hb);have n2_:=Aside0.mk (hbox);have n3_:=Aside0.mk ((by rw [hg];exact (below_size (by repeat (first|(with_reducible first|exact HB.out|apply below_alloc|apply pw_below_drewN|apply below_drew1|refine below_set ?_ GE125.out)|exact HB.out))):w.heap.size≤gb126));have n4_:=Aside0.mk ((by rw [hg];exact (below_size (by repeat (first|(with_reducible first|exact HB.out|apply below_alloc|apply pw_below_drewN|apply below_drew1|refine below_set ?_ GE125.out)|exact HB.out))):w.heap.size≤gb126));have n5_:=Aside0.mk ((by rw [hg];exact Nat.ne_of_lt (blk_lt (g:=gb125) (o:=.cells #[.string a0_0,.string a0_1,.int .i64 a0_2] 126 (0,0)) (by (with_reducible repeat (first|refine blk_drewN ?_ _|refine blk_drew ?_|refine blk_alloc ?_ _));exact BK125.out)):gb125≠gb126));have n6_:=Aside0.mk ((by rw [hg];exact Nat.ne_of_gt (blk_lt (g:=gb125) (o:=.cells #[.string a0_0,.string a0_1,.int .i64 a0_2] 126 (0,0)) (by (with_reducible repeat (first|refine blk_drewN ?_ _|refine blk_drew ?_|refine blk_alloc ?_ _));exact BK125.out)):gb126≠gb125));clear BK125;clear HB;have BK125:=n0_;have HB:=n1_;have BK126:=n2_;have GW126:=n3_;have GE126:=n4_;have NB125_126:=n5_;have NB126_125:=n6_;clear n0_ n1_ n2_ n3_ n4_ n5_ n6_;clear hb hbox hg;have hnb12:=NB126_125.out;have hnc12:=NB125_126.out;have hcz13_0:w11.cell? ⟨gb126,0,none⟩=some (.int .i64 a1_0):=(blk_cell BK126.out 0).trans rfl;have hcz13_1:w11.cell? ⟨gb126,1,none⟩=some (.int .i64 a1_1):=(blk_cell BK126.out 1).trans rfl;have hcz13_2:w11.cell? ⟨gb126,2,none⟩=some (.int .i64 a1_2):=(blk_cell BK126.out 2).trans rfl;have hcz13_3:w11.cell? ⟨gb126,3,none⟩=some (.string a1_3):=(blk_cell BK126.out 3).trans rfl;have hfz13_0:=blk_frozen BK126.out 0;have hfz13_1:=blk_frozen BK126.out 1;have hfz13_2:=blk_frozen BK126.out 2;have hfz13_3:=blk_frozen BK126.out 3;have hcz14_0:w11.cell? ⟨gb125,0,none⟩=some (.string a0_0):=(blk_cell BK125.out 0).trans rfl;have hcz14_1:w11.cell? ⟨gb125,1,none⟩=some (.string a0_1):=(blk_cell BK125.out 1).trans rfl;have hcz14_2:w11.cell? ⟨gb125,2,none⟩=some (.int .i64 a0_2):=(blk_cell BK125.out 2).trans rfl;have hfz14_0:=blk_frozen BK125.out 0;have hfz14_1:=blk_frozen BK125.out 1;have hfz14_2:=blk_frozen BK125.out 2))
   go_ret
   exact ⟨by first|rfl|(simp [errW_none,errW_some] <;> rfl)|(simp [*,errW_none,errW_some] <;> rfl),by repeat (first|(with_reducible first|exact HB.out|apply below_alloc|apply pw_below_drewN|apply below_drew1|refine below_set ?_ GE125.out|refine below_set ?_ GE126.out)|exact HB.out)⟩
  ·rw [if_neg c9] at H
   have c9b0:(a0_2 == 0)=false:=beq_eq_false_iff_ne.mpr c9
   have c9b1:(a0_2 != 0)=true:=bne_iff_ne.mpr c9
   obtain rfl:=Option.some.inj H
   go_enter Tryz.func113,Tryz.ntmps113
   go_wp2_with (first|((with_reducible refine gate_dst (N:=2) rfl ?_);refine box_event ?hg (N:=2) ?hd (cs:=#[.string a0_0,.string a0_1,.int .i64 a0_2]) (t:=126) ?hr ?_;(case hd => rfl);(case hg => rfl);(case hr => first|(go_simp;done)|(go_simp;rfl));intro gb125 hg w15 hbox hb;have n0_:=Aside0.mk (below_step (by repeat (first|(with_reducible first|exact HB.out|apply below_alloc|apply pw_below_drewN|apply below_drew1)|exact HB.out)) hb);have n1_:=Aside0.mk (hbox);have n2_:=Aside0.mk ((by rw [hg];exact (below_size (by repeat (first|(with_reducible first|exact HB.out|apply below_alloc|apply pw_below_drewN|apply below_drew1)|exact HB.out))):w.heap.size≤gb125));have n3_:=Aside0.mk ((by rw [hg];exact (below_size (by repeat (first|(with_reducible first|exact HB.out|apply below_alloc|apply pw_below_drewN|apply below_drew1)|exact HB.out))):w.heap.size≤gb125));clear HB;have HB:=n0_;have BK125:=n1_;have GW125:=n2_;have GE125:=n3_;clear n0_ n1_ n2_ n3_;clear hb hbox hg)|((with_reducible refine gate_dst (N:=3) rfl ?_);refine box_event ?hg (N:=3) ?hd (cs:=#[.int .i64 a1_0,.int .i64 a1_1,.int .i64 a1_2,.string a1_3]) (t:=43) ?hr ?_;(case hd => rfl);(case hg => rfl);(case hr => first|(go_simp;done)|(go_simp;rfl));intro gb126 hg w16 hbox hb;have n0_:=Aside0.mk (blk_below (g:=gb125) (o:=.cells #[.string a0_0,.string a0_1,.int .i64 a0_2] 126 (0,0)) (by (with_reducible repeat (first|refine blk_drewN ?_ _|refine blk_drew ?_|refine blk_alloc ?_ _));exact BK125.out) hb);have n1_:=Aside0.mk (below_step (by repeat (first|(with_reducible first|exact HB.out|apply below_alloc|apply pw_below_drewN|apply below_drew1|refine below_set ?_ GE125.out)|exact HB.out)) hb);have n2_:=Aside0.mk (hbox);have n3_:=Aside0.mk ((by rw [hg];exact (below_size (by repeat (first|(with_reducible first|exact HB.out|apply below_alloc|apply pw_below_drewN|apply below_drew1|refine below_set ?_ GE125.out)|exact HB.out))):w.heap.size≤gb126));have n4_:=Aside0.mk ((by rw [hg];exact (below_size (by repeat (first|(with_reducible first|exact HB.out|apply below_alloc|apply pw_below_drewN|apply below_drew1|refine below_set ?_ GE125.out)|exact HB.out))):w.heap.size≤gb126));have n5_:=Aside0.mk ((by rw [hg];exact Nat.ne_of_lt (blk_lt (g:=gb125) (o:=.cells #[.string a0_0,.string a0_1,.int .i64 a0_2] 126 (0,0)) (by (with_reducible repeat (first|refine blk_drewN ?_ _|refine blk_drew ?_|refine blk_alloc ?_ _));exact BK125.out)):gb125≠gb126));have n6_:=Aside0.mk ((by rw [hg];exact Nat.ne_of_gt (blk_lt (g:=gb125) (o:=.cells #[.string a0_0,.string a0_1,.int .i64 a0_2] 126 (0,0)) (by (with_reducible repeat (first|refine blk_drewN ?_ _|refine blk_drew ?_|refine blk_alloc ?_ _));exact BK125.out)):gb126≠gb125));clear BK125;clear HB;have BK125:=n0_;have HB:=n1_;have BK126:=n2_;have GW126:=n3_;have GE126:=n4_;have NB125_126:=n5_;have NB126_125:=n6_;clear n0_ n1_ n2_ n3_ n4_ n5_ n6_;clear hb hbox hg;have hnb17:=NB126_125.out;have hnc17:=NB125_126.out;have hcz18_0:w16.cell? ⟨gb126,0,none⟩=some (.int .i64 a1_0):=(blk_cell BK126.out 0).trans rfl;have hcz18_1:w16.cell? ⟨gb126,1,none⟩=some (.int .i64 a1_1):=(blk_cell BK126.out 1).trans rfl;have hcz18_2:w16.cell? ⟨gb126,2,none⟩=some (.int .i64 a1_2):=(blk_cell BK126.out 2).trans rfl;have hcz18_3:w16.cell? ⟨gb126,3,none⟩=some (.string a1_3):=(blk_cell BK126.out 3).trans rfl;have hfz18_0:=blk_frozen BK126.out 0;have hfz18_1:=blk_frozen BK126.out 1;have hfz18_2:=blk_frozen BK126.out 2;have hfz18_3:=blk_frozen BK126.out 3;have hcz19_0:w16.cell? ⟨gb125,0,none⟩=some (.string a0_0):=(blk_cell BK125.out 0).trans rfl;have hcz19_1:w16.cell? ⟨gb125,1,none⟩=some (.string a0_1):=(blk_cell BK125.out 1).trans rfl;have hcz19_2:w16.cell? ⟨gb125,2,none⟩=some (.int .i64 a0_2):=(blk_cell BK125.out 2).trans rfl;have hfz19_0:=blk_frozen BK125.out 0;have hfz19_1:=blk_frozen BK125.out 1;have hfz19_2:=blk_frozen BK125.out 2))
   go_ret
   exact ⟨by first|rfl|(simp [errW_none,errW_some] <;> rfl)|(simp [*,errW_none,errW_some] <;> rfl),by repeat (first|(with_reducible first|exact HB.out|apply below_alloc|apply pw_below_drewN|apply below_drew1|refine below_set ?_ GE125.out|refine below_set ?_ GE126.out)|exact HB.out)⟩
def path_Fits.f (k:Nat) (a0:ByteArray) (a1_0:Int) (a1_1:Int) (a1_2:Int) (a1_3:ByteArray):Option (Bool):=(path_part.f k a0).bind fun bt128 => ((path_parted_fits.f bt128.1 bt128.2.1 bt128.2.2 a1_0 a1_1 a1_2 a1_3).bind fun t131 => (some t131))
set_option maxHeartbeats 8000000 in
set_option maxRecDepth 100000 in
theorem path_Fits.calls (k:Nat) (a0:ByteArray) (a1_0:Int) (a1_1:Int) (a1_2:Int) (a1_3:ByteArray) (r:Bool) (w:World) (h:path_Fits.f k a0 a1_0 a1_1 a1_2 a1_3=some r) :
  Calls Tryz.prog 74 #[.string a0,.agg #[.int .i64 a1_0,.int .i64 a1_1,.int .i64 a1_2,.string a1_3]] w fun e w' => e=.returned (.bool r)∧Below w.heap.size w w':=by
 have hu43:=Tryz.underlying43
 have HB:=Aside0.mk (Below.refl w.heap.size w)
 have H:((path_part.f k a0).bind fun bt128 => ((path_parted_fits.f bt128.1 bt128.2.1 bt128.2.2 a1_0 a1_1 a1_2 a1_3).bind fun t131 => (some t131)))=some r:=h
 clear h
 replace H:=Option.bind_eq_some_iff.mp H
 obtain ⟨⟨t128,t129,t130⟩,A30,H⟩:=H
 replace H:((path_parted_fits.f t128 t129 t130 a1_0 a1_1 a1_2 a1_3).bind fun t131 => (some t131))=some r:=H
 have A3:=Aside0.mk A30
 clear A30
 replace H:=Option.bind_eq_some_iff.mp H
 obtain ⟨t131,A40,H⟩:=H
 replace H:(some t131)=some r:=H
 have A4:=Aside0.mk A40
 clear A40
 obtain rfl:=Option.some.inj H
 go_enter Tryz.func74,Tryz.ntmps74
 try go_wp2_with (first|((with_reducible refine gate_dst (N:=3) rfl ?_);refine box_event ?hg (N:=3) ?hd (cs:=#[.int .i64 a1_0,.int .i64 a1_1,.int .i64 a1_2,.string a1_3]) (t:=43) ?hr ?_;(case hd => rfl);(case hg => rfl);(case hr => first|(go_simp;done)|(go_simp;rfl));intro gb127 hg w5 hbox hb;have n0_:=Aside0.mk (below_step (by repeat (first|(with_reducible first|exact HB.out|apply below_alloc|apply pw_below_drewN|apply below_drew1)|exact HB.out)) hb);have n1_:=Aside0.mk (hbox);have n2_:=Aside0.mk ((by rw [hg];exact (below_size (by repeat (first|(with_reducible first|exact HB.out|apply below_alloc|apply pw_below_drewN|apply below_drew1)|exact HB.out))):w.heap.size≤gb127));have n3_:=Aside0.mk ((by rw [hg];exact (below_size (by repeat (first|(with_reducible first|exact HB.out|apply below_alloc|apply pw_below_drewN|apply below_drew1)|exact HB.out))):w.heap.size≤gb127));clear HB;have HB:=n0_;have BK127:=n1_;have GW127:=n2_;have GE127:=n3_;clear n0_ n1_ n2_ n3_;clear hb hbox hg))
 have n0_:=Aside0.mk (blk_drew BK127.out)
 have n1_:=Aside0.mk (below_drew1 HB.out)
 clear BK127
 clear HB
 have BK127:=n0_
 have HB:=n1_
 clear n0_ n1_
 refine start_ (n:=5) (S:=fun w' => w'.cell? ⟨gb127,0,none⟩=some (.int .i64 a1_0)∧w'.cell? ⟨gb127,1,none⟩=some (.int .i64 a1_1)∧w'.cell? ⟨gb127,2,none⟩=some (.int .i64 a1_2)∧w'.cell? ⟨gb127,3,none⟩=some (.string a1_3)) (ds:=[]) #[false,false,false,false,false] (by kernel_rfl) rfl rfl ⟨(blk_cell BK127.out 0).trans rfl,(blk_cell BK127.out 1).trans rfl,(blk_cell BK127.out 2).trans rfl,(blk_cell BK127.out 3).trans rfl⟩ (fun hHeld => ?_)
 generalize w5.drew=w6 at BK127 HB hHeld ⊢
 refine pure_ (i:=0) (N:=some 5) (v:=?_) (a':=?_) #[true,false,false,false,false] rfl rfl (by kernel_rfl) (fun _ _ _ h => h) (Or.inl ⟨by rfl,?_⟩) ?_ ?_
 rotate_left
 ·intro w'
  go_simp
  with_reducible rfl
 rotate_left
 ·simp only [Act.put,List.setIfInBounds_toArray,List.set_cons_zero,List.set_cons_succ,i64_w,i32_w]
  rfl
 refine take_ (i:=2) (N:=some 7) (v:=?_) (a':=?_) #[true,false,true,false,false] rfl rfl (by kernel_rfl) (fun _ _ _ h => h) (Or.inl ⟨by rfl,?_⟩) hHeld ?_ ?_
 rotate_left
 ·rintro w' ⟨s0,s1,s2,s3⟩
  go_simp
  with_reducible rfl
 rotate_left
 ·simp only [Act.put,List.setIfInBounds_toArray,List.set_cons_zero,List.set_cons_succ,i64_w,i32_w]
  rfl
 refine one_ (i:=1) (N:=some 6) #[true,true,true,false,false] rfl rfl (by kernel_rfl) (by decide) (fun K hK => ?_)
 refine goes_ Tryz.func112 (by kernel_rfl) rfl #[.string a0] (by rfl) rfl rfl (by (try simp only [List.map_toArray,List.map_cons,List.map_nil]);first|done|rfl|(simp only [List.length_drop,List.length_take];rfl)) ?_
 with_reducible refine (path_part.calls k a0 t128 t129 t130 _ A3.out).mono ?_
 rintro e w7 ⟨rfl,hb⟩
 refine ⟨_,rfl,?_⟩
 have n0_:=Aside0.mk (blk_below (g:=gb127) (o:=.cells #[.int .i64 a1_0,.int .i64 a1_1,.int .i64 a1_2,.string a1_3] 43 (0,0)) (by (with_reducible repeat (first|refine blk_drewN ?_ _|refine blk_drew ?_|refine blk_alloc ?_ _));exact BK127.out) hb)
 have n1_:=Aside0.mk (below_step (by repeat (first|(with_reducible first|exact HB.out|apply below_alloc|apply pw_below_drewN|apply below_drew1|refine below_set ?_ GE127.out)|exact HB.out)) hb)
 clear BK127
 clear HB
 have BK127:=n0_
 have HB:=n1_
 clear n0_ n1_
 (try clear hb)
 (try clear hb2)
 (try clear hk)
 (try clear hi)
 refine hK.out _ _ ⟨(blk_cell BK127.out 0).trans rfl,(blk_cell BK127.out 1).trans rfl,(blk_cell BK127.out 2).trans rfl,(blk_cell BK127.out 3).trans rfl⟩ (fun hHeld => ?_)
 clear hK K
 refine norm_ (a':=?_) ?_ ?_
 rotate_left
 ·show Act.put _ (some 6) _=_
  simp only [Act.put,List.setIfInBounds_toArray,List.set_cons_zero,List.set_cons_succ,i64_w,i32_w]
  rfl
 refine one_ (i:=3) (N:=some 8) #[true,true,true,true,false] rfl rfl (by kernel_rfl) (by decide) (fun K hK => ?_)
 refine goes_ Tryz.func113 (by kernel_rfl) rfl #[.agg #[.string t128,.string t129,.int .i64 t130],.agg #[.int .i64 a1_0,.int .i64 a1_1,.int .i64 a1_2,.string a1_3]] (by rfl) rfl rfl (by (try simp only [List.map_toArray,List.map_cons,List.map_nil]);first|done|rfl|(simp only [List.length_drop,List.length_take];rfl)) ?_
 with_reducible refine (path_parted_fits.calls t128 t129 t130 a1_0 a1_1 a1_2 a1_3 t131 _ A4.out).mono ?_
 rintro e w8 ⟨rfl,hb⟩
 refine ⟨_,rfl,?_⟩
 have n0_:=Aside0.mk (blk_below (g:=gb127) (o:=.cells #[.int .i64 a1_0,.int .i64 a1_1,.int .i64 a1_2,.string a1_3] 43 (0,0)) (by (with_reducible repeat (first|refine blk_drewN ?_ _|refine blk_drew ?_|refine blk_alloc ?_ _));exact BK127.out) hb)
 have n1_:=Aside0.mk (below_step (by repeat (first|(with_reducible first|exact HB.out|apply below_alloc|apply pw_below_drewN|apply below_drew1|refine below_set ?_ GE127.out)|exact HB.out)) hb)
 clear BK127
 clear HB
 have BK127:=n0_
 have HB:=n1_
 clear n0_ n1_
 (try clear hb)
 (try clear hb2)
 (try clear hk)
 (try clear hi)
 refine hK.out _ _ ⟨(blk_cell BK127.out 0).trans rfl,(blk_cell BK127.out 1).trans rfl,(blk_cell BK127.out 2).trans rfl,(blk_cell BK127.out 3).trans rfl⟩ (fun hHeld => ?_)
 clear hK K
 refine norm_ (a':=?_) ?_ ?_
 rotate_left
 ·show Act.put _ (some 8) _=_
  simp only [Act.put,List.setIfInBounds_toArray,List.set_cons_zero,List.set_cons_succ,i64_w,i32_w]
  rfl
 refine pure_ (i:=4) (N:=some 4) (v:=?_) (a':=?_) #[true,true,true,true,true] rfl rfl (by kernel_rfl) (fun _ _ _ h => h) (Or.inl ⟨by rfl,?_⟩) ?_ ?_
 rotate_left
 ·intro w'
  go_simp
  with_reducible rfl
 rotate_left
 ·simp only [Act.put,List.setIfInBounds_toArray,List.set_cons_zero,List.set_cons_succ,i64_w,i32_w]
  rfl
 refine done_ (by kernel_rfl) ?_
 try go_wp2
 go_ret
 exact ⟨by first|rfl|(simp [errW_none,errW_some] <;> rfl)|(simp [*,errW_none,errW_some] <;> rfl),by repeat (first|(with_reducible first|exact HB.out|apply below_alloc|apply pw_below_drewN|apply below_drew1|refine below_set ?_ GE127.out)|exact HB.out)⟩
end Go.Proofs.YtjiidlkkkednoaaGreatDoor.Q
