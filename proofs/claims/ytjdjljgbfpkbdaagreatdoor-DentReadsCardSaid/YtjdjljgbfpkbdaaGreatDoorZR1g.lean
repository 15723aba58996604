import Derived.Test.YtjdjljgbfpkbdaaGreatDoorProg
import Derived.WalkKit
import Derived.Deep.QuietTactic
import Derived.BigQuiet
import Derived.KernelRfl
import Derived.Test.YtjdjljgbfpkbdaaGreatDoorZW0
import Derived.Below
import Derived.Deep.Draws
import Derived.Deep.AppendLies
import Derived.Maps.AppendAt
import Derived.OwnWalk
import Derived.Laws.BytesArg
import Derived.Laws.MakeOwn
import Derived.Laws.OwnMore
import Derived.Deep.OwnRows
import Derived.Tactics
import Derived.Lib.ConvBytes
import Derived.Laws.Slices
import Derived.RowKit3
import Derived.Deep.LoopGhost
import Derived.WideLaws
import Derived.Deep.DeepCutAuto
import Derived.Deep.CutBlock
import Derived.Deep.RegionHeld3
import Derived.Laws.Rows
import Derived.Lib.AppendStr
import Derived.ArgAppend
import Derived.Laws.IdiomCopy
import Derived.OrdersHeld
import Derived.Laws.BitsLemmas
import Derived.RowKit
import Derived.Test.YtjdjljgbfpkbdaaGreatDoorZShelf
set_option linter.unusedVariables false
set_option linter.unusedSimpArgs false
section
namespace Go.Proofs.YtjdjljgbfpkbdaaGreatDoor.Q
open Go.RowKit Go.Proofs.YtjdjljgbfpkbdaaGreatDoorW.PrintWords
def Blk (w:World) (g:Nat) (t:TypeId) (cs:Array Value):Prop:=w.heap[g]?=some (.cells cs t (0,0))
structure Fr (S:Nat→Prop) (w w':World):Prop where
 os:w'.os=w.os
 tape:w'.tape=w.tape
 output:w'.output=w.output
 size:w.heap.size≤w'.heap.size
 block:∀ k,k<w.heap.size→¬ S k→w'.heap[k]?=w.heap[k]?
section
variable {w w' w2:World} {g g':Nat} {t:TypeId} {cs:Array Value} {S S' S2:Nat→Prop}
theorem Blk.lt (h:Blk w g t cs):g<w.heap.size:=by
 rcases Nat.lt_or_ge g w.heap.size with hl|hl
 ·exact hl
 ·unfold Blk at h
  rw [Array.getElem?_eq_none hl] at h
  cases h
theorem Blk.cell (h:Blk w g t cs) (i:Nat):w.cell? ⟨g,i,none⟩=cs[i]?:=by
 unfold Blk at h
 simp [World.cell?,h]
theorem Blk.unfrozen (h:Blk w g t cs) (i:Nat):w.frozen? ⟨g,i,none⟩=false:=by
 unfold Blk at h
 simp [World.frozen?,h]
theorem Blk.drewN (h:Blk w g t cs) (n:Nat):Blk (w.drewN n) g t cs:=h
theorem Blk.drew (h:Blk w g t cs):Blk w.drew g t cs:=h
theorem Blk.alloc (h:Blk w g t cs) (o:Obj):Blk (w.alloc o) g t cs:=(Below.heap_alloc w o g h.lt).trans h
theorem Blk.new (w:World) (t:TypeId) (cs:Array Value):Blk (w.alloc (.cells cs t)) w.heap.size t cs:=heap_alloc_new w _
theorem Blk.put (h:Blk w g t cs) (i:Nat) (u:Value):Blk (w.setCell ⟨g,i,none⟩ u) g t (cs.setIfInBounds i u):=by
 unfold Blk at h ⊢
 simp [World.setCell,Array.getElem?_modify,h]
theorem Blk.far (h:Blk w g t cs) {p:Addr} (hp:g≠p.block) (u:Value):Blk (w.setCell p u) g t cs:=(Below.heap_setCell w p u g hp).trans h
theorem Blk.fr (h:Blk w g t cs) (hf:Fr S w w') (hS:¬ S g):Blk w' g t cs:=(hf.block g h.lt hS).trans h
theorem Blk.below (h:Blk w g t cs) (hb:Below w.heap.size w w'):Blk w' g t cs:=(hb.block g h.lt).trans h
theorem Fr.refl (S:Nat→Prop) (w:World):Fr S w w:=⟨rfl,rfl,rfl,Nat.le_refl _,fun _ _ _ => rfl⟩
theorem Fr.mono (h:Fr S w w') (hs:∀ k,S k→S' k):Fr S' w w':=⟨h.os,h.tape,h.output,h.size,fun k hk hn => h.block k hk (fun hS => hn (hs k hS))⟩
theorem Fr.trans (h:Fr S w w') (k:Fr S2 w' w2) (hs:∀ k,S2 k→S k∨w.heap.size≤k):Fr S w w2 :=
 ⟨k.os.trans h.os,k.tape.trans h.tape,k.output.trans h.output,Nat.le_trans h.size k.size,fun i hi hn =>
  (k.block i (Nat.lt_of_lt_of_le hi h.size) (fun h2 => (hs i h2).elim hn (fun h3 => by omega))).trans (h.block i hi hn)⟩
theorem Fr.same (h:Fr S w w') (k:Fr S w' w2):Fr S w w2:=h.trans k (fun _ hk => .inl hk)
theorem Fr.of_below (hb:Below w.heap.size w w'):Fr S w w':=⟨hb.os,hb.tape,hb.output,hb.size,fun k hk _ => hb.block k hk⟩
theorem Fr.below (h:Fr S w w') {B:Nat} (hB:B≤w.heap.size) (hs:∀ k,S k→B≤k):Below B w w' :=
 ⟨h.os,h.tape,h.output,h.size,fun k hk => h.block k (Nat.lt_of_lt_of_le hk hB) (fun hS => by have:=hs k hS;omega)⟩
theorem Fr.drewN (h:Fr S w w') (n:Nat):Fr S w (w'.drewN n):=⟨h.os,h.tape,h.output,h.size,h.block⟩
theorem Fr.drew (h:Fr S w w'):Fr S w w'.drew:=⟨h.os,h.tape,h.output,h.size,h.block⟩
theorem Fr.drawn (h:Fr S w w') (hd:Drawn0 w' w2):Fr S w w2:=by
 obtain ⟨n,rfl⟩:=hd
 exact h.drewN n
theorem Fr.alloc (h:Fr S w w') (o:Obj):Fr S w (w'.alloc o) :=
 h.trans (S2:=fun _ => False) ⟨rfl,rfl,rfl,by simp,fun k hk _ => Below.heap_alloc _ _ _ hk⟩ (fun _ hk => hk.elim)
theorem Fr.put (h:Fr S w w') {p:Addr} (hp:S p.block∨w.heap.size≤p.block) (u:Value):Fr S w (w'.setCell p u) :=
 h.trans (S2:=fun k => k=p.block) ⟨rfl,rfl,rfl,by simp [World.setCell],fun k _ hn => Below.heap_setCell _ _ _ _ hn⟩ (fun k hk => by rw [hk];exact hp)
theorem Fr.grown {row:Option Nat} (h:Fr S w w') (hg:w'.grownBy w2 row) (hr:∀ k,row=some k→S k∨w.heap.size≤k):Fr S w w2 :=
 h.trans (S2:=fun k => row=some k) ⟨hg.os,hg.tape,hg.output,hg.size,fun k hk hn => hg.block k hk (fun e => hn e.symm)⟩ hr
theorem Fr.kept (h:Fr S w w'):Kept w w' S:=⟨h.size,h.block⟩
theorem drawn_trans (h:Drawn0 w w') (k:Drawn0 w' w2):Drawn0 w w2:=by
 obtain ⟨n,rfl⟩:=k
 exact h.step n
theorem quiet_n {P:Program} {f:FuncId} {args:Array Value} {w:World} {n:Nat} {v:Value}
  (h:Calls P f args (w.drewN n) fun e w' => e=.returned v∧∃ m,w'=(w.drewN n).drewN m):Calls P f args (w.drewN n) fun e w'' => e=.returned v∧∃ m,w''=w.drewN m :=
 h.mono fun _ _ ⟨he,m,hd⟩ => ⟨he,n+m,by rw [hd];exact World.drewN_drewN ..⟩
theorem quiet_eq {P:Program} {f:FuncId} {args:Array Value} {w:World} {n:Nat} {v:Value}
  (h:Calls P f args (w.drewN n) fun e w' => e=.returned v∧w'=w.drewN n):Calls P f args (w.drewN n) fun e w'' => e=.returned v∧∃ m,w''=w.drewN m :=
 h.mono fun _ _ ⟨he,hd⟩ => ⟨he,n,hd⟩
theorem quiet_eq' {P:Program} {f:FuncId} {args:Array Value} {w:World} {n:Nat} {v:Value}
  (h:Calls P f args (w.drewN n) fun e w' => e=.returned v∧w.drewN n=w'):Calls P f args (w.drewN n) fun e w'' => e=.returned v∧∃ m,w''=w.drewN m :=
 h.mono fun _ _ ⟨he,hd⟩ => ⟨he,n,hd.symm⟩
end
end Go.Proofs.YtjdjljgbfpkbdaaGreatDoor.Q
end
section
namespace Go.Proofs.YtjdjljgbfpkbdaaGreatDoor.R
open Go.RowKit Go.Proofs.YtjdjljgbfpkbdaaGreatDoorW.PrintWords Go.Proofs.YtjdjljgbfpkbdaaGreatDoorW.PrintLast Go.Proofs.YtjdjljgbfpkbdaaGreatDoorW.PrintMore
attribute [local go_sem] max2_int min2_int max_two min_two max_three min_three max_four min_four
set_option linter.unusedVariables false
set_option linter.unusedSimpArgs false
def errW:Option Int→Value
 | none => .nilIface
 | some c => .iface 0 (.int .i64 c)
theorem errW_none:errW none=.nilIface:=rfl
theorem errW_some (c:Int):errW (some c)=.iface 0 (.int .i64 c):=rfl
theorem info5:(Tryz.prog.info? 5).map (fun i => (i.zero,i.size,i.bytes))=some (some (.int .u8 0),1,1):=by kernel_rfl
end Go.Proofs.YtjdjljgbfpkbdaaGreatDoor.R
end
section
namespace Go.Proofs.YtjdjljgbfpkbdaaGreatDoor.R
open Go.RowKit Go.Proofs.YtjdjljgbfpkbdaaGreatDoorW.PrintWords Go.Proofs.YtjdjljgbfpkbdaaGreatDoorW.PrintLast Go.Proofs.YtjdjljgbfpkbdaaGreatDoorW.PrintMore
attribute [local go_sem] max2_int min2_int max_two min_two max_three min_three max_four min_four
set_option linter.unusedVariables false
set_option linter.unusedSimpArgs false
def text_plain.f (a0:Int):Option (Bool):=if a0=9 then (some true) else (if a0=10 then (some true) else (if a0 ≥ 32 then (some (decide (a0≤126))) else (some false)))
set_option maxHeartbeats 8000000 in
set_option maxRecDepth 100000 in
theorem text_plain.calls (a0:Int) (r:Bool) (w:World) (h:text_plain.f a0=some r) :
  Calls Tryz.prog 83 #[.int .u8 a0] w fun e w' => e=.returned (.bool r)∧Drawn0 w w':=by
 have H:(if a0=9 then (some true) else (if a0=10 then (some true) else (if a0 ≥ 32 then (some (decide (a0≤126))) else (some false))))=some r:=h
 clear h
 by_cases c2:a0=9
 ·rw [if_pos c2] at H
  have c2b0:(a0 == 9)=true:=beq_iff_eq.mpr c2
  have c2b1:(a0 != 9)=false:=bne_eq_false_iff_eq.mpr c2
  clear c2
  obtain rfl:=Option.some.inj H
  go_enter Tryz.func83,Tryz.ntmps83
  go_wp2
  go_ret
  exact ⟨by first|rfl|(simp;done)|(simp [*];done)|(simp;exact (fun l_:List UInt8 => by cases l_ <;> rfl:∀ l_:List UInt8,l_.isEmpty=!(l_ != [])) _),by repeat (first|exact Drawn0.refl _|apply Drawn0.step)⟩
 ·rw [if_neg c2] at H
  have c2b0:(a0 == 9)=false:=beq_eq_false_iff_ne.mpr c2
  have c2b1:(a0 != 9)=true:=bne_iff_ne.mpr c2
  by_cases c3:a0=10
  ·rw [if_pos c3] at H
   have c3b0:(a0 == 10)=true:=beq_iff_eq.mpr c3
   have c3b1:(a0 != 10)=false:=bne_eq_false_iff_eq.mpr c3
   clear c3
   obtain rfl:=Option.some.inj H
   go_enter Tryz.func83,Tryz.ntmps83
   go_wp2
   go_ret
   exact ⟨by first|rfl|(simp;done)|(simp [*];done)|(simp;exact (fun l_:List UInt8 => by cases l_ <;> rfl:∀ l_:List UInt8,l_.isEmpty=!(l_ != [])) _),by repeat (first|exact Drawn0.refl _|apply Drawn0.step)⟩
  ·rw [if_neg c3] at H
   have c3b0:(a0 == 10)=false:=beq_eq_false_iff_ne.mpr c3
   have c3b1:(a0 != 10)=true:=bne_iff_ne.mpr c3
   by_cases c4:a0 ≥ 32
   ·rw [if_pos c4] at H
    have c4b0:decide (32≤a0)=true:=decide_eq_true c4
    clear c4
    obtain rfl:=Option.some.inj H
    go_enter Tryz.func83,Tryz.ntmps83
    go_wp2
    go_ret
    exact ⟨by first|rfl|(simp;done)|(simp [*];done)|(simp;exact (fun l_:List UInt8 => by cases l_ <;> rfl:∀ l_:List UInt8,l_.isEmpty=!(l_ != [])) _),by repeat (first|exact Drawn0.refl _|apply Drawn0.step)⟩
   ·rw [if_neg c4] at H
    have c4b0:decide (32≤a0)=false:=decide_eq_false c4
    clear c4
    obtain rfl:=Option.some.inj H
    go_enter Tryz.func83,Tryz.ntmps83
    go_wp2
    go_ret
    exact ⟨by first|rfl|(simp;done)|(simp [*];done)|(simp;exact (fun l_:List UInt8 => by cases l_ <;> rfl:∀ l_:List UInt8,l_.isEmpty=!(l_ != [])) _),by repeat (first|exact Drawn0.refl _|apply Drawn0.step)⟩
def text_Plain.l0:Nat→ByteArray→Int→Int→Option (Bool)
 | 0,_,_,_ => none
 | k+1,x0,x5,x6 => if x6<x5 then (if 0≤x6 then (if x6<(x0.size:Int) then ((text_plain.f (bt x0 x6)).bind fun t117 => (if t117=true then (text_Plain.l0 k x0 x5 (wrap64 (x6+1))) else (some false))) else (none)) else (none)) else (some true)
def text_Plain.f (k:Nat) (a0:ByteArray):Option (Bool):=text_Plain.l0 k a0 (a0.size:Int) 0
set_option maxHeartbeats 8000000 in
set_option maxRecDepth 100000 in
theorem text_Plain.calls (k:Nat) (a0:ByteArray) (r:Bool) (w:World) (h:text_Plain.f k a0=some r) :
  Calls Tryz.prog 50 #[.string a0] w fun e w' => e=.returned (.bool r)∧Drawn0 w w':=by
 have H:(text_Plain.l0 k a0 (a0.size:Int) 0)=some r:=h
 clear h
 have H':=Aside0.mk H
 clear H
 go_enter Tryz.func50,Tryz.ntmps50
 go_wp2
 go_loopg [6] k (fun kq v6 w' => ∃ (x6_1:Int),v6=.int .i64 x6_1∧Aside0 (text_Plain.l0 kq a0 (a0.size:Int) x6_1=some r)∧Aside0 (kq≤k)∧Drawn0 w w')
 case atStart => exact ⟨(0),(by first|rfl|(simp;done)|(simp [*];done)|(simp;exact (fun l_:List UInt8 => by cases l_ <;> rfl:∀ l_:List UInt8,l_.isEmpty=!(l_ != [])) _)),H',⟨Nat.le_refl _⟩,by repeat (first|exact Drawn0.refl _|apply Drawn0.step)⟩
 case round =>
  clear H'
  obtain ⟨x6_1,rfl,HA,HK1,⟨m1,rfl⟩⟩:=hrel
  cases gk with
  | zero => exact absurd HA.out (by simp [text_Plain.l0])
  | succ k1 =>
   have H:=HA.out
   clear HA
   simp only [text_Plain.l0] at H
   by_cases c2:x6_1<(a0.size:Int)
   ·rw [if_pos c2] at H
    have c2b0:decide (x6_1<(a0.size:Int))=true:=decide_eq_true c2
    clear c2
    by_cases c3:0≤x6_1
    ·rw [if_pos c3] at H
     have c3b0:decide (0≤x6_1)=true:=decide_eq_true c3
     clear c3
     by_cases c4:x6_1<(a0.size:Int)
     ·rw [if_pos c4] at H
      have c4b0:decide (x6_1<(a0.size:Int))=true:=decide_eq_true c4
      clear c4
      replace H:=Option.bind_eq_some_iff.mp H
      obtain ⟨t117,A60,H⟩:=H
      replace H:(if t117=true then (text_Plain.l0 k1 a0 (a0.size:Int) (wrap64 (x6_1+1))) else (some false))=some r:=H
      have A6:=Aside0.mk A60
      clear A60
      by_cases c7:t117=true
      ·subst c7
       have H1:(text_Plain.l0 k1 a0 (a0.size:Int) (wrap64 (x6_1+1)))=some r:=by rw [if_pos rfl] at H;exact H
       clear H
       have H:=H1
       clear H1
       have H':=Aside0.mk H
       clear H
       have p5:0≤(x6_1:Int):=of_decide_eq_true (by first|(with_reducible assumption)|assumption)
       have q5:x6_1<(a0.size:Int):=of_decide_eq_true (by first|(with_reducible assumption)|assumption)
       have hx5:=bt_at a0 x6_1
       replace p5:=eq_true p5
       replace q5:=eq_true q5
       go_wp2_with (first|((with_reducible refine gate_callee (f:=83) rfl ?_);refine goesL_ (some 12) rfl rfl Tryz.func83 (by kernel_rfl) rfl #[.int .u8 (bt a0 x6_1)] rfl (by (try simp only [List.map_toArray,List.map_cons,List.map_nil]);first|done|rfl|(simp only [List.length_drop,List.length_take];rfl)) ?_;(with_reducible refine (text_plain.calls (bt a0 x6_1) true _ A6.out).mono ?_);rintro e w' ⟨rfl,⟨nd,rfl⟩⟩;refine ⟨_,rfl,?_⟩))
       go_roundg k1
       case measure => have:=HK1.out;omega
       case rel => exact ⟨(wrap64 (x6_1+1)),(by first|rfl|(simp;done)|(simp [*];done)|(simp;exact (fun l_:List UInt8 => by cases l_ <;> rfl:∀ l_:List UInt8,l_.isEmpty=!(l_ != [])) _)),H',⟨by have:=HK1.out;omega⟩,by repeat (first|exact Drawn0.refl _|apply Drawn0.step)⟩
      ·replace c7:=Bool.eq_false_iff.mpr c7
       subst c7
       have H1:(some false)=some r:=by rw [if_neg (show ¬ (false=true) by decide)] at H;exact H
       clear H
       have H:=H1
       clear H1
       obtain rfl:=Option.some.inj H
       have p5:0≤(x6_1:Int):=of_decide_eq_true (by first|(with_reducible assumption)|assumption)
       have q5:x6_1<(a0.size:Int):=of_decide_eq_true (by first|(with_reducible assumption)|assumption)
       have hx5:=bt_at a0 x6_1
       replace p5:=eq_true p5
       replace q5:=eq_true q5
       go_wp2_with (first|((with_reducible refine gate_callee (f:=83) rfl ?_);refine goesL_ (some 12) rfl rfl Tryz.func83 (by kernel_rfl) rfl #[.int .u8 (bt a0 x6_1)] rfl (by (try simp only [List.map_toArray,List.map_cons,List.map_nil]);first|done|rfl|(simp only [List.length_drop,List.length_take];rfl)) ?_;(with_reducible refine (text_plain.calls (bt a0 x6_1) false _ A6.out).mono ?_);rintro e w' ⟨rfl,⟨nd,rfl⟩⟩;refine ⟨_,rfl,?_⟩))
       go_ret
       exact ⟨by first|rfl|(simp;done)|(simp [*];done)|(simp;exact (fun l_:List UInt8 => by cases l_ <;> rfl:∀ l_:List UInt8,l_.isEmpty=!(l_ != [])) _),by repeat (first|exact Drawn0.refl _|apply Drawn0.step)⟩
     ·rw [if_neg c4] at H
      exact absurd H (by simp)
    ·rw [if_neg c3] at H
     exact absurd H (by simp)
   ·rw [if_neg c2] at H
    have c2b0:decide (x6_1<(a0.size:Int))=false:=decide_eq_false c2
    clear c2
    obtain rfl:=Option.some.inj H
    go_wp2
    go_ret
    exact ⟨by first|rfl|(simp;done)|(simp [*];done)|(simp;exact (fun l_:List UInt8 => by cases l_ <;> rfl:∀ l_:List UInt8,l_.isEmpty=!(l_ != [])) _),by repeat (first|exact Drawn0.refl _|apply Drawn0.step)⟩
end Go.Proofs.YtjdjljgbfpkbdaaGreatDoor.R
end
