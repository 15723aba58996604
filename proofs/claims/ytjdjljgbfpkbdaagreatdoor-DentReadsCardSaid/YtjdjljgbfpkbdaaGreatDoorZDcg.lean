import Derived.Test.YtjdjljgbfpkbdaaGreatDoorZUnq
import Derived.Test.YtjdjljgbfpkbdaaGreatDoorZPath
import Derived.RegionTactic
import Derived.BigRegion
import Derived.Deep.RegionLaw
import Derived.Test.YtjdjljgbfpkbdaaGreatDoorZPieces
import Derived.Test.YtjdjljgbfpkbdaaGreatDoorZEnv
import Derived.Test.YtjdjljgbfpkbdaaGreatDoorZShelf
import Derived.Test.YtjdjljgbfpkbdaaGreatDoorZR
import Derived.Test.YtjdjljgbfpkbdaaGreatDoorZDit
set_option linter.unusedVariables false
set_option linter.unusedSimpArgs false
section
namespace Go.Proofs.YtjdjljgbfpkbdaaGreatDoor.Q
open Go.RowKit Go.Proofs.YtjdjljgbfpkbdaaGreatDoorW.PrintWords
def plainB (b:UInt8):Bool:=b == 9 || b == 10 || (32≤b && b≤126)
def plainI (x:Int):Bool:=x == 9 || x == 10 || (decide (32≤x) && decide (x≤126))
theorem plain_int (c:UInt8):plainI (c.toNat:Int)=plainB c:=by
  unfold plainI plainB
  rw [Bool.eq_iff_iff]
  simp only [Bool.or_eq_true,Bool.and_eq_true,decide_eq_true_eq,beq_iff_eq,UInt8.le_iff_toNat_le,← UInt8.toNat_inj]
  simp only [show (9:UInt8).toNat=9 from rfl,show (10:UInt8).toNat=10 from rfl,show (32:UInt8).toNat=32 from rfl,show (126:UInt8).toNat=126 from rfl]
  omega
theorem plain_f (x:Int):R.text_plain.f x=some (plainI x):=by
  unfold R.text_plain.f plainI
  split
  · rename_i h;subst h;rfl
  split
  · rename_i h;subst h;rfl
  rename_i h1 h2
  have e1:(x == 9)=false:=by simpa using h1
  have e2:(x == 10)=false:=by simpa using h2
  rw [e1,e2]
  split
  · rename_i h3;rw [decide_eq_true (by omega:32≤x)];simp
  · rename_i h3;rw [decide_eq_false (by omega:¬ 32≤x)];simp
theorem plain_at (s:ByteArray) (hs:s.size≤140737488351232):∀ (d k i:Nat),s.size=i+d→d<k→R.text_Plain.l0 k s (s.size:Int) (i:Int)=some ((s.data.toList.drop i).all plainB)
  | 0,k,i,hd,hk => by
    obtain ⟨k,rfl⟩:∃ m,k=m+1:=⟨k - 1,by omega⟩
    simp only [R.text_Plain.l0]
    rw [if_neg (by omega),List.drop_eq_nil_of_le (by simp;omega)]
    rfl
  | d+1,k,i,hd,hk => by
    obtain ⟨k,rfl⟩:∃ m,k=m+1:=⟨k - 1,by omega⟩
    have hi:i<s.size:=by omega
    simp only [R.text_Plain.l0]
    rw [if_pos (by omega),if_pos (by omega),if_pos (by omega),plain_f,drop_at s i hi,List.all_cons,bt_at' s i hi,plain_int]
    have hw:wrap64 ((i:Int)+1)=((i+1:Nat):Int):=by unfold wrap64;omega
    rw [hw]
    cases plainB s[i] with
    | true => simpa using plain_at s hs d k (i+1) (by omega) (by omega)
    | false => simp
def wordRoot:ByteArray:=⟨#[114,111,111,116]⟩
def wordVersion:ByteArray:=⟨#[118,101,114,115,105,111,110]⟩
def wordRev:ByteArray:=⟨#[114,101,118,105,115,105,111,110]⟩
def wordWithin:ByteArray:=⟨#[119,105,116,104,105,110]⟩
def wordSource:ByteArray:=⟨#[115,111,117,114,99,101]⟩
def KeysPost (w:World) (q o:Nat) (e:Ending) (w':World):Prop :=
  ∃ b1 b2:Nat,e=.returned (.tuple #[.slice (some ⟨b1,0,none⟩) 5 5,.slice (some ⟨b2,0,none⟩) 5 5])∧w.heap.size≤b1∧w.heap.size≤b2∧b1≠b2
    ∧ Blk w' b1 9 #[.string wordRoot,.string wordVersion,.string wordRev,.string wordWithin,.string wordSource]
    ∧ Blk w' b2 54 #[.pointer (some ⟨q,o,none⟩),.pointer (some ⟨q,o+1,none⟩),.pointer (some ⟨q,o+2,none⟩),.pointer (some ⟨q,o+3,none⟩),.pointer (some ⟨q,o+4,none⟩)]
    ∧ Below w.heap.size w w'
theorem Blk.new2 (w:World) (o:Obj) (t:TypeId) (cs:Array Value):Blk ((w.alloc o).alloc (.cells cs t)) (w.heap.size+1) t cs:=by
  have h:=Blk.new (w.alloc o) t cs
  have e:(w.alloc o).heap.size=w.heap.size+1:=by simp
  rwa [e] at h
theorem Below.alloc2 (w:World) (o o':Obj):Below w.heap.size w ((w.alloc o).alloc o') :=
  (((Fr.refl (fun _ => False) w).alloc o).alloc o').below (Nat.le_refl _) (fun _ h => h.elim)
section
variable (w:World)
set_option maxHeartbeats 1000000 in
set_option maxRecDepth 100000 in
theorem fields_calls (q o:Nat):Calls Tryz.prog 20 #[.pointer (some ⟨q,o,none⟩)] w (KeysPost w q o):=by
  go_enter Tryz.func20,Tryz.ntmps20
  go_wp2_with (fail)
  go_region
  all_goals (go_wp2_with (fail))
  all_goals go_ret2
  · refine ⟨_,_,rfl,Nat.le_refl _,by omega,by omega,(Blk.new w _ _).alloc _,Blk.new2 w _ _ _,?_⟩
    exact below_drew (Below.alloc2 w _ _)
  · refine ⟨_,_,rfl,by omega,Nat.le_refl _,by omega,Blk.new2 w _ _ _,(Blk.new w _ _).alloc _,?_⟩
    exact below_drew (Below.alloc2 w _ _)
end
structure Lk where
  root:ByteArray
  version:ByteArray
  rev:ByteArray
  within:ByteArray
  source:ByteArray
def Lk.cells (x:Lk):List Value:=[.string x.root,.string x.version,.string x.rev,.string x.within,.string x.source]
def lkCells (l:List Lk):List Value:=l.flatMap Lk.cells
theorem lkCells_length (l:List Lk):(lkCells l).length=l.length * 5:=by
  induction l with
  | nil => rfl
  | cons x l ih => simp only [lkCells,List.flatMap_cons,List.length_append,List.length_cons] at ih ⊢;rw [ih];simp only [Lk.cells,List.length_cons,List.length_nil];omega
theorem lkCells_append (l m:List Lk):lkCells (l++m)=lkCells l++lkCells m:=by simp [lkCells]
theorem lkCells_get (l:List Lk) (j k:Nat) (hj:j<l.length) (hk:k<5):(lkCells l)[j * 5+k]?=(l[j].cells)[k]?:=by
  induction l generalizing j with
  | nil => simp at hj
  | cons x l ih =>
    have e:lkCells (x :: l)=x.cells++lkCells l:=by simp [lkCells]
    have hx:x.cells.length=5:=rfl
    rw [e]
    cases j with
    | zero =>
      rw [List.getElem?_append_left (by omega)]
      simp
    | succ j =>
      rw [List.getElem?_append_right (by omega),hx]
      have:(j+1) * 5+k - 5=j * 5+k:=by omega
      rw [this,ih j (by simpa using hj)]
      simp
def Ls (w:World) (base:Nat) (lv:Value) (l:List Lk):Prop:=w.ownsRow base 43 5 lv l.length (lkCells l)
theorem Ls.nil (w:World) (base:Nat):Ls w base (.slice none 0 0) []:=own_nil w base _ 5
structure LsAt (w:World) (base q cap:Nat) (l:List Lk):Prop where
  le:l.length≤cap
  capLe:cap≤9223372036854775807
  base:base≤q
  lt:q<w.heap.size
  cell:∀ j k,(h:j<l.length)→k<5→w.cell? ⟨q,j * 5+k,none⟩=(l[j].cells)[k]?
  blk:∃ cs,w.heap[q]?=some (.cells cs 43 (0,0))∧cs.size=cap * 5∧cs.toList.take (l.length * 5)=lkCells l
theorem Ls.at_ {w:World} {base:Nat} {lv:Value} {l:List Lk} (h:Ls w base lv l) (hl:l≠[]):∃ q cap,lv=.slice (some ⟨q,0,none⟩) l.length cap∧LsAt w base q cap l:=by
  obtain ⟨_,h2⟩:=h
  rcases h2 with ⟨_,h2⟩|⟨q,cap,cs,rfl,hb,hh,hle,hcap,hs,ht⟩
  · exact absurd (List.eq_nil_of_length_eq_zero h2) hl
  · refine ⟨q,cap,rfl,hle,hcap,hb,?_,?_,cs,hh,hs,ht⟩
    · exact (Array.getElem?_eq_some_iff.1 hh).1
    · intro j k hj hk
      have e:=lkCells_get l j k hj hk
      rw [← ht,List.getElem?_take,if_pos (by omega),Array.getElem?_toList] at e
      simp only [World.cell?,hh]
      exact e
section
variable (w:World)
def Lk.arr (x:Lk):Array Value:=#[.string x.root,.string x.version,.string x.rev,.string x.within,.string x.source]
theorem same_calls (b:Nat) (x y:Lk) (hx:Blk w b 43 x.arr) :
    Calls Tryz.prog 64 #[.agg y.arr,.pointer (some ⟨b,0,none⟩)] w fun e w' => e=.returned (.bool (y.root.toList == x.root.toList))∧Below w.heap.size w w':=by
  have h0:(w.alloc (.cells y.arr 43)).cell? ⟨b,0,none⟩=some (.string x.root):=(hx.alloc _).cell 0
  have h1:(w.alloc (.cells y.arr 43)).cell? ⟨w.heap.size,0,none⟩=some (.string y.root):=(Blk.new w _ _).cell 0
  generalize hW:y.arr=Y at *
  go_enter Tryz.func64,Tryz.ntmps64
  go_wp2_with (fail)
  go_ret
  exact ⟨rfl,(Below.refl _ w).alloc (Nat.le_refl _) _⟩
theorem index_calls (b q c:Nat) (x:Lk) (l:List Lk) (hx:Blk w b 43 x.arr)
   (hl:∀ j k,(h:j<l.length)→k<5→w.cell? ⟨q,j * 5+k,none⟩=(l[j].cells)[k]?) (hb:l.length≤40) :
    Calls Tryz.prog 94 #[.slice (some ⟨q,0,none⟩) l.length c,.func (.func 64) #[] #[.pointer (some ⟨b,0,none⟩)]] w
      fun e w' => ∃ r:Int,e=.returned (.int .i64 r)∧(0≤r↔l.any (fun y => y.root.toList == x.root.toList)=true)∧Below w.heap.size w w':=by
  go_enter Tryz.func94,Tryz.ntmps94
  go_wp2_with (fail)
  have HX:=Lib.hid hx
  have HL:=Lib.hid hl
  clear hx hl
  go_loopg [5,8] (l.length) (fun q' _ i wr => ∃ j:Nat,q'=l.length - j∧j≤l.length∧i=.int .i64 j∧(l.take j).any (fun y => y.root.toList == x.root.toList)=false∧Below w.heap.size w wr)
  case atStart => exact ⟨0,by omega,Nat.zero_le _,rfl,rfl,Below.refl _ _⟩
  case round =>
    obtain ⟨j,rfl,hj,rfl,he,hbl⟩:=hrel
    have HE:=Lib.hid he
    have HBL:=Lib.hid hbl
    clear he hbl
    by_cases hlt:j<l.length
    · have c0:wr.cell? ⟨q,j * 5,none⟩=some (.string l[j].root):=pw_cell_below HBL.out (HL.out j 0 hlt (by omega))
      have c1:wr.cell? ⟨q,j * 5+1,none⟩=some (.string l[j].version):=pw_cell_below HBL.out (HL.out j 1 hlt (by omega))
      have c2:wr.cell? ⟨q,j * 5+2,none⟩=some (.string l[j].rev):=pw_cell_below HBL.out (HL.out j 2 hlt (by omega))
      have c3:wr.cell? ⟨q,j * 5+3,none⟩=some (.string l[j].within):=pw_cell_below HBL.out (HL.out j 3 hlt (by omega))
      have c4:wr.cell? ⟨q,j * 5+4,none⟩=some (.string l[j].source):=pw_cell_below HBL.out (HL.out j 4 hlt (by omega))
      have HT:=Lib.hid (List.take_succ_eq_append_getElem hlt)
      generalize hy:l[j]=y at *
      go_wp2_with (fail)
      refine (same_calls wr b x y (HX.out.below HBL.out)).mono ?_
      rintro e w1 ⟨rfl,hb1⟩
      have HB1:=Lib.hid hb1
      clear hb1
      cases hq:(y.root.toList == x.root.toList) with
      | true =>
        have HQ:=Lib.hid hq
        clear hq
        go_wp2_with (fail)
        go_ret
        refine ⟨_,rfl,?_,below_then HBL.out HBL.out.size HB1.out⟩
        simp only [Int.natCast_nonneg,true_iff,List.any_eq_true]
        exact ⟨l[j],List.getElem_mem hlt,by rw [hy];exact HQ.out⟩
      | false =>
        have HQ:=Lib.hid hq
        clear hq
        go_wp2_with (fail)
        go_roundg (l.length - (j+1))
        case measure => omega
        case rel =>
          refine ⟨j+1,rfl,by omega,rfl,?_,below_then HBL.out HBL.out.size HB1.out⟩
          rw [HT.out,List.any_append,HE.out]
          simp only [List.any_cons,List.any_nil,HQ.out,Bool.or_false]
    · have he:=HE.out
      rw [List.take_of_length_le (by omega)] at he
      have HE2:=Lib.hid he
      clear he
      go_wp2_with (fail)
      go_ret
      refine ⟨_,rfl,?_,HBL.out⟩
      rw [HE2.out]
      simp
theorem contains_calls (b q c:Nat) (x:Lk) (l:List Lk) (hx:Blk w b 43 x.arr)
   (hl:∀ j k,(h:j<l.length)→k<5→w.cell? ⟨q,j * 5+k,none⟩=(l[j].cells)[k]?) (hb:l.length≤40) :
    Calls Tryz.prog 63 #[.slice (some ⟨q,0,none⟩) l.length c,.func (.func 64) #[] #[.pointer (some ⟨b,0,none⟩)]] w
      fun e w' => e=.returned (.bool (l.any (fun y => y.root.toList == x.root.toList)))∧Below w.heap.size w w':=by
  have HC:=Lib.hid (index_calls w b q c x l hx hl hb)
  clear hx hl
  go_enter Tryz.func63,Tryz.ntmps63
  go_wp2_with (fail)
  refine HC.out.mono ?_
  rintro e w1 ⟨r,rfl,hr,hb1⟩
  have HR:=Lib.hid hr
  have HB:=Lib.hid hb1
  clear hr hb1
  go_wp2_with (fail)
  go_ret
  refine ⟨?_,HB.out⟩
  cases ha:(l.any (fun y => y.root.toList == x.root.toList)) with
  | true =>
    have:0≤r:=HR.out.2 ha
    simp [this]
  | false =>
    have:¬ 0≤r:=fun h => by rw [HR.out.1 h] at ha;cases ha
    simp [this]
def endedE:List Lk→Int
  | [] => 0
  | y :: m =>
    let x:=(y :: m).getLast (by simp)
    if x.root.toList.isEmpty || (x.rev.toList.isEmpty && x.version.toList.isEmpty) then 1
    else if (y :: m).dropLast.any (fun z => z.root.toList == x.root.toList) then 4 else 0
theorem endedE_snoc (init:List Lk) (x:Lk):endedE (init++[x])=if x.root.toList.isEmpty || (x.rev.toList.isEmpty && x.version.toList.isEmpty) then 1
    else if init.any (fun z => z.root.toList == x.root.toList) then 4 else 0:=by
  cases h:init++[x] with
  | nil => simp at h
  | cons y m =>
    simp only [endedE,← h,List.getLast_append,List.dropLast_concat]
    simp
theorem Ls.keep {w w':World} {base:Nat} {lv:Value} {l:List Lk} {S:Nat→Prop} (h:Ls w base lv l) (hf:Fr S w w') (hS:∀ k cs,S k→w.heap[k]?≠some (.cells cs 43 (0,0))):Ls w' base lv l :=
  own_move h (fun k hk => by
    obtain ⟨cells,hc⟩:=own_typed h k hk
    exact hf.block k (Array.getElem?_eq_some_iff.1 hc).1 (fun hk' => hS k cells hk' hc))
theorem Blk.ty {w:World} {p:Nat} {t:TypeId} {cs:Array Value} (h:Blk w p t cs) (ht:t≠43):∀ k cs',k=p→w.heap[k]?≠some (.cells cs' 43 (0,0)):=by
  rintro k cs' rfl hk
  unfold Blk at h
  rw [h] at hk
  injection hk with hk
  injection hk with _ hk
  exact ht hk
end
def Lk.zero:Lk:=⟨⟨#[]⟩,⟨#[]⟩,⟨#[]⟩,⟨#[]⟩,⟨#[]⟩⟩
theorem Lk.one:∀ u ∈ Lk.zero.cells,u.oneCell'=true:=by
  intro u hu
  simp only [Lk.cells,List.mem_cons,List.not_mem_nil,or_false] at hu
  rcases hu with rfl|rfl|rfl|rfl|rfl <;> rfl
theorem Ls.snoc {w:World} {base:Nat} {v:Value} {l:List Lk} {x:Lk} (h:w.ownsRow base 43 5 v (l.length+1) (lkCells l++x.cells)):Ls w base v (l++[x]):=by
  unfold Ls
  rw [List.length_append,lkCells_append]
  simpa [lkCells] using h
theorem info39:(Tryz.prog.info? 43).map (fun i => (i.zero,i.size,i.bytes))=some (some (.agg #[(.string ⟨#[]⟩),(.string ⟨#[]⟩),(.string ⟨#[]⟩),(.string ⟨#[]⟩),(.string ⟨#[]⟩)]),5,80):=by kernel_rfl
def Lk.set (x:Lk) (k:Nat) (v:ByteArray):Lk :=
  match k with
  | 0 => { x with root:=v }
  | 1 => { x with version:=v }
  | 2 => { x with rev:=v }
  | 3 => { x with within:=v }
  | _ => { x with source:=v }
theorem Lk.set_cells (x:Lk) (k:Nat) (hk:k<5) (v:ByteArray):(x.set k v).cells=x.cells.set k (.string v):=by
  rcases k with _|_|_|_|_|k
  all_goals first|rfl|omega
theorem lkCells_set (l:List Lk) (x:Lk) (k:Nat) (hk:k<5) (v:ByteArray):(lkCells (l++[x])).set (l.length * 5+k) (.string v)=lkCells (l++[x.set k v]):=by
  have h1:∀ y:Lk,lkCells [y]=y.cells:=fun y => by simp [lkCells]
  rw [lkCells_append,lkCells_append,h1,h1,Lk.set_cells x k hk]
  have hl:=lkCells_length l
  rw [List.set_append_right _ _ (by omega)]
  congr 2
  omega
theorem Ls.put {w:World} {base q c:Nat} {l:List Lk} {x:Lk} (h:Ls w base (.slice (some ⟨q,0,none⟩) (l.length+1) c) (l++[x])) (k:Nat) (hk:k<5) (v:ByteArray) :
    Ls (w.setCell ⟨q,l.length * 5+k,none⟩ (.string v)) base (.slice (some ⟨q,0,none⟩) (l.length+1) c) (l++[x.set k v]):=by
  obtain ⟨h1,h2⟩:=h
  refine ⟨by rw [lkCells_length],.inr ?_⟩
  rcases h2 with ⟨h2,_⟩|⟨g,cap,cs,he,hb,hh,hle,hcap,hs,ht⟩
  · cases h2
  · injection he with he1 he2 he3
    injection he1 with he1
    injection he1 with he1
    subst he1 he3
    refine ⟨q,c,cs.setIfInBounds (l.length * 5+k) (.string v),by simp,hb,blk_set hh _ _,by simpa using hle,hcap,by simpa using hs,?_⟩
    rw [Array.toList_setIfInBounds,← lkCells_set l x k hk v,← ht]
    simp only [List.length_append,List.length_cons,List.length_nil]
    rw [List.take_set]
def names:List ByteArray:=[wordRoot,wordVersion,wordRev,wordWithin,wordSource]
def needsPath (word:ByteArray):Bool:=word.toList == [114,111,111,116] || word.toList == [115,111,117,114,99,101]
end Go.Proofs.YtjdjljgbfpkbdaaGreatDoor.Q
end
section
namespace Go.Proofs.YtjdjljgbfpkbdaaGreatDoor.Q
open Go.RowKit Go.Proofs.YtjdjljgbfpkbdaaGreatDoorW.PrintWords
def mayL:List UInt8→Bool
  | [] => false
  | b :: t => decide (Lib.indexByte [34,32,35] b<0) && ((b :: t).getLast (by simp) != 32) && !Lib.contains (b :: t) [32,35] && !decide (0≤Lib.indexByte (b :: t) 10)
def valueL (s:List UInt8):List UInt8 × Bool :=
  match unq s with
  | some (out,used) => if used=s.length then (out,true) else (s,mayL s)
  | none => (s,mayL s)
def pairL (x:List UInt8):Option (ByteArray × List UInt8) :=
  if (Lib.cut x [58,32]).2.2=true∧Lib.containsS names ⟨(Lib.cut x [58,32]).1.toArray⟩=true then
    if (valueL (Lib.cut x [58,32]).2.1).2=true then some (⟨(Lib.cut x [58,32]).1.toArray⟩,(valueL (Lib.cut x [58,32]).2.1).1) else none
  else none
inductive DRes
  | bad (wh:Nat) (e:Int)
  | ok (l:List Lk) (has:List ByteArray)
def beginE (l:List Lk):Int:=if endedE l=0 then if 40≤l.length then 2 else 0 else endedE l
def fieldD (a:Nat) (l:List Lk) (has:List ByteArray) (k:ByteArray) (v:List UInt8):DRes :=
  if Lib.containsS has k=true then .bad a 4
  else if (needsPath k && !rightL v)=true then .bad a 7
  else match l.getLast? with
    | none => .bad a 1
    | some x => .ok (l.dropLast++[x.set (Lib.idxOfS names k).toNat ⟨v.toArray⟩]) (has++[k])
def lineD (x:List UInt8) (a:Nat) (l:List Lk) (has:List ByteArray):DRes :=
  if Lib.hasPrefix x [45,32]=true then
    match pairL (x.drop 2) with
    | none => .bad a 1
    | some (k,v) => if beginE l=0 then fieldD a (l++[Lk.zero]) [] k v else .bad a (beginE l)
  else if Lib.hasPrefix x [32,32]=true∧l≠[] then
    match pairL (x.drop 2) with
    | none => .bad a 1
    | some (k,v) => fieldD a l has k v
  else .bad a 1
def wholeL (x:List UInt8):List UInt8:=Lib.trimSuffix x [10]
def wordL (x:List UInt8):List UInt8:=Lib.trimLeftB (wholeL x) 32
def locksWordL:List UInt8:=[108,111,99,107,115,58]
structure DSt where
  frm:Nat
  begun:Bool
  r:DRes
def stepD (st:DSt) (x:List UInt8):DSt :=
  match st.r with
  | .bad wh e => ⟨st.frm+x.length,st.begun,.bad wh e⟩
  | .ok l has =>
    if wordL x=[]∨(wordL x).head?=some 35 then ⟨st.frm+x.length,st.begun,.ok l has⟩
    else if st.begun=true then ⟨st.frm+x.length,true,lineD (wholeL x) (st.frm+((wholeL x).length - (wordL x).length)) l has⟩
    else if wholeL x=locksWordL then ⟨st.frm+x.length,true,.ok l has⟩
    else ⟨st.frm+x.length,false,.bad (st.frm+((wholeL x).length - (wordL x).length)) 1⟩
def badAt:List UInt8→Option Nat
  | [] => none
  | b :: t => if plainB b=true then (badAt t).map (·+1) else some 0
def start (s:List UInt8):DSt:=⟨0,false,match badAt s with|some k => .bad k 1|none => .ok [] []⟩
def linesD (s:List UInt8) (ps:List (List UInt8)):DSt:=ps.foldl stepD (start s)
def locksD (s:List UInt8):List Lk × Nat × Int :=
  if 8000<s.length then ([],0,2)
  else match (linesD s (pieces s)).r with
  | .bad wh e => ([],wh,e)
  | .ok l _ => if endedE l=0 then (l,0,0) else ([],s.length,endedE l)
theorem unq_bound (l:List UInt8) (r:List UInt8 × Nat) (h:unq l=some r):r.2≤l.length∧r.1.length≤l.length:=by
  unfold unq at h
  split at h
  · have:=unqGo_bound _ _ _ _ h
    simp only [List.length_cons,List.length_nil] at this ⊢
    omega
  · cases h
theorem valueL_len (s:List UInt8):(valueL s).1.length≤s.length:=by
  unfold valueL
  split
  · rename_i out used h
    have:=(unq_bound s _ h).2
    split
    · exact this
    · exact Nat.le_refl _
  · exact Nat.le_refl _
theorem cut_len (x sep:List UInt8):(Lib.cut x sep).1.length≤x.length∧(Lib.cut x sep).2.1.length≤x.length:=by
  unfold Lib.cut
  split
  · simp only [List.length_take,List.length_drop];omega
  · simp
theorem pairL_len {x:List UInt8} {k:ByteArray} {v:List UInt8} (h:pairL x=some (k,v)):v.length≤x.length∧Lib.containsS names k=true:=by
  unfold pairL at h
  split at h
  · rename_i h1
    split at h
    · simp only [Option.some.injEq,Prod.mk.injEq] at h
      obtain ⟨rfl,rfl⟩:=h
      exact ⟨Nat.le_trans (valueL_len _) (cut_len x _).2,h1.2⟩
    · cases h
  · cases h
theorem word_len (x:List UInt8):(wordL x).length≤(wholeL x).length:=(List.dropWhile_suffix _).length_le
theorem whole_len (x:List UInt8):(wholeL x).length≤x.length:=by
  unfold wholeL Lib.trimSuffix
  split
  · simp only [List.length_take];omega
  · exact Nat.le_refl _
def DInv (n j:Nat):DRes→Prop
  | .bad wh e => wh≤n∧e≠0
  | .ok l has => l.length≤40∧has.length≤j
theorem field_inv {n j a:Nat} {l:List Lk} {has:List ByteArray} {k:ByteArray} {v:List UInt8} (ha:a≤n) (hl:l.length≤40) (hh:has.length≤j):DInv n (j+1) (fieldD a l has k v):=by
  unfold fieldD
  split
  · exact ⟨ha,by decide⟩
  · split
    · exact ⟨ha,by decide⟩
    · split
      · exact ⟨ha,by decide⟩
      · rename_i x hx
        have hne:l≠[]:=by rintro rfl;simp at hx
        have:=List.length_pos_iff.2 hne
        refine ⟨?_,by simpa using hh⟩
        simp only [List.length_append,List.length_dropLast,List.length_cons,List.length_nil]
        omega
theorem line_inv {n j a:Nat} {x:List UInt8} {l:List Lk} {has:List ByteArray} (ha:a≤n) (hl:l.length≤40) (hh:has.length≤j):DInv n (j+1) (lineD x a l has):=by
  unfold lineD
  split
  · split
    · exact ⟨ha,by decide⟩
    · split
      · rename_i h
        have:l.length<40:=by
          unfold beginE at h
          split at h
          · split at h
            · cases h
            · omega
          · omega
        exact field_inv ha (by simp only [List.length_append,List.length_cons,List.length_nil];omega) (Nat.zero_le _)
      · rename_i h
        exact ⟨ha,h⟩
  · split
    · split
      · exact ⟨ha,by decide⟩
      · exact field_inv ha hl hh
    · exact ⟨ha,by decide⟩
theorem step_inv {n j:Nat} {st:DSt} {x:List UInt8} (h:DInv n j st.r) (hx:st.frm+x.length≤n):DInv n (j+1) (stepD st x).r∧(stepD st x).frm=st.frm+x.length:=by
  have h1:=word_len x
  have h2:=whole_len x
  unfold stepD
  split
  · rename_i wh e hr
    rw [hr] at h
    exact ⟨h,rfl⟩
  · rename_i l has hr
    rw [hr] at h
    have hup:DInv n (j+1) (.ok l has):=⟨h.1,by have:=h.2;omega⟩
    split
    · exact ⟨hup,rfl⟩
    · split
      · exact ⟨line_inv (by omega) h.1 h.2,rfl⟩
      · split
        · exact ⟨hup,rfl⟩
        · exact ⟨⟨by omega,by decide⟩,rfl⟩
theorem badAt_le:∀ (s:List UInt8) (k:Nat),badAt s=some k→k<s.length
  | [],k,h => by simp [badAt] at h
  | b :: t,k,h => by
    unfold badAt at h
    split at h
    · cases hb:badAt t with
      | none => rw [hb] at h;simp at h
      | some m =>
        rw [hb] at h
        simp only [Option.map_some,Option.some.injEq] at h
        have:=badAt_le t m hb
        simp only [List.length_cons]
        omega
    · simp only [Option.some.injEq] at h
      simp only [List.length_cons]
      omega
theorem start_inv (s:List UInt8):DInv s.length 0 (start s).r:=by
  unfold start
  simp only
  split
  · rename_i k h
    exact ⟨Nat.le_of_lt (badAt_le s k h),by decide⟩
  · exact ⟨Nat.zero_le _,Nat.zero_le _⟩
theorem lines_snoc (s:List UInt8) (ps:List (List UInt8)) (x:List UInt8):linesD s (ps++[x])=stepD (linesD s ps) x:=by simp [linesD,List.foldl_append]
theorem fold_inv (n:Nat):∀ (ps:List (List UInt8)) (j:Nat) (st:DSt),DInv n j st.r→st.frm+ps.flatten.length≤n →
    DInv n (j+ps.length) (ps.foldl stepD st).r∧(ps.foldl stepD st).frm=st.frm+ps.flatten.length
  | [],j,st,h,_ => ⟨h,rfl⟩
  | x :: ps,j,st,h,hn => by
    simp only [List.flatten_cons,List.length_append] at hn
    obtain ⟨h3,h4⟩:=step_inv h (x:=x) (by omega)
    obtain ⟨h5,h6⟩:=fold_inv n ps (j+1) (stepD st x) h3 (by omega)
    refine ⟨?_,?_⟩
    · rw [List.foldl_cons,List.length_cons,show j+(ps.length+1)=j+1+ps.length from by omega]
      exact h5
    · rw [List.foldl_cons,h6,h4]
      simp only [List.flatten_cons,List.length_append]
      omega
theorem lines_inv (s:List UInt8) (ps qs:List (List UInt8)) (h:ps++qs=pieces s):DInv s.length ps.length (linesD s ps).r∧(linesD s ps).frm=ps.flatten.length:=by
  have e:=congrArg List.length (pieces_flat s)
  rw [← h] at e
  simp only [List.flatten_append,List.length_append] at e
  obtain ⟨h1,h2⟩:=fold_inv s.length ps 0 (start s) (start_inv s) (by show 0+_≤_;omega)
  rw [Nat.zero_add] at h1
  exact ⟨h1,h2.trans (Nat.zero_add _)⟩
end Go.Proofs.YtjdjljgbfpkbdaaGreatDoor.Q
end
section
namespace Go.Proofs.YtjdjljgbfpkbdaaGreatDoor.Q
open Go.RowKit Go.Proofs.YtjdjljgbfpkbdaaGreatDoorW.PrintWords
def Rd (w:World) (p:Nat) (wh e:Int) (lv hv:Value):Prop:=Blk w p 62 #[.int .i64 wh,.int .i64 e,lv,hv]
section
variable (w:World)
set_option maxHeartbeats 400000 in
theorem wrong_set (p:Nat) (wh:Int) (lv hv:Value) (h:Rd w p wh 0 lv hv) (a x:Int) :
    Calls Tryz.prog 26 #[.pointer (some ⟨p,0,none⟩),.int .i64 a,.int .i64 x] w fun e w' => e=.returned (.tuple #[])∧Rd w' p a x lv hv∧Fr (·=p) w w':=by
  have h0:=h.cell 0
  have h1:=h.cell 1
  have f0:=h.unfrozen 0
  have f1:=h.unfrozen 1
  have H:=Lib.hid h
  clear h
  go_enter Tryz.func26,Tryz.ntmps26
  go_wp2
  go_end0
  exact ⟨rfl,(H.out.put 0 _).put 1 _,((Fr.refl (·=p) w).put (.inl rfl) _).put (.inl rfl) _⟩
set_option maxHeartbeats 400000 in
theorem wrong_keep (p:Nat) (wh e:Int) (lv hv:Value) (h:Rd w p wh e lv hv) (he:e≠0) (a x:Int) :
    Calls Tryz.prog 26 #[.pointer (some ⟨p,0,none⟩),.int .i64 a,.int .i64 x] w fun e w' => e=.returned (.tuple #[])∧w=w':=by
  have h1:=h.cell 1
  have hb:(e == 0)=false:=by simpa using he
  clear h he
  go_enter Tryz.func26,Tryz.ntmps26
  go_wp2
  go_end0
  exact ⟨rfl,rfl⟩
theorem wrong_any (p:Nat) (wh e:Int) (lv hv:Value) (h:Rd w p wh e lv hv) (a x:Int) :
    Calls Tryz.prog 26 #[.pointer (some ⟨p,0,none⟩),.int .i64 a,.int .i64 x] w fun e' w' => e'=.returned (.tuple #[])∧Rd w' p (if e=0 then a else wh) (if e=0 then x else e) lv hv∧Fr (·=p) w w':=by
  by_cases he:e=0
  · subst he
    exact wrong_set w p wh lv hv h a x
  · refine (wrong_keep w p wh e lv hv h he a x).mono ?_
    rintro e' w' ⟨rfl,rfl⟩
    exact ⟨rfl,by rw [if_neg he,if_neg he];exact h,Fr.refl _ _⟩
def EndPost (w:World) (p:Nat) (lv hv:Value) (wh:Int) (a:Int) (x:Int) (e:Ending) (w':World):Prop :=
  e=.returned (.tuple #[])∧Rd w' p (if x=0 then wh else a) x lv hv∧Fr (·=p) w w'
theorem EndPost.bad {w w':World} {p:Nat} {lv hv:Value} {wh a x k:Int} (hx:x=k) (hk:k≠0) (h:Rd w' p a k lv hv) (hf:Fr (·=p) w w'):EndPost w p lv hv wh a x (.returned (.tuple #[])) w':=by
  subst hx
  exact ⟨rfl,by rw [if_neg hk];exact h,hf⟩
theorem EndPost.good {w w':World} {p:Nat} {lv hv:Value} {wh a x:Int} (hx:x=0) (h:Rd w' p wh 0 lv hv) (hf:Fr (·=p) w w'):EndPost w p lv hv wh a x (.returned (.tuple #[])) w':=by
  subst hx
  exact ⟨rfl,h,hf⟩
variable (p:Nat) (lv hv:Value) (wh:Int)
set_option maxHeartbeats 1000000 in
set_option maxRecDepth 100000 in
theorem ended_calls (a:Int) (base:Nat) (l:List Lk) (h:Rd w p wh 0 lv hv) (hl:Ls w base lv l) (hn:l.length≤40) :
    Calls Tryz.prog 31 #[.pointer (some ⟨p,0,none⟩),.int .i64 a] w (EndPost w p lv hv wh a (endedE l)):=by
  rcases List.eq_nil_or_concat l with rfl|⟨init,x,rfl⟩
  · obtain ⟨A,cc,rfl⟩:=own_slice hl
    have h2:=h.cell 2
    have H:=Lib.hid h
    clear h hl
    go_enter Tryz.func31,Tryz.ntmps31
    go_wp2_with (fail)
    refine bodyPost_ret (results_none rfl _ _ _) rfl ?_
    exact ⟨rfl,H.out,Fr.refl _ _⟩
  · rw [List.concat_eq_append] at *
    obtain ⟨q,cap,rfl,at_⟩:=hl.at_ (by simp)
    have hlt:init.length<(init++[x]).length:=by simp
    have hx:(init++[x])[init.length]=x:=by simp
    have c0:w.cell? ⟨q,init.length * 5,none⟩=some (.string x.root):=by have:=at_.cell init.length 0 hlt (by omega);rw [hx] at this;exact this
    have c1:w.cell? ⟨q,init.length * 5+1,none⟩=some (.string x.version):=by have:=at_.cell init.length 1 hlt (by omega);rw [hx] at this;exact this
    have c2:w.cell? ⟨q,init.length * 5+2,none⟩=some (.string x.rev):=by have:=at_.cell init.length 2 hlt (by omega);rw [hx] at this;exact this
    have c3:w.cell? ⟨q,init.length * 5+3,none⟩=some (.string x.within):=by have:=at_.cell init.length 3 hlt (by omega);rw [hx] at this;exact this
    have c4:w.cell? ⟨q,init.length * 5+4,none⟩=some (.string x.source):=by have:=at_.cell init.length 4 hlt (by omega);rw [hx] at this;exact this
    have HI:∀ j k,(h:j<init.length)→k<5→w.cell? ⟨q,j * 5+k,none⟩=(init[j].cells)[k]?:=fun j k hj hk => by
      have:=at_.cell j k (by simp;omega) hk
      rwa [List.getElem_append_left hj] at this
    have HI:=Lib.hid HI
    have HA:=Lib.hid at_
    have HE:=Lib.hid (endedE_snoc init x)
    have hlen:(init++[x]).length=init.length+1:=by simp
    rw [hlen] at h ⊢
    have h2:=h.cell 2
    have hpl:p<w.heap.size:=Blk.lt h
    have hql:q<w.heap.size:=at_.lt
    have hcap:init.length+1≤cap:=by have:=at_.le;simp at this;omega
    have H:=Lib.hid h
    clear h hl at_ hlt hx hlen
    generalize endedE (init++[x])=E at *
    go_enter Tryz.func31,Tryz.ntmps31
    have hb:init.length≤39:=by simp at hn;omega
    clear hn
    cases hr:x.root.toList.isEmpty with
    | true =>
      rw [hr,Bool.true_or,if_pos rfl] at HE
      go_wp2_with (fail)
      refine (wrong_set _ p wh _ hv (H.out.alloc _) _ _).mono ?_
      rintro e w1 ⟨rfl,hr1,hf1⟩
      have HR1:=Lib.hid hr1
      have HF1:=Lib.hid hf1
      clear hr1 hf1
      go_wp2_with (fail)
      refine bodyPost_ret (results_none rfl _ _ _) rfl ?_
      exact EndPost.bad HE.out (by simp) HR1.out (((Fr.refl (·=p) w).alloc _).same HF1.out)
    | false =>
      rw [hr,Bool.false_or] at HE
      have tail:(x.rev.toList.isEmpty && x.version.toList.isEmpty)=false→True:=fun _ => trivial
      clear tail
      have HB0:=Lib.hid (contains_calls (w.alloc (.cells x.arr 43)) w.heap.size q cap x init (Blk.new w _ _) (fun j k hj hk => by
        have h1:=HI.out j k hj hk
        have h2:(init[j].cells)[k]?≠none:=by
          have:k<(init[j].cells).length:=hk
          simp [this]
        rw [← h1]
        exact World.cell?_alloc_past _ _ _ hql) (by omega))
      cases hw:x.rev.toList.isEmpty with
      | true =>
        cases hy:x.version.toList.isEmpty with
        | true =>
          rw [hw,hy,Bool.true_and,if_pos rfl] at HE
          go_wp2_with (fail)
          refine (wrong_set _ p wh _ hv (H.out.alloc _) _ _).mono ?_
          rintro e w1 ⟨rfl,hr1,hf1⟩
          have HR1:=Lib.hid hr1
          have HF1:=Lib.hid hf1
          clear hr1 hf1
          go_wp2_with (fail)
          refine bodyPost_ret (results_none rfl _ _ _) rfl ?_
          exact EndPost.bad HE.out (by simp) HR1.out (((Fr.refl (·=p) w).alloc _).same HF1.out)
        | false =>
          rw [hw,hy,Bool.true_and,if_neg (by simp)] at HE
          go_wp2_with (fail)
          refine HB0.out.mono ?_
          rintro e w1 ⟨rfl,hb1⟩
          have hr1:=(H.out.alloc (.cells x.arr 43)).below hb1
          have HF1:=Lib.hid (((Fr.refl (·=p) w).alloc (.cells x.arr 43)).same (Fr.of_below hb1))
          have HR1:=Lib.hid hr1
          clear hb1 hr1
          cases ha:init.any (fun z => z.root.toList == x.root.toList) with
          | true =>
            rw [ha,if_pos rfl] at HE
            go_wp2_with (fail)
            refine (wrong_set _ p wh _ hv HR1.out _ _).mono ?_
            rintro e w2 ⟨rfl,hr2,hf2⟩
            have HR2:=Lib.hid hr2
            have HF2:=Lib.hid hf2
            clear hr2 hf2
            go_wp2_with (fail)
            refine bodyPost_ret (results_none rfl _ _ _) rfl ?_
            exact EndPost.bad HE.out (by simp) HR2.out (HF1.out.same HF2.out)
          | false =>
            rw [ha,if_neg (by simp)] at HE
            go_wp2_with (fail)
            refine bodyPost_ret (results_none rfl _ _ _) rfl ?_
            exact EndPost.good HE.out HR1.out HF1.out
      | false =>
        rw [hw,Bool.false_and,if_neg (by simp)] at HE
        go_wp2_with (fail)
        refine HB0.out.mono ?_
        rintro e w1 ⟨rfl,hb1⟩
        have hr1:=(H.out.alloc (.cells x.arr 43)).below hb1
        have HF1:=Lib.hid (((Fr.refl (·=p) w).alloc (.cells x.arr 43)).same (Fr.of_below hb1))
        have HR1:=Lib.hid hr1
        clear hb1 hr1
        cases ha:init.any (fun z => z.root.toList == x.root.toList) with
        | true =>
          rw [ha,if_pos rfl] at HE
          go_wp2_with (fail)
          refine (wrong_set _ p wh _ hv HR1.out _ _).mono ?_
          rintro e w2 ⟨rfl,hr2,hf2⟩
          have HR2:=Lib.hid hr2
          have HF2:=Lib.hid hf2
          clear hr2 hf2
          go_wp2_with (fail)
          refine bodyPost_ret (results_none rfl _ _ _) rfl ?_
          exact EndPost.bad HE.out (by simp) HR2.out (HF1.out.same HF2.out)
        | false =>
          rw [ha,if_neg (by simp)] at HE
          go_wp2_with (fail)
          refine bodyPost_ret (results_none rfl _ _ _) rfl ?_
          exact EndPost.good HE.out HR1.out HF1.out
end
end Go.Proofs.YtjdjljgbfpkbdaaGreatDoor.Q
end
section
namespace Go.Proofs.YtjdjljgbfpkbdaaGreatDoor.Q
open Go.RowKit Go.Proofs.YtjdjljgbfpkbdaaGreatDoorW.PrintWords
theorem idx_call (s:ByteArray) (c:UInt8) (w:World) :
    Calls Tryz.prog 45 #[.string s,.int .u8 c.toNat] w fun e w' => e=.returned (.int .i64 (Lib.indexByte s.data.toList c))∧w'=w:=by
  have h:=Tryz.strings_IndexByte s (c.toNat:Int) w
  have e:((c.toNat:Int)).toNat.toUInt8=c:=by simp
  rw [e] at h
  exact h
theorem last_get (s:ByteArray) (h:0<s.size) (hne:s.data.toList≠[]):s.data.toList.getLast hne=s[s.size - 1]:=by
  rw [List.getLast_eq_getElem]
  rfl
theorem mayL_eq (s:ByteArray) (h:0<s.size):mayL s.data.toList=(decide (Lib.indexByte [34,32,35] s[0]<0) && (s[s.size - 1] != 32) && !Lib.contains s.data.toList [32,35] && !decide (0≤Lib.indexByte s.data.toList 10)):=by
  obtain ⟨⟨l⟩⟩:=s
  cases l with
  | nil => exact absurd h (by decide)
  | cons b t =>
    show (decide _ && ((b :: t).getLast _ != 32) && _ && _)=_
    rw [last_get ⟨⟨b :: t⟩⟩ h (by simp)]
    rfl
set_option maxHeartbeats 1000000 in
set_option maxRecDepth 100000 in
theorem may_calls (s:ByteArray) (w:World) (hs:s.size≤8000) (hG:GL w) :
    Calls Tryz.prog 21 #[.string s] w fun e w' => e=.returned (.bool (mayL s.data.toList))∧w'=w:=by
  obtain ⟨m,hm⟩:=hG.maxLen
  by_cases h0:0<s.size
  · have HI:=Lib.hid (idx_call ⟨#[34,32,35]⟩ s[0] w)
    have H1:=Lib.hid (Tryz.strings_Contains s ⟨#[32,35]⟩ m w (by omega) hm)
    have H2:=Lib.hid (Tryz.strings_Contains_one s 10 w)
    have HE:=Lib.hid (mayL_eq s h0)
    generalize mayL s.data.toList=R at *
    have hne:s.toList.isEmpty=false:=by
      rw [Lib.toList_data]
      obtain ⟨⟨l⟩⟩:=s
      cases l with
      | nil => exact absurd h0 (by decide)
      | cons b t => rfl
    clear hm hG
    generalize Lib.contains s.data.toList [32,35]=c1 at *
    generalize decide (0≤Lib.indexByte s.data.toList 10)=c2 at *
    generalize Lib.indexByte [34,32,35] s[0]=k at *
    have hz:IntKind.i64.wrap ((s.size:Int) - 1)=((s.size - 1:Nat):Int):=by rw [IntWalk.i64_in _ ⟨by omega,by omega⟩];omega
    go_enter Tryz.func21,Tryz.ntmps21
    go_wp2_with (fail)
    refine HI.out.mono ?_
    rintro e w1 ⟨rfl,rfl⟩
    by_cases hk:k<0
    · rw [decide_eq_true hk,Bool.true_and] at HE
      by_cases hl:s[s.size - 1]=32
      · have hx:((s[s.size - 1].toNat:Int))=32:=by rw [hl];rfl
        rw [hl] at HE
        go_wp2_with (fail)
        go_ret
        exact ⟨by rw [HE.out];rfl,rfl⟩
      · have hx:¬ ((s[s.size - 1].toNat:Int))=32:=fun e => hl (by apply UInt8.toNat.inj;have h10:(32:UInt8).toNat=32:=rfl;omega)
        have hy:(s[s.size - 1] != 32)=true:=by simpa using hl
        have HY:=Lib.hid (show (((s[s.size - 1].toNat:Int)) != 32)=true by simpa using hx)
        rw [hy,Bool.true_and] at HE
        clear hl hy
        go_wp2_with (fail)
        refine H1.out.mono ?_
        rintro e w2 ⟨rfl,rfl⟩
        cases c1 with
        | true =>
          go_wp2_with (fail)
          go_ret
          exact ⟨by rw [HE.out];rfl,rfl⟩
        | false =>
          go_wp2_with (fail)
          refine H2.out.mono ?_
          rintro e w2 ⟨rfl,rfl⟩
          go_wp2_with (fail)
          go_ret
          exact ⟨by rw [HE.out];show Ending.returned (Value.bool (_ && !c2))=_;rw [HY.out];rfl,rfl⟩
    · rw [decide_eq_false hk] at HE
      go_wp2_with (fail)
      go_ret
      exact ⟨by rw [HE.out];rfl,rfl⟩
  · have:s=⟨#[]⟩:=by
      obtain ⟨⟨l⟩⟩:=s
      cases l with
      | nil => rfl
      | cons b t => exact absurd (Nat.zero_lt_succ _) h0
    subst this
    clear hm hG
    go_enter Tryz.func21,Tryz.ntmps21
    go_wp2_with (fail)
    go_ret
    exact ⟨rfl,rfl⟩
set_option maxHeartbeats 1000000 in
set_option maxRecDepth 100000 in
theorem value_calls (s:ByteArray) (w:World) (hs:s.size≤8000) (hG:GL w) :
    Calls Tryz.prog 91 #[.string s] w fun e w' => e=.returned (.tuple #[.string (ofL (valueL s.data.toList).1),.bool (valueL s.data.toList).2])∧Below w.heap.size w w':=by
  have HU:=Lib.hid (unquote_calls w s (by omega))
  have HM:=fun w1 hG => Lib.hid (may_calls s w1 hs hG)
  have HV:Hid ((unq s.data.toList=none→valueL s.data.toList=(s.data.toList,mayL s.data.toList)) ∧
    ∀ out used,unq s.data.toList=some (out,used)→valueL s.data.toList=if used=s.size then (out,true) else (s.data.toList,mayL s.data.toList)):=Lib.hid (by
      refine ⟨fun h => ?_,fun out used h => ?_⟩
      · unfold valueL
        rw [h]
      · unfold valueL
        rw [h]
        simp)
  have HG:=Lib.hid hG
  have HO:=Lib.hid (ofL_of s)
  have hb:=fun r => unq_bound s.data.toList r
  have hz:s.data.toList.length=s.size:=by simp
  clear hG
  generalize valueL s.data.toList=V at *
  generalize mayL s.data.toList=M at *
  go_enter Tryz.func91,Tryz.ntmps91
  go_wp2_with (fail)
  refine HU.out.mono ?_
  rintro e w1 ⟨rfl,hb1⟩
  have HB:=Lib.hid hb1
  have HM1:=HM w1 (HG.out.below0 hb1)
  clear hb1 HM
  cases hu:unq s.data.toList with
  | none =>
    have HV:=Lib.hid (HV.out.1 hu)
    simp only [unqRes]
    clear hu hb
    go_wp2_with (fail)
    refine HM1.out.mono ?_
    rintro e w2 ⟨rfl,rfl⟩
    go_wp2_with (fail)
    go_ret2
    exact ⟨by rw [HV.out];show _=Ending.returned (.tuple #[.string (ofL s.data.toList),.bool M]);rw [HO.out];rfl,HB.out⟩
  | some r =>
    obtain ⟨out,used⟩:=r
    have hub:=(hb _ hu).1
    have HV:=Lib.hid (HV.out.2 _ _ hu)
    simp only [unqRes]
    clear hu hb
    simp only at hub
    by_cases he:used=s.size
    · rw [if_pos he] at HV
      have he':((used:Int))=(s.size:Int):=by omega
      go_wp2_with (fail)
      go_ret2
      exact ⟨by rw [HV.out];rfl,HB.out⟩
    · rw [if_neg he] at HV
      have he':¬ ((used:Int))=(s.size:Int):=by omega
      go_wp2_with (fail)
      refine HM1.out.mono ?_
      rintro e w2 ⟨rfl,rfl⟩
      go_wp2_with (fail)
      go_ret2
      exact ⟨by rw [HV.out];show _=Ending.returned (.tuple #[.string (ofL s.data.toList),.bool M]);rw [HO.out];rfl,HB.out⟩
theorem names_call (b1:Nat) (x:ByteArray) (w:World) (h:Blk w b1 9 #[.string wordRoot,.string wordVersion,.string wordRev,.string wordWithin,.string wordSource]) :
    Calls Tryz.prog 59 #[.slice (some ⟨b1,0,none⟩) 5 5,.string x] w fun e w' => e=.returned (.bool (Lib.containsS names x))∧w'=w :=
  Tryz.slices_Contains_string b1 0 5 5 names x w (by decide) (by decide) (by
    intro j hj
    have:=h.cell j
    rw [Nat.zero_add,this]
    have hj':j<5:=hj
    rcases j with _|_|_|_|_|j
    all_goals first|rfl|omega)
theorem below_alloc1 {w w':World} {o:Obj} (h:Below (w.alloc o).heap.size (w.alloc o) w'):Below w.heap.size w w' :=
  below_then ((Below.refl _ w).alloc (Nat.le_refl _) o) (by simp) h
def PairRel (x:List UInt8) (k v:ByteArray) (is:Bool):Prop:=match pairL x with|none => is=false|some (k',v') => is=true∧k=k'∧v=ofL v'
set_option maxHeartbeats 1000000 in
set_option maxRecDepth 100000 in
theorem pair_calls (x:ByteArray) (w:World) (hs:x.size≤8000) (hG:GL w) :
    Calls Tryz.prog 58 #[.string x] w fun e w' => ∃ k v is,e=.returned (.tuple #[.string k,.string v,.bool is])∧PairRel x.data.toList k v is∧Below w.heap.size w w':=by
  obtain ⟨m,hm⟩:=hG.maxLen
  have HC:=Lib.hid (Tryz.strings_Cut x ⟨#[58,32]⟩ m w (by omega) hm)
  have HP:Hid (∀ k v is,(if (Lib.cut x.data.toList [58,32]).2.2=true∧Lib.containsS names ⟨(Lib.cut x.data.toList [58,32]).1.toArray⟩=true then
      if (valueL (Lib.cut x.data.toList [58,32]).2.1).2=true then is=true∧k=⟨(Lib.cut x.data.toList [58,32]).1.toArray⟩∧v=ofL (valueL (Lib.cut x.data.toList [58,32]).2.1).1 else is=false else is=false)→PairRel x.data.toList k v is):=Lib.hid (by
    intro k v is h
    unfold PairRel pairL
    split at h
    · rename_i h1
      rw [if_pos h1]
      split at h
      · rename_i h2
        rw [if_pos h2]
        exact h
      · rename_i h2
        rw [if_neg h2]
        exact h
    · rename_i h1
      rw [if_neg h1]
      exact h)
  have hz:=(cut_len x.data.toList [58,32]).2
  have hxl:x.data.toList.length=x.size:=by simp
  have HG:=Lib.hid hG
  clear hG hm
  generalize hc:Lib.cut x.data.toList [58,32]=c at *
  obtain ⟨c1,c2,c3⟩:=c
  simp only at HC HP hz
  have HV:=fun w1 hG => Lib.hid (value_calls (ofL c2) w1 (by show c2.length≤8000;omega) hG)
  rw [ofL_data] at HV
  generalize valueL c2=V at *
  have HK:=fun b1 w h => Lib.hid (names_call b1 ⟨c1.toArray⟩ w h)
  generalize Lib.containsS names ⟨c1.toArray⟩=N at *
  clear hc hz
  go_enter Tryz.func58,Tryz.ntmps58
  go_wp2_with (fail)
  refine HC.out.mono ?_
  rintro e w1 ⟨rfl,n,rfl⟩
  go_wp2_with (fail)
  refine (fields_calls _ _ 0).mono ?_
  rintro e w4 ⟨b1,b2,rfl,hb1,hb2,hb12,hk1,hk2,hbl4⟩
  have hbl:Below w.heap.size w w4:=by
    have h:=below_alloc1 hbl4
    exact ⟨h.os,h.tape,h.output,h.size,h.block⟩
  have HB:=Lib.hid hbl
  have HK1:=HK b1 w4 hk1
  have HV1:=HV w4 (HG.out.below0 hbl)
  have hws:w.heap.size≤w4.heap.size:=hbl.size
  have HWS:=Lib.hid hws
  clear hbl4 hk1 hk2 hb1 hb2 hb12 HV HK hbl hws
  cases c3 with
  | false =>
    go_wp2_with (fail)
    go_ret3
    exact ⟨_,_,_,rfl,HP.out _ _ _ (by rw [if_neg (by simp)]),HB.out⟩
  | true =>
    go_wp2_with (fail)
    refine HK1.out.mono ?_
    rintro e w5 ⟨rfl,rfl⟩
    cases N with
    | false =>
      go_wp2_with (fail)
      go_ret3
      exact ⟨_,_,_,rfl,HP.out _ _ _ (by rw [if_neg (by simp)]),HB.out⟩
    | true =>
      go_wp2_with (fail)
      refine HV1.out.mono ?_
      rintro e w6 ⟨rfl,hb6⟩
      have HB6:=Lib.hid (below_then HB.out HWS.out hb6)
      clear hb6
      go_wp2_with (fail)
      go_ret3
      refine ⟨_,_,_,rfl,HP.out _ _ _ ?_,HB6.out⟩
      rw [if_pos (by simp)]
      obtain ⟨v,is⟩:=V
      cases is
      · rfl
      · rw [if_pos rfl]
        exact ⟨rfl,rfl,rfl⟩
theorem badAt_cons (b:UInt8) (t:List UInt8):badAt (b :: t)=if plainB b=true then (badAt t).map (·+1) else some 0:=rfl
theorem bad_at (s:ByteArray) (hs:s.size≤8000):∀ (d k i:Nat),s.size=i+d→d+2<k→R.dent_bad.l0 k s (s.size:Int) (i:Int)=some (match badAt (s.data.toList.drop i) with|some j => ((i+j:Nat):Int)|none => -1)
  | 0,k,i,hd,hk => by
    obtain ⟨k,rfl⟩:∃ m,k=m+1:=⟨k - 1,by omega⟩
    simp only [R.dent_bad.l0]
    rw [if_neg (by omega),List.drop_eq_nil_of_le (by simp;omega)]
    rfl
  | d+1,k,i,hd,hk => by
    obtain ⟨k,rfl⟩:∃ m,k=m+1:=⟨k - 1,by omega⟩
    have hi:i<s.size:=by omega
    have hw:wrap64 ((i:Int)+1)=((i+1:Nat):Int):=by unfold wrap64;omega
    have hx:(s.extract i (i+1)).data.toList=[s[i]]:=by
      rw [ByteArray.data_extract,Array.toList_extract,List.extract_eq_take_drop,drop_at s i hi]
      simp
    have hxs:(s.extract i (i+1)).size=1:=by rw [ByteArray.size_extract];omega
    have hp:R.text_Plain.f k (s.extract i (i+1))=some (plainB s[i]):=by
      have h:=plain_at (s.extract i (i+1)) (by omega) 1 k 0 (by omega) (by omega)
      rw [List.drop_zero,hx] at h
      refine Eq.trans h ?_
      simp
    simp only [R.dent_bad.l0]
    rw [if_pos (by omega),if_pos (by omega),hw,if_pos (by omega),if_pos (by omega),Int.toNat_natCast,Int.toNat_natCast,hp,Option.bind_some,drop_at s i hi]
    cases hpl:plainB s[i] with
    | true =>
      rw [if_pos rfl,bad_at s hs d k (i+1) (by omega) (by omega)]
      rw [badAt_cons,if_pos hpl]
      cases badAt (s.data.toList.drop (i+1)) with
      | none => rfl
      | some j => simp only [Option.map_some];congr 2;omega
    | false =>
      rw [if_neg (by simp)]
      rw [badAt_cons,if_neg (by rw [hpl];simp)]
      rfl
def badI (s:List UInt8):Int:=match badAt s with|some j => (j:Int)|none => -1
theorem bad_calls (s:ByteArray) (w:World) (hl:s.size≤8000) :
    Calls Tryz.prog 25 #[.string s] w fun e w' => e=.returned (.int .i64 (badI s.data.toList))∧Drawn0 w w':=by
  have h:=bad_at s hl s.size (s.size+3) 0 (by omega) (by omega)
  rw [List.drop_zero] at h
  have h2:=R.dent_bad.calls (s.size+3) s _ w h
  unfold badI
  simpa using h2
end Go.Proofs.YtjdjljgbfpkbdaaGreatDoor.Q
end
