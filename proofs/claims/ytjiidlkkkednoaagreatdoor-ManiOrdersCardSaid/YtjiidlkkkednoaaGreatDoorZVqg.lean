import Derived.Test.YtjiidlkkkednoaaGreatDoorZR0g
import Derived.Test.YtjiidlkkkednoaaGreatDoorZVsg
import Derived.Deep.CutBlock
set_option linter.unusedVariables false
set_option linter.unusedSimpArgs false
section
namespace Go.Proofs.YtjiidlkkkednoaaGreatDoor.Q
open Go.RowKit Go.Proofs.YtjiidlkkkednoaaGreatDoorW.PrintWords
set_option maxHeartbeats 800000 in
theorem slcut_calls (l:List UInt8) (c:UInt8) (b:Bool) (hb:l.contains c=b) (w:World) (hl:l.length≤140737488351232) :
    Calls Tryz.prog 105 #[.string (bs l),.string ⟨#[c]⟩] w fun e w' => e=.returned (.tuple #[.string (bs (cutL l c)),.string (bs (cutR l c)),.bool b])∧Drawn0 w w':=by
  have hi:∀ w,Calls Tryz.prog 126 #[.string (bs l),.string ⟨#[c]⟩] w fun e w' => e=.returned (.int .i64 (if l.contains c then ((cutL l c).length:Int) else -1))∧w=w':=by
    intro w
    have h:=Tryz.stringslite_Index_one (bs l) c w
    rw [data_bs,idx_span] at h
    exact h.mono fun _ _ h => ⟨h.1,h.2.symm⟩
  by_cases hc:l.contains c=true
  · obtain ⟨h1,h2,h3⟩:=cut_length l c hc
    obtain rfl:b=true:=hb.symm.trans hc
    clear hb
    have HI:∀ w,Hid (Calls Tryz.prog 126 #[.string (bs l),.string ⟨#[c]⟩] w fun e w' => e=.returned (.int .i64 ((cutL l c).length:Int))∧w=w'):=by
      intro w
      have:=hi w
      rw [if_pos hc] at this
      exact this
    have e1:ByteArray.extract (bs l) 0 (cutL l c).length=bs (cutL l c):=by rw [extract_bs,List.drop_zero,← h2]
    have e2:ByteArray.extract (bs l) ((cutL l c).length+1) (bs l).size=bs (cutR l c):=by rw [extract_bs,h3,List.take_of_length_le (by rw [size_bs];exact Nat.le_refl _)]
    have E1:=Lib.hid e1
    have E2:=Lib.hid e2
    have hz:(cutL l c).length<(bs l).size:=by rw [size_bs];exact h1
    have hz2:(bs l).size≤140737488351232:=by rw [size_bs];exact hl
    generalize (cutL l c).length=n at *
    clear hi hc h2 h3 e1 e2
    go_enter Tryz.func105,Tryz.ntmps105
    go_wp2_with (go_at_call 126;refine (HI _).out.mono ?_;rintro e w1 ⟨rfl,rfl⟩)
    go_quiet (fail)
    go_wp2
    go_ret3
    rw [E1.out,E2.out]
    exact ⟨rfl,⟨_,rfl⟩⟩
  · have hc':l.contains c=false:=by simpa using hc
    obtain ⟨h1,h2⟩:=cut_none l c hc'
    obtain rfl:b=false:=hb.symm.trans hc'
    clear hb
    rw [h1,h2]
    have HI:∀ w,Hid (Calls Tryz.prog 126 #[.string (bs l),.string ⟨#[c]⟩] w fun e w' => e=.returned (.int .i64 (-1))∧w=w'):=by
      intro w
      have:=hi w
      rw [if_neg hc] at this
      exact this
    clear hi hc hc' h1 h2
    go_enter Tryz.func105,Tryz.ntmps105
    go_wp2_with (go_at_call 126;refine (HI _).out.mono ?_;rintro e w1 ⟨rfl,rfl⟩)
    go_ret3
    exact ⟨rfl,Drawn0.refl _⟩
set_option maxHeartbeats 400000 in
theorem cut_calls (l:List UInt8) (c:UInt8) (b:Bool) (hb:l.contains c=b) (w:World) (hl:l.length≤140737488351232) :
    Calls Tryz.prog 70 #[.string (bs l),.string ⟨#[c]⟩] w fun e w' => e=.returned (.tuple #[.string (bs (cutL l c)),.string (bs (cutR l c)),.bool b])∧Drawn0 w w':=by
  have HB:=Lib.hid hb
  clear hb
  go_enter Tryz.func70,Tryz.ntmps70
  go_wp2_with (go_at_call 105;refine (slcut_calls l c b HB.out _ hl).mono ?_;rintro e w1 ⟨rfl,hd⟩)
  go_ret3
  exact ⟨rfl,hd⟩
end Go.Proofs.YtjiidlkkkednoaaGreatDoor.Q
end
section
namespace Go.Proofs.YtjiidlkkkednoaaGreatDoor.Q
open Go.RowKit Go.Proofs.YtjiidlkkkednoaaGreatDoorW.PrintWords
def numGo:List UInt8→Nat→Option Nat
  | [],n => some n
  | b :: l,n => if digitB b=true then numGo l (10 * n+(b.toNat - 48)) else none
def numL (l:List UInt8):Option Nat:=if l.length<1∨9<l.length∨(1<l.length∧l.head?=some 48) then none else numGo l 0
def numRes (o:Option Nat):Int × Bool:=match o with|some n => ((n:Int),true)|none => (0,false)
theorem num_l0 (s:ByteArray) (hs:s.size≤9):∀ (d k i n:Nat),i+d=s.size→d<k→n<10 ^ i→R.text_Number.l0 k s n s.size i=some (numRes (numGo (s.data.toList.drop i) n))
  | 0,k,i,n,hd,hk,hn => by
    obtain ⟨k,rfl⟩:∃ m,k=m+1:=⟨k - 1,by omega⟩
    rw [R.text_Number.l0.eq_2,if_neg (by omega),List.drop_eq_nil_of_le (by simp;omega)]
    rfl
  | d+1,k,i,n,hd,hk,hn => by
    obtain ⟨k,rfl⟩:∃ m,k=m+1:=⟨k - 1,by omega⟩
    have hi:i<s.size:=by omega
    have hw:wrap64 ((i:Int)+1)=((i+1:Nat):Int):=wrap_in (by omega) (by omega)
    have hp:10 ^ i≤10 ^ 8:=Nat.pow_le_pow_right (by decide) (by omega)
    rw [R.text_Number.l0.eq_2,if_pos (by omega),if_pos (by omega),if_pos (by omega),bt_int s i hi,drop_byte s i hi,hw]
    by_cases h1:(s[i].toNat:Int)<48
    · have:¬ digitB s[i]=true:=by rw [digit_int];omega
      rw [if_pos h1,numGo,if_neg this];rfl
    by_cases h2:(s[i].toNat:Int) > 57
    · have:¬ digitB s[i]=true:=by rw [digit_int];omega
      rw [if_neg h1,if_pos h2,numGo,if_neg this];rfl
    have hd1:digitB s[i]=true:=by rw [digit_int];omega
    rw [if_neg h1,if_neg h2,numGo,if_pos hd1]
    have e:wrap64 (wrap64 (10 * (n:Int))+(((s[i].toNat:Int) - 48) % 256))=((10 * n+(s[i].toNat - 48):Nat):Int):=by
      have a1:wrap64 (10 * (n:Int))=10 * n:=wrap_in (by omega) (by omega)
      rw [a1,wrap_in (by omega) (by omega)]
      omega
    rw [e]
    exact num_l0 s hs d k (i+1) _ (by omega) (by omega) (by rw [Nat.pow_succ];omega)
theorem num_f (s:ByteArray):R.text_Number.f 12 s=some (numRes (numL s.data.toList)):=by
  unfold R.text_Number.f numL
  have hl:s.data.toList.length=s.size:=rfl
  rw [hl]
  have j0:R.text_Number.j0 12 s true=some (numRes none):=rfl
  by_cases h1:(s.size:Int)<1
  · rw [if_pos h1,if_pos (by omega)];exact j0
  by_cases h2:(s.size:Int) > 9
  · rw [if_neg h1,if_pos h2,if_pos (by omega)];exact j0
  have go:R.text_Number.j0 12 s false=some (numRes (numGo s.data.toList 0)):=by
    rw [R.text_Number.j0.eq_2,if_neg (by simp)]
    have:=num_l0 s (by omega) s.size 11 0 0 (by omega) (by omega) (by decide)
    rw [List.drop_zero] at this
    exact this
  rw [if_neg h1,if_neg h2]
  by_cases h3:(s.size:Int) > 1
  · have hs0:0<s.size:=by omega
    have hh:s.data.toList.head?=some s[0]:=by
      have:=drop_byte s 0 hs0
      rw [List.drop_zero] at this
      rw [this];rfl
    rw [if_pos h3,if_pos (show 0<(s.size:Int) from by omega),show bt s 0=(s[0].toNat:Int) from bt_int s 0 hs0,hh]
    by_cases h4:s[0]=48
    · rw [h4,if_pos (by refine .inr (.inr ⟨by omega,rfl⟩))];exact j0
    · have:((s[0].toNat:Int) == 48)=false:=by
        have:s[0].toNat≠48:=fun e => h4 (by rw [← UInt8.toNat_inj];exact e)
        simp only [beq_eq_false_iff_ne,ne_eq]
        omega
      rw [this,if_neg (by rintro (h|h|⟨_,h⟩);omega;omega;exact h4 (Option.some.inj h))]
      exact go
  · rw [if_neg h3,if_neg (by rintro (h|h|⟨h,_⟩) <;> omega)]
    exact go
theorem num_calls (l:List UInt8) (w:World):Calls Tryz.prog 107 #[.string (bs l)] w fun e w' => e=.returned (.tuple #[.int .i64 (numRes (numL l)).1,.bool (numRes (numL l)).2])∧Drawn0 w w':=by
  have h:=num_f (bs l)
  rw [data_bs] at h
  exact R.text_Number.calls 12 (bs l) _ _ w h
theorem Below.alloc2' (w:World) (o o':Obj):Below w.heap.size w ((w.alloc o).alloc o') :=
  (((Fr.refl (fun _ => False) w).alloc o).alloc o').below (Nat.le_refl _) (fun _ h => h.elim)
structure Vr where
  a:Int
  b:Int
  c:Int
  p:List UInt8
def Vr.arr (v:Vr):Array Value:=#[.int .i64 v.a,.int .i64 v.b,.int .i64 v.c,.string (bs v.p)]
def rest0 (s:List UInt8):List UInt8:=Lib.trimPrefix s [118]
def numsL:List (List UInt8)→Option (Int × Int × Int)
  | [x,y,z] => match numL x with
    | none => none
    | some a => match numL y with
      | none => none
      | some b => match numL z with
        | none => none
        | some c => some ((a:Int),(b:Int),(c:Int))
  | _ => none
def parseV (s:List UInt8):Option Vr :=
  if Lib.hasPrefix s [118]=true∧¬ ((rest0 s).contains 45=true∧cutR (rest0 s) 45=[]) then
    match numsL (parts 46 (cutL (rest0 s) 45)) with
    | none => none
    | some (a,b,c) => if rightV a b c (cutR (rest0 s) 45)=true then some ⟨a,b,c,cutR (rest0 s) 45⟩ else none
  else none
def resV (o:Option Vr):Value:=match o with|some v => .tuple #[.agg v.arr,.bool true]|none => .tuple #[.agg #[.int .i64 0,.int .i64 0,.int .i64 0,.string ⟨#[]⟩],.bool false]
theorem results_ct {P:Program} {fn:Func} {p v:Tmp} {ty:TypeId} (h:fn.results=#[.cell p ty,.tmp v]) (tmps:Array Value) (w:World) (g:Nat) (t:TypeId) (cs:Array Value) (fr:Nat × Nat) (d:TypeDesc)
    (hp:tmps.getD p undef=.pointer (some ⟨g,0,none⟩)) (hg:w.heap[g]?=some (.cells cs t fr))
    (hu:P.underlying ty=some d) (hd:(match d with|.struct _|.array _ _ => true|_ => false)=true) (hi:(P.info? ty).map (·.size)=some cs.size) :
    (results fn tmps).run P w=.ok (.tuple #[.agg cs,tmps.getD v undef]) w:=by
  have hp':tmps[p]?.getD undef=.pointer (some ⟨g,0,none⟩):=by simpa using hp
  simp [results,h,hp',asAddr,run_loadVar_row w g t ty cs fr d hg hu hd hi]
theorem trim_len (s p:List UInt8):(Lib.trimPrefix s p).length≤s.length:=by
  unfold Lib.trimPrefix
  split
  · rw [List.length_drop];omega
  · exact Nat.le_refl _
theorem cutR_len (l:List UInt8) (c:UInt8):(cutR l c).length≤l.length:=by
  unfold cutR
  have:=(List.dropWhile_suffix (· != c) (l:=l)).length_le
  simp
  omega
theorem cutL_len (l:List UInt8) (c:UInt8):(cutL l c).length≤l.length:=by
  unfold cutL
  exact (List.takeWhile_prefix (· != c) (l:=l)).length_le
def zeroV:Array Value:=#[.int .i64 0,.int .i64 0,.int .i64 0,.string ⟨#[]⟩]
theorem numsL_len (l:List (List UInt8)) (h:l.length≠3):numsL l=none:=by
  unfold numsL
  split
  · simp at h
  · rfl
def numI (l:List UInt8):Int:=(numRes (numL l)).1
def cellsV (x y z:List UInt8) (j:Nat):Array Value:=#[.int .i64 (if 0<j then numI x else 0),.int .i64 (if 1<j then numI y else 0),.int .i64 (if 2<j then numI z else 0),.string ⟨#[]⟩]
theorem numsL_0 {x y z:List UInt8} (h:numL x=none):numsL [x,y,z]=none:=by simp only [numsL,h]
theorem numsL_1 {x y z:List UInt8} (h:numL y=none):numsL [x,y,z]=none:=by
  simp only [numsL,h]
  split <;> rfl
theorem numsL_2 {x y z:List UInt8} (h:numL z=none):numsL [x,y,z]=none:=by
  simp only [numsL,h]
  split
  · rfl
  · split <;> rfl
theorem numsL_3 {x y z:List UInt8} (hx:numL x≠none) (hy:numL y≠none) (hz:numL z≠none):numsL [x,y,z]=some (numI x,numI y,numI z):=by
  obtain ⟨a,ha⟩:=Option.ne_none_iff_exists'.1 hx
  obtain ⟨b,hb⟩:=Option.ne_none_iff_exists'.1 hy
  obtain ⟨c,hc⟩:=Option.ne_none_iff_exists'.1 hz
  simp only [numsL,ha,hb,hc,numI,numRes]
theorem num_fst {l:List UInt8} (h:numL l=none):(numRes (numL l))=(0,false):=by rw [h];rfl
theorem num_snd {l:List UInt8} (h:numL l≠none):(numRes (numL l)).2=true:=by
  obtain ⟨a,ha⟩:=Option.ne_none_iff_exists'.1 h
  rw [ha]
  rfl
def PPost (w:World) (R:Option Vr) (e:Ending) (w':World):Prop:=e=.returned (resV R)∧Below w.heap.size w w'
theorem ppost_none {w W:World} {R:Option Vr} {v:Value} (hv:v=.tuple #[.agg zeroV,.bool false]) (hR:R=none) (hb:Below w.heap.size w W):PPost w R (.returned v) W:=by
  subst hR hv
  exact ⟨rfl,hb⟩
def put4 (W:World) (B:Nat) (a b c d:Value):World:=(((W.setCell ⟨B,0,none⟩ a).setCell ⟨B,1,none⟩ b).setCell ⟨B,2,none⟩ c).setCell ⟨B,3,none⟩ d
theorem put4_blk {W:World} {B:Nat} {t:TypeId} {x0 x1 x2 x3:Value} (h:Blk W B t #[x0,x1,x2,x3]) (a b c d:Value):Blk (put4 W B a b c d) B t #[a,b,c,d]:=(((h.put 0 a).put 1 b).put 2 c).put 3 d
theorem put4_below {w W:World} {B:Nat} (hb:Below w.heap.size w W) (hB:w.heap.size≤B) (a b c d:Value):Below w.heap.size w (put4 W B a b c d):=by
  refine hb.trans (Fr.below (S:=(·=B)) ?_ hb.size (fun k hk => by rw [hk];exact hB))
  exact ((((Fr.refl (·=B) W).put (p:=⟨B,0,none⟩) (.inl rfl) a).put (p:=⟨B,1,none⟩) (.inl rfl) b).put (p:=⟨B,2,none⟩) (.inl rfl) c).put (p:=⟨B,3,none⟩) (.inl rfl) d
theorem put1_below {w W:World} (hb:Below w.heap.size w W) {p:Addr} (hp:w.heap.size≤p.block) (u:Value):Below w.heap.size w (W.setCell p u) :=
  hb.trans (Fr.below (S:=(·=p.block)) ((Fr.refl (·=p.block) W).put (.inl rfl) u) hb.size (fun k hk => by rw [hk];exact hp))
theorem StrsAt.put {w:World} {q:Nat} {l:List (List UInt8)} (h:StrsAt w q l) (p:Addr) (hp:q≠p.block) (u:Value):StrsAt (w.setCell p u) q l:=fun j hj => by
  have h2:=h j hj
  simp only [World.cell?] at h2 ⊢
  rw [Below.heap_setCell w p u q hp]
  exact h2
section
variable (w:World)
set_option maxHeartbeats 4000000 in
set_option maxRecDepth 100000 in
theorem parse_calls (s:ByteArray) (hs:s.size≤900000) (hG:GL w) :
    Calls Tryz.prog 72 #[.string s] w (PPost w (parseV s.data.toList)):=by
  have HP:=Lib.hid (show parseV s.data.toList=if Lib.hasPrefix s.data.toList [118]=true∧¬ ((rest0 s.data.toList).contains 45=true∧cutR (rest0 s.data.toList) 45=[]) then
    (match numsL (parts 46 (cutL (rest0 s.data.toList) 45)) with
    | none => none
    | some (a,b,c) => if rightV a b c (cutR (rest0 s.data.toList) 45)=true then some ⟨a,b,c,cutR (rest0 s.data.toList) 45⟩ else none)
  else none from rfl)
  generalize parseV s.data.toList=R at *
  have hcp:∀ w,Calls Tryz.prog 106 #[.string s,.string ⟨#[118]⟩] w fun e w' => e=.returned (.tuple #[.string (bs (rest0 s.data.toList)),.bool (Lib.hasPrefix s.data.toList [118])])∧w=w':=fun w => (Tryz.strings_CutPrefix s ⟨#[118]⟩ w).mono fun _ _ h => ⟨h.1,h.2.symm⟩
  have hrl:(rest0 s.data.toList).length≤900000:=Nat.le_trans (trim_len s.data.toList [118]) hs
  have HCP:=Lib.hid hcp
  clear hcp
  generalize Lib.hasPrefix s.data.toList [118]=is at *
  generalize rest0 s.data.toList=rest at *
  have HG:=Lib.hid hG
  clear hG
  have hcl:=Nat.le_trans (cutL_len rest 45) hrl
  have hcr:=Nat.le_trans (cutR_len rest 45) hrl
  have HCUT:=Lib.hid (fun w => cut_calls rest 45 _ rfl w (by omega))
  generalize rest.contains 45=b at *
  generalize cutL rest 45=p at *
  generalize cutR rest 45=q at *
  go_enter Tryz.func72,Tryz.ntmps72
  go_wp2_with (fail)
  refine (HCP.out _).mono ?_
  rintro e w1 ⟨rfl,rfl⟩
  go_wp2_with (fail)
  refine (HCUT.out _).mono ?_
  rintro e w1 ⟨rfl,n1,rfl⟩
  clear HCUT HCP
  have hb0:Below w.heap.size w ((w.alloc (.cells #[.int .i64 0,.int .i64 0,.int .i64 0,.string ⟨#[]⟩] 43)).alloc (.cells #[.int .i64 0,.int .i64 0,.int .i64 0,.string ⟨#[]⟩] 43)):=Below.alloc2' w _ _
  have HG1:=Lib.hid (HG.out.below0 hb0)
  have HB0:=Lib.hid hb0
  clear hb0
  go_wp2_with (fail)
  refine (split_calls _ (bs p) 46 (by rw [size_bs];omega) (by exact HG1.out.drewN _)).mono ?_
  rintro e W ⟨rfl,hW⟩
  have hsz:((w.alloc (.cells #[.int .i64 0,.int .i64 0,.int .i64 0,.string ⟨#[]⟩] 43)).alloc (.cells #[.int .i64 0,.int .i64 0,.int .i64 0,.string ⟨#[]⟩] 43)).heap.size=w.heap.size+2:=by simp
  have hsz2:((((w.alloc (.cells #[.int .i64 0,.int .i64 0,.int .i64 0,.string ⟨#[]⟩] 43)).alloc (.cells #[.int .i64 0,.int .i64 0,.int .i64 0,.string ⟨#[]⟩] 43))).drewN n1).heap.size=w.heap.size+2:=hsz
  have hr:Blk W w.heap.size 43 #[.int .i64 0,.int .i64 0,.int .i64 0,.string ⟨#[]⟩]:=by
    rw [hW]
    exact ((((Blk.new w 43 #[.int .i64 0,.int .i64 0,.int .i64 0,.string ⟨#[]⟩]).alloc _).drewN n1).alloc _)
  have hv:Blk W (w.heap.size+1) 43 #[.int .i64 0,.int .i64 0,.int .i64 0,.string ⟨#[]⟩]:=by
    rw [hW]
    have h1:=Blk.new (w.alloc (.cells #[.int .i64 0,.int .i64 0,.int .i64 0,.string ⟨#[]⟩] 43)) 43 #[.int .i64 0,.int .i64 0,.int .i64 0,.string ⟨#[]⟩]
    have e1:(w.alloc (.cells #[.int .i64 0,.int .i64 0,.int .i64 0,.string ⟨#[]⟩] 43)).heap.size=w.heap.size+1:=by simp
    rw [e1] at h1
    exact (h1.drewN n1).alloc _
  have hl:StrsAt W (w.heap.size+2) (parts 46 p):=by
    rw [hW]
    have h1:=StrsAt.new (((w.alloc (.cells #[.int .i64 0,.int .i64 0,.int .i64 0,.string ⟨#[]⟩] 43)).alloc (.cells #[.int .i64 0,.int .i64 0,.int .i64 0,.string ⟨#[]⟩] 43)).drewN n1) (parts 46 (bs p).data.toList) 9
    rw [hsz2,data_bs] at h1
    rw [data_bs]
    exact h1
  have hbw:Below w.heap.size w W:=by
    rw [hW]
    exact (below_dr HB0.out n1).alloc (by rw [hsz2];omega) _
  have hwz:W.heap.size=w.heap.size+3:=by
    rw [hW]
    simp
  have hgw:GL W:=HG.out.below0 hbw
  rw [data_bs]
  rw [hsz2]
  clear hW hsz hsz2 HB0 HG1
  obtain ⟨B,hB⟩:∃ B,B=w.heap.size:=⟨_,rfl⟩
  rw [← hB] at hr hv hl hwz ⊢
  have HBE:=Lib.hid hB
  clear hB
  have HR:=Lib.hid hr
  have HV:=Lib.hid hv
  have HL:=Lib.hid hl
  have HBW:=Lib.hid hbw
  have HWZ:=Lib.hid hwz
  have HGW:=Lib.hid hgw
  clear hr hv hl hbw hwz hgw
  have k0:=HR.out.cell 0
  have k1:=HR.out.cell 1
  have k2:=HR.out.cell 2
  have k3:=HR.out.cell 3
  have f0:=HR.out.unfrozen 0
  have f1:=HR.out.unfrozen 1
  have f2:=HR.out.unfrozen 2
  have f3:=HR.out.unfrozen 3
  have hLlen:=parts_len 46 p
  have HLE:=Lib.hid (parts_each 46 p)
  generalize parts 46 p=L at *
  cases is with
  | false =>
    have HP2:=Lib.hid (HP.out.trans (if_neg (by simp)))
    go_wp2_with (fail)
    refine bodyPost_ret (results_ct rfl _ _ B 43 zeroV (0,0) _ rfl (put4_blk HR.out _ _ _ _) Tryz.underlying43 rfl (by kernel_rfl)) rfl ?_
    exact ppost_none rfl HP2.out (put4_below HBW.out (Nat.le_of_eq HBE.out.symm) _ _ _ _)
  | true =>
    by_cases h3:L.length=3
    · obtain ⟨x,y,z,rfl⟩:∃ x y z,L=[x,y,z]:=by
        match L,h3 with
        | [x,y,z],_ => exact ⟨x,y,z,rfl⟩
      clear h3
      by_cases hq:b=true∧q=[]
      · obtain ⟨rfl,rfl⟩:=hq
        have hqe:(bs ([]:List UInt8)).toList.isEmpty=true:=by rw [toList_bs];rfl
        have HP2:=Lib.hid (HP.out.trans (if_neg (by simp)))
        go_wp2_with (fail)
        refine bodyPost_ret (results_ct rfl _ _ B 43 zeroV (0,0) _ rfl (put4_blk HR.out _ _ _ _) Tryz.underlying43 rfl (by kernel_rfl)) rfl ?_
        exact ppost_none rfl HP2.out (put4_below HBW.out (Nat.le_of_eq HBE.out.symm) _ _ _ _)
      · have HP2:=Lib.hid (HP.out.trans (if_pos ⟨rfl,hq⟩))
        have hq2:b=false∨(b=true∧(bs q).toList.isEmpty=false):=by
          cases b with
          | false => exact .inl rfl
          | true =>
            refine .inr ⟨rfl,?_⟩
            rw [toList_bs]
            cases q with
            | nil => exact absurd ⟨rfl,rfl⟩ hq
            | cons => rfl
        clear hq
        rcases hq2 with rfl|⟨rfl,hqe⟩
        all_goals
          have hv1:=HV.out.alloc (.cells #[.pointer (some ⟨B+1,0,none⟩),.pointer (some ⟨B+1,1,none⟩),.pointer (some ⟨B+1,2,none⟩)] 119)
          have hr1:=HR.out.alloc (.cells #[.pointer (some ⟨B+1,0,none⟩),.pointer (some ⟨B+1,1,none⟩),.pointer (some ⟨B+1,2,none⟩)] 119)
          have hl1:=HL.out.below ((Below.refl _ W).alloc (Nat.le_refl _) (.cells #[.pointer (some ⟨B+1,0,none⟩),.pointer (some ⟨B+1,1,none⟩),.pointer (some ⟨B+1,2,none⟩)] 119)) (by have:=HWZ.out;omega)
          have ha1:=Blk.new W 119 #[.pointer (some ⟨B+1,0,none⟩),.pointer (some ⟨B+1,1,none⟩),.pointer (some ⟨B+1,2,none⟩)]
          have hbw1:=HBW.out.alloc HBW.out.size (.cells #[.pointer (some ⟨B+1,0,none⟩),.pointer (some ⟨B+1,1,none⟩),.pointer (some ⟨B+1,2,none⟩)] 119)
          rw [HWZ.out] at ha1
          have HV1:=Lib.hid hv1
          have HR1:=Lib.hid hr1
          have HL1:=Lib.hid hl1
          have HA1:=Lib.hid ha1
          have HBW1:=Lib.hid hbw1
          clear hv1 hr1 hl1 ha1 hbw1 k0 k1 k2 k3 f0 f1 f2 f3
          clear HV HL HR HBW
          go_wp2_with (fail)
          rw [HWZ.out]
          go_loopg [6,45] (3) (fun q' b6 i wr => ∃ j:Nat,q'=3 - j∧j≤3∧i=.int .i64 j∧b6=.bool true∧(0<j→numL x≠none)∧(1<j→numL y≠none)∧(2<j→numL z≠none)
            ∧ Blk wr (B+1) 43 (cellsV x y z j)∧Blk wr B 43 #[.int .i64 0,.int .i64 0,.int .i64 0,.string ⟨#[]⟩]∧StrsAt wr (B+2) [x,y,z]∧Blk wr (B+3) 119 #[.pointer (some ⟨B+1,0,none⟩),.pointer (some ⟨B+1,1,none⟩),.pointer (some ⟨B+1,2,none⟩)]∧Below w.heap.size w wr)
          case atStart => exact ⟨0,rfl,by omega,rfl,rfl,by simp,by simp,by simp,HV1.out,HR1.out,HL1.out,HA1.out,HBW1.out⟩
          case round =>
            obtain ⟨j,rfl,hj,rfl,rfl,hn0,hn1,hn2,hv,hr,hl,ha,hb⟩:=hrel
            have hbz:B+4≤wr.heap.size:=by have:=ha.lt;omega
            have hj4:j=0∨j=1∨j=2∨j=3:=by omega
            clear hj HV1 HR1 HL1 HA1 HBW1
            rcases hj4 with rfl|rfl|rfl|rfl
            · have c0:wr.cell? ⟨B+3,0,none⟩=some (.pointer (some ⟨B+1,0,none⟩)):=ha.cell 0
              have c1:wr.cell? ⟨B+2,0,none⟩=some (.string (bs x)):=hl 0 (by simp)
              have hbl:=hb
              have HRj:=Lib.hid hr
              have HVj:=Lib.hid hv
              have HLj:=Lib.hid hl
              have HAj:=Lib.hid ha
              have HBj:=Lib.hid hb
              have HNj:=Lib.hid (And.intro hn0 (And.intro hn1 hn2))
              clear hr hv hl ha hb hbl hn0 hn1 hn2
              go_wp2_with (fail)
              refine (num_calls x _).mono ?_
              rintro e w2 ⟨rfl,n2,rfl⟩
              have v0:=(HVj.out.drewN n2).cell 0
              have v1:=(HVj.out.drewN n2).unfrozen 0
              have r0:=(HRj.out.drewN n2).cell 0
              have r1:=(HRj.out.drewN n2).cell 1
              have r2:=(HRj.out.drewN n2).cell 2
              have r3:=(HRj.out.drewN n2).cell 3
              have s0:=(HRj.out.drewN n2).unfrozen 0
              have s1:=(HRj.out.drewN n2).unfrozen 1
              have s2:=(HRj.out.drewN n2).unfrozen 2
              have s3:=(HRj.out.drewN n2).unfrozen 3
              by_cases hnone:numL x=none
              · have HPN:=Lib.hid (show R=none from by rw [HP2.out,numsL_0 hnone])
                rw [num_fst hnone]
                clear hnone
                go_wp2_with (fail)
                refine bodyPost_ret (results_ct rfl _ _ B 43 zeroV (0,0) _ rfl (put4_blk ((HRj.out.drewN n2).far (p:=⟨B+1,0,none⟩) (by simp) _) _ _ _ _) Tryz.underlying43 rfl (by kernel_rfl)) rfl ?_
                exact ppost_none rfl HPN.out (put4_below (put1_below (below_dr HBj.out n2) (by have:=HBE.out;show w.heap.size≤B+1;omega) _) (Nat.le_of_eq HBE.out.symm) _ _ _ _)
              · have hs:=num_snd hnone
                have hI:numI x=(numRes (numL x)).1:=rfl
                generalize numRes (numL x)=o at *
                obtain ⟨o1,o2⟩:=o
                obtain rfl:o2=true:=hs
                have HI:=Lib.hid (show numI x=o1 from hI)
                clear hI hs
                have HNN:=Lib.hid hnone
                clear hnone
                go_wp2_with (fail)
                go_roundg (2)
                case measure => omega
                case rel =>
                  refine ⟨1,rfl,by omega,rfl,rfl,fun _ => HNN.out,fun h => by omega,fun h => by omega,?_,(HRj.out.drewN n2).far (p:=⟨B+1,0,none⟩) (by simp) _,(HLj.out.drewN n2).put _ (by simp) _,(HAj.out.drewN n2).far (p:=⟨B+1,0,none⟩) (by simp) _,put1_below (below_dr HBj.out n2) (by have:=HBE.out;show w.heap.size≤B+1;omega) _⟩
                  have:=(HVj.out.drewN n2).put 0 (.int .i64 o1)
                  rw [← HI.out] at this ⊢
                  exact this
            · have c0:wr.cell? ⟨B+3,1,none⟩=some (.pointer (some ⟨B+1,1,none⟩)):=ha.cell 1
              have c1:wr.cell? ⟨B+2,1,none⟩=some (.string (bs y)):=hl 1 (by simp)
              have hbl:=hb
              have HRj:=Lib.hid hr
              have HVj:=Lib.hid hv
              have HLj:=Lib.hid hl
              have HAj:=Lib.hid ha
              have HBj:=Lib.hid hb
              have HNj:=Lib.hid (And.intro hn0 (And.intro hn1 hn2))
              clear hr hv hl ha hb hbl hn0 hn1 hn2
              go_wp2_with (fail)
              refine (num_calls y _).mono ?_
              rintro e w2 ⟨rfl,n2,rfl⟩
              have v0:=(HVj.out.drewN n2).cell 1
              have v1:=(HVj.out.drewN n2).unfrozen 1
              have r0:=(HRj.out.drewN n2).cell 0
              have r1:=(HRj.out.drewN n2).cell 1
              have r2:=(HRj.out.drewN n2).cell 2
              have r3:=(HRj.out.drewN n2).cell 3
              have s0:=(HRj.out.drewN n2).unfrozen 0
              have s1:=(HRj.out.drewN n2).unfrozen 1
              have s2:=(HRj.out.drewN n2).unfrozen 2
              have s3:=(HRj.out.drewN n2).unfrozen 3
              by_cases hnone:numL y=none
              · have HPN:=Lib.hid (show R=none from by rw [HP2.out,numsL_1 hnone])
                rw [num_fst hnone]
                clear hnone
                go_wp2_with (fail)
                refine bodyPost_ret (results_ct rfl _ _ B 43 zeroV (0,0) _ rfl (put4_blk ((HRj.out.drewN n2).far (p:=⟨B+1,1,none⟩) (by simp) _) _ _ _ _) Tryz.underlying43 rfl (by kernel_rfl)) rfl ?_
                exact ppost_none rfl HPN.out (put4_below (put1_below (below_dr HBj.out n2) (by have:=HBE.out;show w.heap.size≤B+1;omega) _) (Nat.le_of_eq HBE.out.symm) _ _ _ _)
              · have hs:=num_snd hnone
                have hI:numI y=(numRes (numL y)).1:=rfl
                generalize numRes (numL y)=o at *
                obtain ⟨o1,o2⟩:=o
                obtain rfl:o2=true:=hs
                have HI:=Lib.hid (show numI y=o1 from hI)
                clear hI hs
                have HNN:=Lib.hid hnone
                clear hnone
                go_wp2_with (fail)
                go_roundg (1)
                case measure => omega
                case rel =>
                  refine ⟨2,rfl,by omega,rfl,rfl,fun _ => HNj.out.1 (by omega),fun _ => HNN.out,fun h => by omega,?_,(HRj.out.drewN n2).far (p:=⟨B+1,1,none⟩) (by simp) _,(HLj.out.drewN n2).put _ (by simp) _,(HAj.out.drewN n2).far (p:=⟨B+1,1,none⟩) (by simp) _,put1_below (below_dr HBj.out n2) (by have:=HBE.out;show w.heap.size≤B+1;omega) _⟩
                  have:=(HVj.out.drewN n2).put 1 (.int .i64 o1)
                  rw [← HI.out] at this ⊢
                  exact this
            · have c0:wr.cell? ⟨B+3,2,none⟩=some (.pointer (some ⟨B+1,2,none⟩)):=ha.cell 2
              have c1:wr.cell? ⟨B+2,2,none⟩=some (.string (bs z)):=hl 2 (by simp)
              have hbl:=hb
              have HRj:=Lib.hid hr
              have HVj:=Lib.hid hv
              have HLj:=Lib.hid hl
              have HAj:=Lib.hid ha
              have HBj:=Lib.hid hb
              have HNj:=Lib.hid (And.intro hn0 (And.intro hn1 hn2))
              clear hr hv hl ha hb hbl hn0 hn1 hn2
              go_wp2_with (fail)
              refine (num_calls z _).mono ?_
              rintro e w2 ⟨rfl,n2,rfl⟩
              have v0:=(HVj.out.drewN n2).cell 2
              have v1:=(HVj.out.drewN n2).unfrozen 2
              have r0:=(HRj.out.drewN n2).cell 0
              have r1:=(HRj.out.drewN n2).cell 1
              have r2:=(HRj.out.drewN n2).cell 2
              have r3:=(HRj.out.drewN n2).cell 3
              have s0:=(HRj.out.drewN n2).unfrozen 0
              have s1:=(HRj.out.drewN n2).unfrozen 1
              have s2:=(HRj.out.drewN n2).unfrozen 2
              have s3:=(HRj.out.drewN n2).unfrozen 3
              by_cases hnone:numL z=none
              · have HPN:=Lib.hid (show R=none from by rw [HP2.out,numsL_2 hnone])
                rw [num_fst hnone]
                clear hnone
                go_wp2_with (fail)
                refine bodyPost_ret (results_ct rfl _ _ B 43 zeroV (0,0) _ rfl (put4_blk ((HRj.out.drewN n2).far (p:=⟨B+1,2,none⟩) (by simp) _) _ _ _ _) Tryz.underlying43 rfl (by kernel_rfl)) rfl ?_
                exact ppost_none rfl HPN.out (put4_below (put1_below (below_dr HBj.out n2) (by have:=HBE.out;show w.heap.size≤B+1;omega) _) (Nat.le_of_eq HBE.out.symm) _ _ _ _)
              · have hs:=num_snd hnone
                have hI:numI z=(numRes (numL z)).1:=rfl
                generalize numRes (numL z)=o at *
                obtain ⟨o1,o2⟩:=o
                obtain rfl:o2=true:=hs
                have HI:=Lib.hid (show numI z=o1 from hI)
                clear hI hs
                have HNN:=Lib.hid hnone
                clear hnone
                go_wp2_with (fail)
                go_roundg (0)
                case measure => omega
                case rel =>
                  refine ⟨3,rfl,by omega,rfl,rfl,fun _ => HNj.out.1 (by omega),fun _ => HNj.out.2.1 (by omega),fun _ => HNN.out,?_,(HRj.out.drewN n2).far (p:=⟨B+1,2,none⟩) (by simp) _,(HLj.out.drewN n2).put _ (by simp) _,(HAj.out.drewN n2).far (p:=⟨B+1,2,none⟩) (by simp) _,put1_below (below_dr HBj.out n2) (by have:=HBE.out;show w.heap.size≤B+1;omega) _⟩
                  have:=(HVj.out.drewN n2).put 2 (.int .i64 o1)
                  rw [← HI.out] at this ⊢
                  exact this
            · have HP3:=Lib.hid (show R=if rightV (numI x) (numI y) (numI z) q=true then some ⟨numI x,numI y,numI z,q⟩ else none from by
                rw [HP2.out,numsL_3 (hn0 (by omega)) (hn1 (by omega)) (hn2 (by omega))])
              have hv3:Blk wr (B+1) 43 #[.int .i64 (numI x),.int .i64 (numI y),.int .i64 (numI z),.string ⟨#[]⟩]:=hv
              have HRj:=Lib.hid hr
              have HVj:=Lib.hid hv3
              have HBj:=Lib.hid hb
              have hqz:(bs q).size≤281474976710656:=by rw [size_bs];omega
              have HCL:=Lib.hid (strings_Clone.calls (bs q) (bs q) wr (by unfold strings_Clone.f;rw [if_pos hqz]))
              clear hr hv hl ha hb hv3 hn0 hn1 hn2
              generalize numI x=nx at *
              generalize numI y=ny at *
              generalize numI z=nz at *
              go_wp2_with (fail)
              refine HCL.out.mono ?_
              rintro e w2 ⟨rfl,hb2⟩
              have HV2:=Lib.hid (HVj.out.below hb2)
              have HR2:=Lib.hid (HRj.out.below hb2)
              have HB2:=Lib.hid (below_then HBj.out HBj.out.size hb2)
              have v0:=HV2.out.cell 0
              have v1:=HV2.out.cell 1
              have v2:=HV2.out.cell 2
              have v3:=HV2.out.cell 3
              have v4:=HV2.out.unfrozen 3
              clear hb2
              have HB3:=Lib.hid (put1_below (p:=⟨B+1,3,none⟩) HB2.out (by have:=HBE.out;show w.heap.size≤B+1;omega) (.string (bs q)))
              have HV3:=Lib.hid (HV2.out.put 3 (.string (bs q)))
              have HR3:=Lib.hid (HR2.out.far (p:=⟨B+1,3,none⟩) (by simp) (.string (bs q)))
              have HRC:=Lib.hid (right_calls (w2.setCell ⟨B+1,3,none⟩ (.string (bs q))) nx ny nz (bs q) (by rw [size_bs];omega) (HG.out.below0 HB3.out))
              rw [data_bs] at HRC
              go_wp2_with (fail)
              refine HRC.out.mono ?_
              rintro e w3 ⟨rfl,hb3⟩
              have HB4:=Lib.hid (below_then HB3.out HB3.out.size hb3)
              have hv4:=HV3.out.below hb3
              have hr4:=HR3.out.below hb3
              have r0:=hr4.cell 0
              have r1:=hr4.cell 1
              have r2:=hr4.cell 2
              have r3:=hr4.cell 3
              have s0:=hr4.unfrozen 0
              have s1:=hr4.unfrozen 1
              have s2:=hr4.unfrozen 2
              have s3:=hr4.unfrozen 3
              have t0:=hv4.cell 0
              have t1:=hv4.cell 1
              have t2:=hv4.cell 2
              have t3:=hv4.cell 3
              have HR4:=Lib.hid hr4
              clear hb3 hv4 hr4
              cases hrt:rightV nx ny nz q with
              | false =>
                rw [hrt,if_neg (by simp)] at HP3
                have HRT:=Lib.hid hrt
                clear hrt
                go_wp2_with (fail)
                refine bodyPost_ret (results_ct rfl _ _ B 43 zeroV (0,0) _ rfl (put4_blk HR4.out _ _ _ _) Tryz.underlying43 rfl (by kernel_rfl)) rfl ?_
                exact ppost_none rfl HP3.out (put4_below HB4.out (Nat.le_of_eq HBE.out.symm) _ _ _ _)
              | true =>
                rw [hrt,if_pos rfl] at HP3
                have HRT:=Lib.hid hrt
                clear hrt
                go_wp2_with (fail)
                refine bodyPost_ret (results_ct rfl _ _ B 43 #[.int .i64 nx,.int .i64 ny,.int .i64 nz,.string (bs q)] (0,0) _ rfl (put4_blk HR4.out _ _ _ _) Tryz.underlying43 rfl (by kernel_rfl)) rfl ?_
                refine ⟨?_,put4_below HB4.out (Nat.le_of_eq HBE.out.symm) _ _ _ _⟩
                rw [HP3.out]
                rfl
    · have hne:((L.length:Int) != 3)=true:=by simp only [bne_iff_ne,ne_eq];omega
      have HP2:=Lib.hid (show R=none from by rw [HP.out,numsL_len L h3];split <;> rfl)
      have H3:=Lib.hid h3
      clear h3
      go_wp2_with (fail)
      refine bodyPost_ret (results_ct rfl _ _ B 43 zeroV (0,0) _ rfl (put4_blk HR.out _ _ _ _) Tryz.underlying43 rfl (by kernel_rfl)) rfl ?_
      exact ppost_none rfl HP2.out (put4_below HBW.out (Nat.le_of_eq HBE.out.symm) _ _ _ _)
end
end Go.Proofs.YtjiidlkkkednoaaGreatDoor.Q
end
section
namespace Go.Proofs.YtjiidlkkkednoaaGreatDoor.Q
open Go.RowKit Go.Proofs.YtjiidlkkkednoaaGreatDoorW.PrintWords
def verOut (o:Option Vr):Int × Int × Int × ByteArray × Bool:=match o with|some v => (v.a,v.b,v.c,bs v.p,true)|none => (0,0,0,⟨#[]⟩,false)
def ver_Parse.f (a0:ByteArray):Option (Int × Int × Int × ByteArray × Bool):=if a0.size≤900000 then some (verOut (parseV a0.data.toList)) else none
theorem ver_Parse.calls (a0:ByteArray) (r1:Int) (r2:Int) (r3:Int) (r4:ByteArray) (r5:Bool) (w:World) (hG:GL w) (h:ver_Parse.f a0=some (r1,r2,r3,r4,r5)) :
    Calls Tryz.prog 72 #[.string a0] w fun e w' => e=.returned (.tuple #[.agg #[.int .i64 r1,.int .i64 r2,.int .i64 r3,.string r4],.bool r5])∧Below w.heap.size w w':=by
  unfold ver_Parse.f at h
  split at h
  · next hs =>
    have he:=Option.some.inj h
    refine (parse_calls w a0 hs hG).mono ?_
    rintro e w' ⟨rfl,hb⟩
    refine ⟨?_,hb⟩
    cases hp:parseV a0.data.toList with
    | none =>
      rw [hp] at he
      simp only [verOut,Prod.mk.injEq] at he
      obtain ⟨rfl,rfl,rfl,rfl,rfl⟩:=he
      rfl
    | some v =>
      rw [hp] at he
      simp only [verOut,Prod.mk.injEq] at he
      obtain ⟨rfl,rfl,rfl,rfl,rfl⟩:=he
      rfl
  · cases h
end Go.Proofs.YtjiidlkkkednoaaGreatDoor.Q
end
