import Derived.Test.YtjiidlkkkednoaaGreatDoorZTextg
import Derived.Test.YtjiidlkkkednoaaGreatDoorZR0g
import Derived.Lib.UnsafeStr
import Derived.Laws.Externs
import Derived.Test.YtjiidlkkkednoaaGreatDoorZMri
import Derived.Test.YtjiidlkkkednoaaGreatDoorZMpmg
import Derived.Deep.RegionWith
set_option linter.unusedVariables false
set_option linter.unusedSimpArgs false
section
namespace Go.Proofs.YtjiidlkkkednoaaGreatDoor.Q
open Go.RowKit Go.Proofs.YtjiidlkkkednoaaGreatDoorW.PrintWords
section
variable (w:World)
set_option maxRecDepth 100000 in
theorem check_used (b:Nat) (v:Value) (h:Blk w b 60 #[.pointer (some ⟨b,0,none⟩),v]) :
    Calls Tryz.prog 59 #[.pointer (some ⟨b,0,none⟩)] w fun e w' => e=.returned (.tuple #[])∧w=w':=by
  obtain ⟨j,hj,hjs⟩:=Option.map_eq_some_iff.1 (show (Tryz.prog.info? 60).map (·.size)=some 2 by kernel_rfl)
  have h0:=h.cell 0
  go_enter Tryz.func59,Tryz.ntmps59
  go_wp2_with (fail)
  rw [Lib.run_neq_ptr_same w _ Tryz.underlying57 hj]
  go_wp2_with (fail)
  go_end0
  exact ⟨rfl,rfl⟩
set_option maxRecDepth 100000 in
theorem check_new (b:Nat) (v:Value) (h:Blk w b 60 #[.pointer none,v]) :
    Calls Tryz.prog 59 #[.pointer (some ⟨b,0,none⟩)] w fun e w' => e=.returned (.tuple #[])∧w'=w.setCell ⟨b,0,none⟩ (.pointer (some ⟨b,0,none⟩)):=by
  obtain ⟨j,hj,hjs⟩:=Option.map_eq_some_iff.1 (show (Tryz.prog.info? 60).map (·.size)=some 2 by kernel_rfl)
  have h0:=h.cell 0
  have f0:=h.unfrozen 0
  have hsh:w.shape? b=some (60,2):=by unfold Blk at h;simp [World.shape?,h]
  have h1:(w.setCell ⟨b,0,none⟩ (.pointer (some ⟨b,0,none⟩))).cell? ⟨b,0,none⟩=some (.pointer (some ⟨b,0,none⟩)):=(h.put 0 _).cell 0
  go_enter Tryz.func59,Tryz.ntmps59
  go_wp2_with (fail)
  rw [Lib.run_to_unsafe w ⟨b,0,none⟩ Tryz.underlying57 Tryz.underlying109 hj (by rw [hjs];decide) hsh (Nat.zero_lt_succ 1)]
  simp only [Result.andThen]
  rw [Oper.upon_value]
  go_wp2_with (fail)
  rw [run_callFunc_extern Tryz.func92 (by kernel_rfl) (by kernel_rfl) (by kernel_rfl) (e:=Extern.AbiNoEscape.same) (by kernel_rfl)]
  rw [Lib.run_noEscape]
  simp only [Result.andThen]
  rw [Oper.upon_value]
  go_wp2_with (fail)
  rw [Lib.run_from_unsafe w ⟨b,0,none⟩ Tryz.underlying109 Tryz.underlying57 hj hsh (by kernel_rfl)]
  simp only [Result.andThen]
  rw [Oper.upon_value]
  go_wp2_with (fail)
  go_end0
  exact ⟨rfl,rfl⟩
def Bd (w:World) (base b:Nat) (acc:List UInt8):Prop :=
  ∃ (p:Option Addr) (v:Value),(p=none∨p=some ⟨b,0,none⟩)∧Blk w b 60 #[.pointer p,v]∧w.ownsRow base 5 1 v acc.length (nums .u8 (acc.map fun x => (x.toNat:Int)))
def BdS (w:World) (base b k:Nat):Prop:=k=b∨base≤k∧∃ cs,w.heap[k]?=some (.cells cs 5 (0,0))
theorem infoB:(Tryz.prog.info? 5).map (fun i => (i.zero,i.size,i.bytes))=some (some (.int .u8 0),1,1):=by kernel_rfl
theorem check_any (b:Nat) (p:Option Addr) (v:Value) (hp:p=none∨p=some ⟨b,0,none⟩) (h:Blk w b 60 #[.pointer p,v]) :
    Calls Tryz.prog 59 #[.pointer (some ⟨b,0,none⟩)] w fun e w' => e=.returned (.tuple #[])∧Blk w' b 60 #[.pointer (some ⟨b,0,none⟩),v]∧Fr (·=b) w w':=by
  rcases hp with rfl|rfl
  · refine (check_new w b v h).mono ?_
    rintro e w1 ⟨rfl,rfl⟩
    exact ⟨rfl,h.put 0 _,(Fr.refl (·=b) w).put (.inl rfl) _⟩
  · refine (check_used w b v h).mono ?_
    rintro e w1 ⟨rfl,rfl⟩
    exact ⟨rfl,h,Fr.refl _ _⟩
theorem own_fr {w w':World} {base n size:Nat} {e:TypeId} {v:Value} {xs:List Value} {S:Nat→Prop} (h:w.ownsRow base e size v n xs) (hf:Fr S w w') (hS:∀ k cs,S k→w.heap[k]?≠some (.cells cs e (0,0))):w'.ownsRow base e size v n xs :=
  own_move h (fun k hk => by
    obtain ⟨cells,hc⟩:=own_typed h k hk
    exact hf.block k (Array.getElem?_eq_some_iff.1 hc).1 (fun hk' => hS k cells hk' hc))
theorem Blk.other {w:World} {p:Nat} {t:TypeId} {cs:Array Value} (h:Blk w p t cs) {t':TypeId} (ht:t≠t'):∀ k cs',k=p→w.heap[k]?≠some (.cells cs' t' (0,0)):=by
  rintro k cs' rfl hk
  unfold Blk at h
  rw [h] at hk
  injection hk with hk
  injection hk with _ hk
  exact ht hk
set_option maxHeartbeats 1000000 in
set_option maxRecDepth 100000 in
theorem write_calls (base b:Nat) (acc:List UInt8) (y:ByteArray) (h:Bd w base b acc) (hbb:base≤b) (hlen:acc.length+y.size≤140737488355328) :
    Calls Tryz.prog 27 #[.pointer (some ⟨b,0,none⟩),.string y] w fun e w' => e=.returned (.tuple #[.int .i64 y.size,.nilIface])∧Bd w' base b (acc++y.data.toList)∧Fr (BdS w base b) w w':=by
  obtain ⟨p,v,hp,h,ho⟩:=h
  have H:=Lib.hid h
  have HO:=Lib.hid ho
  have hbs:base≤w.heap.size:=Nat.le_trans hbb (Nat.le_of_lt h.lt)
  have HL:=Lib.hid hlen
  have HBS:=Lib.hid hbs
  clear h ho hlen hbs
  go_enter Tryz.func27,Tryz.ntmps27
  go_wp2_with (fail)
  refine (check_any w b p v hp H.out).mono ?_
  rintro e w1 ⟨rfl,hk1,hf1⟩
  have h1:=hk1.cell 1
  have HO1:=Lib.hid (own_fr HO.out hf1 (H.out.other (by decide)))
  have HK1:=Lib.hid hk1
  have HF1:=Lib.hid hf1
  have HBS1:=Lib.hid (Nat.le_trans HBS.out hf1.size)
  clear hk1 hf1
  go_wp2_with (first|(at_builtin;refine print_append_str (w0:=w1) base rfl (.tmp 12) _ 58 9 5 rfl Tryz.underlying58 Tryz.underlying9 infoB v (acc.map fun x => (x.toNat:Int)) y rfl rfl ?aO (Below.refl _ _) HBS1.out ?aL ?next))
  case aO => rw [List.length_map];exact HO1.out
  case aL => rw [List.length_map];exact HL.out
  case next =>
    intro v1 w2 ho2 hb2 hg2
    obtain ⟨A2,c2,rfl⟩:=own_slice ho2
    have hk:Blk w2 b _ _:=blk_grown HK1.out hg2 (fun hk => by
      obtain ⟨cells,hc⟩:=own_typed HO1.out b hk.symm
      exact HK1.out.other (by decide) b cells rfl hc)
    have k1:=hk.cell 1
    have u1:=hk.unfrozen 1
    have HK:=Lib.hid hk
    have HO2:=Lib.hid ho2
    have HF2:=Lib.hid (((HF1.out.mono (S':=BdS w base b) (fun k hk => .inl hk)).trans (S2:=BdS w base b) ((Fr.refl (BdS w base b) w1).grown hg2 (fun k hk => by
      obtain ⟨cells,hc⟩:=own_typed HO.out k hk
      exact .inl (.inr ⟨own_base HO.out k hk,cells,hc⟩))) (fun k hk => .inl hk)))
    clear hk ho2 hb2 hg2
    go_wp2_with (fail)
    go_ret2
    refine ⟨rfl,⟨some ⟨b,0,none⟩,_,.inr rfl,HK.out.put 1 _,?_⟩,HF2.out.put (p:=⟨b,1,none⟩) (.inl (.inl rfl)) _⟩
    have hm:(acc.map fun x => (x.toNat:Int))++bytesOf y=((acc++y.data.toList).map fun x => (x.toNat:Int)):=by rw [List.map_append];rfl
    have:=HO2.out
    have hz:acc.length+(bytesOf y).length=(acc++y.data.toList).length:=by rw [List.length_append,bytesOf,List.length_map]
    rw [hm] at this
    rw [hz] at this ⊢
    exact own_setCell this (by
      intro hk
      obtain ⟨cells,hc⟩:=own_typed this b hk.symm
      exact HK.out.other (by decide) b cells rfl hc) _
end
end Go.Proofs.YtjiidlkkkednoaaGreatDoor.Q
end
section
namespace Go.Proofs.YtjiidlkkkednoaaGreatDoor.Q
open Go.RowKit Go.Proofs.YtjiidlkkkednoaaGreatDoorW.PrintWords
theorem Bd.fr {w w':World} {base b:Nat} {acc:List UInt8} {S:Nat→Prop} (h:Bd w base b acc) (hf:Fr S w w') (hS:∀ k,S k→k≠b∧∀ cs,w.heap[k]?≠some (.cells cs 5 (0,0))):Bd w' base b acc:=by
  obtain ⟨p,v,hp,hk,ho⟩:=h
  exact ⟨p,v,hp,hk.fr hf (fun h => (hS _ h).1 rfl),own_fr ho hf (fun k cs h => (hS k h).2 cs)⟩
theorem Bd.below {w w':World} {base b:Nat} {acc:List UInt8} (h:Bd w base b acc) (hb:Below w.heap.size w w'):Bd w' base b acc :=
  h.fr (S:=fun _ => False) (Fr.of_below hb) (fun _ h => h.elim)
theorem BdS.no {w:World} {base b g:Nat} {t:TypeId} {cs:Array Value} (h:Blk w g t cs) (hb:g≠b) (ht:t≠5):¬ BdS w base b g:=by
  rintro (e|⟨_,cs',hc⟩)
  · exact hb e
  · exact h.other ht g cs' rfl hc
theorem BdS.ge {w:World} {base b:Nat} (hb:base≤b):∀ k,BdS w base b k→base≤k:=by
  rintro k (e|⟨h,_⟩)
  · omega
  · exact h
theorem Bd.lt {w:World} {base b:Nat} {acc:List UInt8} (h:Bd w base b acc):b<w.heap.size:=by
  obtain ⟨_,_,_,h,_⟩:=h
  exact h.lt
theorem BdS.back {w W:World} {base b:Nat} (hb:Below w.heap.size w W) (k:Nat) (h:BdS W base b k):BdS w base b k∨w.heap.size≤k:=by
  rcases Nat.lt_or_ge k w.heap.size with hk|hk
  · rcases h with h|⟨h1,cs,h2⟩
    · exact .inl (.inl h)
    · exact .inl (.inr ⟨h1,cs,by rw [← hb.block k hk];exact h2⟩)
  · exact .inr hk
def lineT (xs:List ByteArray):List UInt8:=Lib.join (xs.map (·.data.toList)) [32]++[10]
theorem cells_newT (w:World) (xs:List ByteArray) (t:TypeId) (j:Nat) (x:ByteArray) (h:xs[j]?=some x):(w.alloc (.cells (xs.map Value.string).toArray t)).cell? ⟨w.heap.size,0+j,none⟩=some (.string x):=by
  rw [Nat.zero_add,(Blk.new w t (xs.map Value.string).toArray).cell j]
  simp [h]
set_option maxHeartbeats 1000000 in
theorem mline_calls (w:World) (base b q n:Nat) (acc:List UInt8) (xs:List ByteArray) (hB:Bd w base b acc) (hbb:base≤b) (hc:∀ (j:Nat) x,xs[j]?=some x→w.cell? ⟨q,0+j,none⟩=some (.string x)) (hq:q<w.heap.size) (hn:xs.length=n) (hN:n≤1000)
    (hl:acc.length+(lineT xs).length≤100000000000) :
    Calls Tryz.prog 26 #[.slice (some ⟨q,0,none⟩) n n,.pointer (some ⟨b,0,none⟩)] w fun e w' => e=.returned (.tuple #[])∧Bd w' base b (acc++lineT xs)∧Fr (BdS w base b) w w':=by
  have hll:(lineT xs).length=(Lib.join (xs.map (·.data.toList)) [32]).length+1:=by simp [lineT]
  have hj:=Tryz.strings_Join q 0 n xs ⟨#[32]⟩ w hc hq (by omega) (by omega) (by show (Lib.join (xs.map (·.data.toList)) [32]).length≤_;omega)
  rw [hn] at hj
  have HJ:=Lib.hid hj
  have HBD:=Lib.hid hB
  have HL:=Lib.hid hl
  obtain ⟨S,hS⟩:∃ S:ByteArray,S=⟨(Lib.join (xs.map (·.data.toList)) [32]).toArray⟩:=⟨_,rfl⟩
  have hs:S.size+1≤9223372036854775807:=by
    rw [hS]
    show (Lib.join (xs.map (·.data.toList)) [32]).length+1≤_
    omega
  have he:(S++(⟨#[10]⟩:ByteArray)).data.toList=lineT xs:=by
    rw [hS]
    simp [lineT,ByteArray.data_append]
  have hz:(S++(⟨#[10]⟩:ByteArray)).size=(lineT xs).length:=by
    rw [← he,data_length]
  have hj2:(⟨(Lib.join (xs.map (·.data.toList)) (⟨#[32]⟩:ByteArray).data.toList).toArray⟩:ByteArray)=S:=hS.symm
  rw [hj2] at HJ
  have HE:=Lib.hid he
  have HZ:=Lib.hid hz
  clear hj hB hc hl hll he hz hj2 hS
  go_enter Tryz.func26,Tryz.ntmps26
  go_wp2_with (fail)
  refine HJ.out.mono ?_
  rintro e w1 ⟨rfl,hb1⟩
  have HB1:=Lib.hid hb1
  clear hb1
  go_wp2_with (fail)
  refine (write_calls w1 base b acc _ (HBD.out.below HB1.out) hbb (by rw [HZ.out];have:=HL.out;omega)).mono ?_
  rintro e w2 ⟨rfl,hbd,hfr⟩
  have HBD2:=Lib.hid hbd
  have HFR:=Lib.hid hfr
  clear hbd hfr
  go_wp2_with (fail)
  go_end0
  refine ⟨rfl,?_,(Fr.of_below HB1.out).trans HFR.out (fun k hk => BdS.back HB1.out k hk)⟩
  rw [← HE.out]
  exact HBD2.out
def lnA (wd:List UInt8) (tv:S43→ByteArray) (r:S45):List UInt8:=lineT [bs wd,r.f0,tv r.f1]
def lnB (tv:S43→ByteArray) (r:S48):List UInt8:=lineT [bs replaceW,r.f0,bs arrowW,r.f1,tv r.f2]
def textM (tv:S43→ByteArray) (mo:ByteArray) (l1 l2:List S45) (l3:List S48):List UInt8 :=
  ((lineT [bs moduleW,mo]++l1.flatMap (lnA requireW tv))++l2.flatMap (lnA excludeW tv))++l3.flatMap (lnB tv)
theorem takeA (l:List S45) (i:Nat) (h:i<l.length) (f:S45→List UInt8):(l.take (i+1)).flatMap f=(l.take i).flatMap f++f (rdIA l i):=by
  rw [List.take_succ_eq_append_getElem h,List.flatMap_append]
  have e:rdIA l i=l[i]:=by
    show l.getD (i:Int).toNat _=_
    rw [Int.toNat_natCast]
    simp [List.getD,h]
  rw [e]
  simp
theorem takeB (l:List S48) (i:Nat) (h:i<l.length) (f:S48→List UInt8):(l.take (i+1)).flatMap f=(l.take i).flatMap f++f (rdIB l i):=by
  rw [List.take_succ_eq_append_getElem h,List.flatMap_append]
  have e:rdIB l i=l[i]:=by
    show l.getD (i:Int).toNat _=_
    rw [Int.toNat_natCast]
    simp [List.getD,h]
  rw [e]
  simp
theorem flat_le {α:Type} (l:List α) (i:Nat) (f:α→List UInt8):((l.take i).flatMap f).length≤(l.flatMap f).length:=by
  have e:l.flatMap f=(l.take i).flatMap f++(l.drop i).flatMap f:=by rw [← List.flatMap_append,List.take_append_drop]
  rw [e,List.length_append]
  omega
theorem line_fr {wr W w3:World} {base b:Nat} (hb:Below wr.heap.size wr W) (h:Fr (BdS W base b) W w3):Fr (BdS wr base b) wr w3:=(Fr.of_below hb).trans h (fun k hk => BdS.back hb k hk)
section
variable (w:World) {tv:S43→ByteArray} {OkV:S43→Prop}
set_option maxHeartbeats 4000000 in
set_option maxRecDepth 100000 in
theorem mtext_calls (mo:ByteArray) (A1 A2 A3:Option Addr) (c1 c2 c3:Nat) (l1 l2:List S45) (l3:List S48)
    (hT:∀ v,OkV v→∀ W,Below w.heap.size w W→Calls Tryz.prog 29 #[.agg #[.int .i64 v.f0,.int .i64 v.f1,.int .i64 v.f2,.string v.f3]] W fun e w' => e=.returned (.string (tv v))∧Below W.heap.size W w')
    (r1:Kd.C k45 w A1 l1.length l1) (n1:l1.length≤100000) (o1:∀ i,i<l1.length→OkV (rdIA l1 i).f1)
    (r2:Kd.C k45 w A2 l2.length l2) (n2:l2.length≤100000) (o2:∀ i,i<l2.length→OkV (rdIA l2 i).f1)
    (r3:Kd.C k48 w A3 l3.length l3) (n3:l3.length≤100000) (o3:∀ i,i<l3.length→OkV (rdIB l3 i).f2)
    (hl:(textM tv mo l1 l2 l3).length≤100000000) :
    Calls Tryz.prog 12 #[.agg #[.string mo,.slice A1 l1.length c1,.slice A2 l2.length c2,.slice A3 l3.length c3]] w fun e w' => e=.returned (.string (bs (textM tv mo l1 l2 l3)))∧Below w.heap.size w w':=by
  obtain ⟨B,hB⟩:∃ B,B=w.heap.size:=⟨_,rfl⟩
  have HBE:=Lib.hid hB
  have HT:=Lib.hid (fun v ho W (hW:Below B w W) => hT v ho W (by rw [← hB];exact hW))
  have HBV:Hid (∀ W,Below B w W→Below w.heap.size w W):=Lib.hid (fun W h => by rw [← hB];exact h)
  have H1:=Lib.hid r1
  have H2:=Lib.hid r2
  have H3:=Lib.hid r3
  have O1:=Lib.hid o1
  have O2:=Lib.hid o2
  have O3:=Lib.hid o3
  clear hT r1 r2 r3 o1 o2 o3
  obtain ⟨Z1,hA1⟩:∃ A,A=lineT [bs moduleW,mo]:=⟨_,rfl⟩
  obtain ⟨R,hR⟩:∃ R,R=textM tv mo l1 l2 l3:=⟨_,rfl⟩
  rw [← hR]
  have hTL:Z1.length+(l1.flatMap (lnA requireW tv)).length+(l2.flatMap (lnA excludeW tv)).length+(l3.flatMap (lnB tv)).length≤100000000:=by
    unfold textM at hl
    simp only [List.length_append] at hl
    rw [hA1]
    omega
  unfold textM at hR
  have HR:=Lib.hid hR
  have HTL:=Lib.hid hTL
  have HA1E:=Lib.hid hA1
  clear hR hl hTL hA1
  have hz:((w.alloc (.cells #[.string mo,.slice A1 l1.length c1,.slice A2 l2.length c2,.slice A3 l3.length c3] 27)).alloc (.cells #[.pointer none,.slice none 0 0] 60)).heap.size=B+2:=by simp [hB]
  have hbb:Blk ((w.alloc (.cells #[.string mo,.slice A1 l1.length c1,.slice A2 l2.length c2,.slice A3 l3.length c3] 27)).alloc (.cells #[.pointer none,.slice none 0 0] 60)) (B+1) 60 #[.pointer none,.slice none 0 0]:=by
    have:=Blk.new (w.alloc (.cells #[.string mo,.slice A1 l1.length c1,.slice A2 l2.length c2,.slice A3 l3.length c3] 27)) 60 #[.pointer none,.slice none 0 0]
    rw [World.size_alloc,← hB] at this
    exact this
  have hkk:Blk ((w.alloc (.cells #[.string mo,.slice A1 l1.length c1,.slice A2 l2.length c2,.slice A3 l3.length c3] 27)).alloc (.cells #[.pointer none,.slice none 0 0] 60)) B 27 #[.string mo,.slice A1 l1.length c1,.slice A2 l2.length c2,.slice A3 l3.length c3]:=by
    have:=(Blk.new w 27 #[.string mo,.slice A1 l1.length c1,.slice A2 l2.length c2,.slice A3 l3.length c3]).alloc (.cells #[.pointer none,.slice none 0 0] 60)
    rw [← hB] at this
    exact this
  have hbl:Below B w ((w.alloc (.cells #[.string mo,.slice A1 l1.length c1,.slice A2 l2.length c2,.slice A3 l3.length c3] 27)).alloc (.cells #[.pointer none,.slice none 0 0] 60)):=by
    rw [hB]
    exact below_alloc (below_alloc (Below.refl _ _) _) _
  go_enter Tryz.func12,Tryz.ntmps12
  go_wp2_with (fail)
  rw [← hB]
  clear hB
  have HZ0:=Lib.hid hz
  have HB0:=Lib.hid hbb
  have HK0:=Lib.hid hkk
  have HL0:=Lib.hid hbl
  clear hz hbb hkk hbl
  generalize ((w.alloc (.cells #[.string mo,.slice A1 l1.length c1,.slice A2 l2.length c2,.slice A3 l3.length c3] 27)).alloc (.cells #[.pointer none,.slice none 0 0] 60))=W0 at *
  have HZ1:Hid (Z1.length≤100000000):=Lib.hid (by have:=HTL.out;omega)
  refine (mline_calls _ B (B+1) (B+2) 2 [] [bs moduleW,mo] (Bd.below (w:=W0) ⟨none,_,.inl rfl,HB0.out,own_nil _ _ _ 1⟩ (below_alloc (Below.refl _ _) _)) (by omega) (fun j x h => by have:=cells_newT W0 [bs moduleW,mo] 9 j x h;rw [HZ0.out] at this;exact this) (by rw [World.size_alloc,HZ0.out];omega) rfl (by decide) (by rw [← HA1E.out];have:=HZ1.out;simp;omega)).mono ?_
  rintro e w1 ⟨rfl,hbd,hfr⟩
  have hfr2:=line_fr (below_alloc (Below.refl _ W0) _) hfr
  rw [← HA1E.out] at hbd
  have HD1:Hid (Bd w1 B (B+1) Z1):=Lib.hid hbd
  have HK1:=Lib.hid (HK0.out.fr hfr2 (BdS.no HK0.out (by omega) (by decide)))
  have HB1:=Lib.hid (HL0.out.trans (hfr2.below (B:=B) (by rw [HZ0.out];omega) (BdS.ge (by omega))))
  have n10:=HK1.out.cell 0
  have n11:=HK1.out.cell 1
  have n12:=HK1.out.cell 2
  have n13:=HK1.out.cell 3
  clear hbd hfr hfr2 HB0 HK0 HL0 HZ0
  go_wp2_with (fail)
  have HA1:Hid (Z1.length+(l1.flatMap (lnA requireW tv)).length≤100000000):=Lib.hid (by have:=HTL.out;omega)
  go_loopg [20] (l1.length) (fun g s20 wr => ∃ i:Nat,s20=.int .i64 i∧i≤l1.length∧l1.length - i≤g∧Hid (Bd wr B (B+1) (Z1++(l1.take i).flatMap (lnA requireW tv)))∧Hid (Blk wr B 27 #[.string mo,.slice A1 l1.length c1,.slice A2 l2.length c2,.slice A3 l3.length c3])∧Hid (Below B w wr))
  case atStart => exact ⟨0,rfl,Nat.zero_le _,by omega,Lib.hid (by rw [List.take_zero];simpa using HD1.out),HK1,HB1⟩
  case round =>
    obtain ⟨i,rfl,hi,hg,HD,HK,HB⟩:=hrel
    by_cases hlt:i<l1.length
    · have hat:=at_T45 (Kd.C_below H1.out (HBV.out _ HB.out)) (i:Int) (by omega) (by omega)
      simp only [Int.toNat_natCast] at hat
      have hx:rd_T45 l1 (i:Int)=rdIA l1 i:=rfl
      rw [hx] at hat
      have hox:=O1.out i hlt
      have HTK:=Lib.hid (takeA l1 i hlt (lnA requireW tv))
      have HFL:=Lib.hid (flat_le l1 (i+1) (lnA requireW tv))
      generalize rdIA l1 i=X at *
      obtain ⟨ad,rfl,p0,p1,p2,p3,p4⟩:=hat
      have jz:(i:Int)<(l1.length:Int):=by omega
      have hw2:IntKind.i64.wrap ((i:Int)+1)=(i:Int)+1:=by rw [IntWalk.i64_in _ ⟨by omega,by omega⟩]
      have HTX:=Lib.hid (HT.out X.f1 hox)
      have hlen:(Z1++(l1.take i).flatMap (lnA requireW tv)).length+(lineT [bs requireW,X.f0,tv X.f1]).length≤100000000000:=by
        have h1:=HFL.out
        have h2:=HTK.out
        have h3:((lnA requireW tv) X)=lineT [bs requireW,X.f0,tv X.f1]:=rfl
        rw [h2,h3,List.length_append] at h1
        have:=HA1.out
        rw [List.length_append]
        omega
      have HLEN:=Lib.hid hlen
      have HBS:Hid (B≤wr.heap.size):=Lib.hid (by have:=HB.out.size;have:=HBE.out;omega)
      clear hx hox hlen
      go_wp2_with (fail)
      go_region_with (first|(go_at_call 29;refine (HTX.out _ (below_then HB.out HBS.out (by repeat (first|exact Below.refl _ _|refine below_drew1 ?_|refine below_alloc ?_ _)))).mono ?_;rintro e w1 ⟨rfl,hb1⟩;have hbx:=below_then (B:=wr.heap.size) (w:=wr) (by repeat (first|exact Below.refl _ _|refine below_drew1 ?_|refine below_alloc ?_ _)) (by simp) hb1;have kk:=(Blk.new wr 45 #[.string X.f0,.int .i64 X.f1.f0,.int .i64 X.f1.f1,.int .i64 X.f1.f2,.string X.f1.f3]).below (below_then (B:=(wr.alloc (.cells #[.string X.f0,.int .i64 X.f1.f0,.int .i64 X.f1.f1,.int .i64 X.f1.f2,.string X.f1.f3] 45)).heap.size) (w:=wr.alloc (.cells #[.string X.f0,.int .i64 X.f1.f0,.int .i64 X.f1.f1,.int .i64 X.f1.f2,.string X.f1.f3] 45)) (by repeat (first|exact Below.refl _ _|refine below_drew1 ?_|refine below_alloc ?_ _)) (by simp) hb1);have y0:=kk.cell 0;have y1:=kk.cell 1;have y2:=kk.cell 2;have y3:=kk.cell 3;have y4:=kk.cell 4;have HBX:=Lib.hid hbx;have HD1:=Lib.hid (HD.out.below hbx);clear hb1 hbx kk)|(go_at_call 26;refine (mline_calls _ B (B+1) w1.heap.size 3 _ [bs requireW,X.f0,tv X.f1] (HD1.out.below (by repeat (first|exact Below.refl _ _|refine below_drew1 ?_|refine below_alloc ?_ _))) (by omega) (cells_newT w1 [bs requireW,X.f0,tv X.f1] 9) (by simp) rfl (by decide) HLEN.out).mono ?_;rintro e w3 ⟨rfl,hbd,hfr⟩;have HD3:=Lib.hid hbd;have HF3:=Lib.hid (line_fr (below_then HBX.out HBX.out.size (by repeat (first|exact Below.refl _ _|refine below_drew1 ?_|refine below_alloc ?_ _))) hfr);clear hbd hfr))
      all_goals go_wp2_with (fail)
      all_goals go_roundg (l1.length - (i+1))
      all_goals first
        | omega
        | exact ⟨i+1,by go_num,by omega,Nat.le_refl _,Lib.hid (by rw [HTK.out,← List.append_assoc];exact HD3.out),Lib.hid (HK.out.fr HF3.out (BdS.no HK.out (by omega) (by decide))),Lib.hid (HB.out.trans (HF3.out.below HBS.out (BdS.ge (by omega))))⟩
    · obtain rfl:i=l1.length:=by omega
      have h1:¬ (l1.length:Int)<(l1.length:Int):=by omega
      have hd:=HD.out
      rw [List.take_length] at hd
      obtain ⟨Z2,hZ2⟩:∃ A,A=Z1++l1.flatMap (lnA requireW tv):=⟨_,rfl⟩
      rw [← hZ2] at hd
      have HE2:=Lib.hid hZ2
      have HD2:=Lib.hid hd
      have HK2:=HK
      have HB2:=HB
      have m10:=HK.out.cell 0
      have m11:=HK.out.cell 1
      have m12:=HK.out.cell 2
      have m13:=HK.out.cell 3
      clear hZ2 hd HD HK HB
      go_wp2_with (fail)
      have HA2:Hid (Z2.length+(l2.flatMap (lnA excludeW tv)).length≤100000000):=Lib.hid (by have e2:=congrArg List.length HE2.out;rw [List.length_append] at e2;have:=HTL.out;omega)
      go_loopg [36] (l2.length) (fun g s36 wr => ∃ i:Nat,s36=.int .i64 i∧i≤l2.length∧l2.length - i≤g∧Hid (Bd wr B (B+1) (Z2++(l2.take i).flatMap (lnA excludeW tv)))∧Hid (Blk wr B 27 #[.string mo,.slice A1 l1.length c1,.slice A2 l2.length c2,.slice A3 l3.length c3])∧Hid (Below B w wr))
      case atStart => exact ⟨0,rfl,Nat.zero_le _,by omega,Lib.hid (by rw [List.take_zero];simpa using HD2.out),HK2,HB2⟩
      case round =>
        obtain ⟨i,rfl,hi,hg,HD,HK,HB⟩:=hrel
        by_cases hlt:i<l2.length
        · have hat:=at_T45 (Kd.C_below H2.out (HBV.out _ HB.out)) (i:Int) (by omega) (by omega)
          simp only [Int.toNat_natCast] at hat
          have hx:rd_T45 l2 (i:Int)=rdIA l2 i:=rfl
          rw [hx] at hat
          have hox:=O2.out i hlt
          have HTK:=Lib.hid (takeA l2 i hlt (lnA excludeW tv))
          have HFL:=Lib.hid (flat_le l2 (i+1) (lnA excludeW tv))
          generalize rdIA l2 i=X at *
          obtain ⟨ad,rfl,p0,p1,p2,p3,p4⟩:=hat
          have jz:(i:Int)<(l2.length:Int):=by omega
          have hw2:IntKind.i64.wrap ((i:Int)+1)=(i:Int)+1:=by rw [IntWalk.i64_in _ ⟨by omega,by omega⟩]
          have HTX:=Lib.hid (HT.out X.f1 hox)
          have hlen:(Z2++(l2.take i).flatMap (lnA excludeW tv)).length+(lineT [bs excludeW,X.f0,tv X.f1]).length≤100000000000:=by
            have h1:=HFL.out
            have h2:=HTK.out
            have h3:((lnA excludeW tv) X)=lineT [bs excludeW,X.f0,tv X.f1]:=rfl
            rw [h2,h3,List.length_append] at h1
            have:=HA2.out
            rw [List.length_append]
            omega
          have HLEN:=Lib.hid hlen
          have HBS:Hid (B≤wr.heap.size):=Lib.hid (by have:=HB.out.size;have:=HBE.out;omega)
          clear hx hox hlen
          go_wp2_with (fail)
          go_region_with (first|(go_at_call 29;refine (HTX.out _ (below_then HB.out HBS.out (by repeat (first|exact Below.refl _ _|refine below_drew1 ?_|refine below_alloc ?_ _)))).mono ?_;rintro e w1 ⟨rfl,hb1⟩;have hbx:=below_then (B:=wr.heap.size) (w:=wr) (by repeat (first|exact Below.refl _ _|refine below_drew1 ?_|refine below_alloc ?_ _)) (by simp) hb1;have kk:=(Blk.new wr 45 #[.string X.f0,.int .i64 X.f1.f0,.int .i64 X.f1.f1,.int .i64 X.f1.f2,.string X.f1.f3]).below (below_then (B:=(wr.alloc (.cells #[.string X.f0,.int .i64 X.f1.f0,.int .i64 X.f1.f1,.int .i64 X.f1.f2,.string X.f1.f3] 45)).heap.size) (w:=wr.alloc (.cells #[.string X.f0,.int .i64 X.f1.f0,.int .i64 X.f1.f1,.int .i64 X.f1.f2,.string X.f1.f3] 45)) (by repeat (first|exact Below.refl _ _|refine below_drew1 ?_|refine below_alloc ?_ _)) (by simp) hb1);have y0:=kk.cell 0;have y1:=kk.cell 1;have y2:=kk.cell 2;have y3:=kk.cell 3;have y4:=kk.cell 4;have HBX:=Lib.hid hbx;have HD1:=Lib.hid (HD.out.below hbx);clear hb1 hbx kk)|(go_at_call 26;refine (mline_calls _ B (B+1) w1.heap.size 3 _ [bs excludeW,X.f0,tv X.f1] (HD1.out.below (by repeat (first|exact Below.refl _ _|refine below_drew1 ?_|refine below_alloc ?_ _))) (by omega) (cells_newT w1 [bs excludeW,X.f0,tv X.f1] 9) (by simp) rfl (by decide) HLEN.out).mono ?_;rintro e w3 ⟨rfl,hbd,hfr⟩;have HD3:=Lib.hid hbd;have HF3:=Lib.hid (line_fr (below_then HBX.out HBX.out.size (by repeat (first|exact Below.refl _ _|refine below_drew1 ?_|refine below_alloc ?_ _))) hfr);clear hbd hfr))
          all_goals go_wp2_with (fail)
          all_goals go_roundg (l2.length - (i+1))
          all_goals first
            | omega
            | exact ⟨i+1,by go_num,by omega,Nat.le_refl _,Lib.hid (by rw [HTK.out,← List.append_assoc];exact HD3.out),Lib.hid (HK.out.fr HF3.out (BdS.no HK.out (by omega) (by decide))),Lib.hid (HB.out.trans (HF3.out.below HBS.out (BdS.ge (by omega))))⟩
        · obtain rfl:i=l2.length:=by omega
          have h1:¬ (l2.length:Int)<(l2.length:Int):=by omega
          have hd:=HD.out
          rw [List.take_length] at hd
          obtain ⟨Z3,hZ3⟩:∃ A,A=Z2++l2.flatMap (lnA excludeW tv):=⟨_,rfl⟩
          rw [← hZ3] at hd
          have HE3:=Lib.hid hZ3
          have HD3:=Lib.hid hd
          have HK3:=HK
          have HB3:=HB
          have m20:=HK.out.cell 0
          have m21:=HK.out.cell 1
          have m22:=HK.out.cell 2
          have m23:=HK.out.cell 3
          clear hZ3 hd HD HK HB
          go_wp2_with (fail)
          have HA3:Hid (Z3.length+(l3.flatMap (lnB tv)).length≤100000000):=Lib.hid (by have e2:=congrArg List.length HE2.out;have e3:=congrArg List.length HE3.out;rw [List.length_append] at e2 e3;have:=HTL.out;omega)
          go_loopg [52] (l3.length) (fun g s52 wr => ∃ i:Nat,s52=.int .i64 i∧i≤l3.length∧l3.length - i≤g∧Hid (Bd wr B (B+1) (Z3++(l3.take i).flatMap (lnB tv)))∧Hid (Blk wr B 27 #[.string mo,.slice A1 l1.length c1,.slice A2 l2.length c2,.slice A3 l3.length c3])∧Hid (Below B w wr))
          case atStart => exact ⟨0,rfl,Nat.zero_le _,by omega,Lib.hid (by rw [List.take_zero];simpa using HD3.out),HK3,HB3⟩
          case round =>
            obtain ⟨i,rfl,hi,hg,HD,HK,HB⟩:=hrel
            by_cases hlt:i<l3.length
            · have hat:=at_T48 (Kd.C_below H3.out (HBV.out _ HB.out)) (i:Int) (by omega) (by omega)
              simp only [Int.toNat_natCast] at hat
              have hx:rd_T48 l3 (i:Int)=rdIB l3 i:=rfl
              rw [hx] at hat
              have hox:=O3.out i hlt
              have HTK:=Lib.hid (takeB l3 i hlt (lnB tv))
              have HFL:=Lib.hid (flat_le l3 (i+1) (lnB tv))
              generalize rdIB l3 i=X at *
              obtain ⟨ad,rfl,p0,p1,p2,p3,p4,p5⟩:=hat
              have jz:(i:Int)<(l3.length:Int):=by omega
              have hw2:IntKind.i64.wrap ((i:Int)+1)=(i:Int)+1:=by rw [IntWalk.i64_in _ ⟨by omega,by omega⟩]
              have HTX:=Lib.hid (HT.out X.f2 hox)
              have hlen:(Z3++(l3.take i).flatMap (lnB tv)).length+(lineT [bs replaceW,X.f0,bs arrowW,X.f1,tv X.f2]).length≤100000000000:=by
                have h1:=HFL.out
                have h2:=HTK.out
                have h3:((lnB tv) X)=lineT [bs replaceW,X.f0,bs arrowW,X.f1,tv X.f2]:=rfl
                rw [h2,h3,List.length_append] at h1
                have:=HA3.out
                rw [List.length_append]
                omega
              have HLEN:=Lib.hid hlen
              have HBS:Hid (B≤wr.heap.size):=Lib.hid (by have:=HB.out.size;have:=HBE.out;omega)
              clear hx hox hlen
              go_wp2_with (fail)
              go_region_with (first|(go_at_call 29;refine (HTX.out _ (below_then HB.out HBS.out (by repeat (first|exact Below.refl _ _|refine below_drew1 ?_|refine below_alloc ?_ _)))).mono ?_;rintro e w1 ⟨rfl,hb1⟩;have hbx:=below_then (B:=wr.heap.size) (w:=wr) (by repeat (first|exact Below.refl _ _|refine below_drew1 ?_|refine below_alloc ?_ _)) (by simp) hb1;have kk:=(Blk.new wr 48 #[.string X.f0,.string X.f1,.int .i64 X.f2.f0,.int .i64 X.f2.f1,.int .i64 X.f2.f2,.string X.f2.f3]).below (below_then (B:=(wr.alloc (.cells #[.string X.f0,.string X.f1,.int .i64 X.f2.f0,.int .i64 X.f2.f1,.int .i64 X.f2.f2,.string X.f2.f3] 48)).heap.size) (w:=wr.alloc (.cells #[.string X.f0,.string X.f1,.int .i64 X.f2.f0,.int .i64 X.f2.f1,.int .i64 X.f2.f2,.string X.f2.f3] 48)) (by repeat (first|exact Below.refl _ _|refine below_drew1 ?_|refine below_alloc ?_ _)) (by simp) hb1);have y0:=kk.cell 0;have y1:=kk.cell 1;have y2:=kk.cell 2;have y3:=kk.cell 3;have y4:=kk.cell 4;have y5:=kk.cell 5;have HBX:=Lib.hid hbx;have HD1:=Lib.hid (HD.out.below hbx);clear hb1 hbx kk)|(go_at_call 26;refine (mline_calls _ B (B+1) w1.heap.size 5 _ [bs replaceW,X.f0,bs arrowW,X.f1,tv X.f2] (HD1.out.below (by repeat (first|exact Below.refl _ _|refine below_drew1 ?_|refine below_alloc ?_ _))) (by omega) (cells_newT w1 [bs replaceW,X.f0,bs arrowW,X.f1,tv X.f2] 9) (by simp) rfl (by decide) HLEN.out).mono ?_;rintro e w3 ⟨rfl,hbd,hfr⟩;have HD3:=Lib.hid hbd;have HF3:=Lib.hid (line_fr (below_then HBX.out HBX.out.size (by repeat (first|exact Below.refl _ _|refine below_drew1 ?_|refine below_alloc ?_ _))) hfr);clear hbd hfr))
              all_goals go_wp2_with (fail)
              all_goals go_roundg (l3.length - (i+1))
              all_goals first
                | omega
                | exact ⟨i+1,by go_num,by omega,Nat.le_refl _,Lib.hid (by rw [HTK.out,← List.append_assoc];exact HD3.out),Lib.hid (HK.out.fr HF3.out (BdS.no HK.out (by omega) (by decide))),Lib.hid (HB.out.trans (HF3.out.below HBS.out (BdS.ge (by omega))))⟩
            · obtain rfl:i=l3.length:=by omega
              have h1:¬ (l3.length:Int)<(l3.length:Int):=by omega
              have hd:=HD.out
              rw [List.take_length] at hd
              obtain ⟨Z4,hZ4⟩:∃ A,A=Z3++l3.flatMap (lnB tv):=⟨_,rfl⟩
              rw [← hZ4] at hd
              have HE4:=Lib.hid hZ4
              have HD4:=Lib.hid hd
              have HK4:=HK
              have HB4:=HB
              have m30:=HK.out.cell 0
              have m31:=HK.out.cell 1
              have m32:=HK.out.cell 2
              have m33:=HK.out.cell 3
              clear hZ4 hd HD HK HB
              have hR:R=Z4:=by
                rw [HR.out,HE4.out,HE3.out,HE2.out,HA1E.out]
              have HRZ:=Lib.hid hR
              have hstr:Lib.IsBuilder 60 5 B (B+1) (Lib.byteCells Z4) wr:=by
                obtain ⟨p,v,hp,hk,ho⟩:=HD4.out
                have hn:v.ownBlock≠some (B+1):=fun hk' => by
                  obtain ⟨cells,hc⟩:=own_typed ho _ hk'
                  exact hk.other (by decide) _ cells rfl hc
                have hcells:nums .u8 (Z4.map fun x => (x.toNat:Int))=Lib.byteCells Z4:=by simp [nums,Lib.byteCells]
                rw [hcells] at ho
                have hlen:(Lib.byteCells Z4).length=Z4.length:=Lib.byteCells_length _
                rcases hp with rfl|rfl
                · exact .inl ⟨by omega,v,hk,by rw [hlen];exact ho,hn⟩
                · exact .inr ⟨by omega,v,hk,by rw [hlen];exact ho,hn⟩
              have hbz:B≤wr.heap.size:=by have:=HB4.out.size;have:=HBE.out;omega
              have HBU:=Lib.hid (Tryz.Builder_String_any B (B+1) Z4 wr hstr hbz)
              clear hstr hbz hR
              go_wp2_with (fail)
              refine HBU.out.mono ?_
              rintro e w5 ⟨rfl,hb5⟩
              have HB5:=Lib.hid hb5
              clear hb5
              go_wp2_with (fail)
              go_ret
              refine ⟨by rw [HRZ.out];rfl,?_⟩
              have hE:=HBE.out
              subst hE
              exact HB4.out.trans HB5.out
end
end Go.Proofs.YtjiidlkkkednoaaGreatDoor.Q
end
