import Derived.Test.YtjdjljgbfpkbdaaGreatDoorZCutg
set_option linter.unusedVariables false
set_option linter.unusedSimpArgs false
namespace Go.Proofs.YtjdjljgbfpkbdaaGreatDoor.Q
open Go.RowKit Go.Proofs.YtjdjljgbfpkbdaaGreatDoorW.PrintWords
def esc (y:UInt8):Option UInt8:=if y=34 then some 34 else if y=92 then some 92 else if y=110 then some 10 else if y=116 then some 9 else if y=47 then some 47 else none
def unqGo:List UInt8→List UInt8→Nat→Option (List UInt8 × Nat)
 | [],_,_ => none
 | x :: r,acc,n =>
  if x<32∨126<x then none
  else if x=34 then some (acc,n+1)
  else if x=92 then
   match r with
   | [] => none
   | y :: r' => match esc y with
    | none => none
    | some z => unqGo r' (acc++[z]) (n+2)
  else unqGo r (acc++[x]) (n+1)
def unq:List UInt8→Option (List UInt8 × Nat)
 | 34 :: r => unqGo r [] 1
 | _ => none
theorem esc_cases (y:UInt8):(Lib.indexByte [34,92,110,116,47] y=0∧esc y=some 34)∨(Lib.indexByte [34,92,110,116,47] y=1∧esc y=some 92) ∨
  (Lib.indexByte [34,92,110,116,47] y=2∧esc y=some 10)∨(Lib.indexByte [34,92,110,116,47] y=3∧esc y=some 9)∨(Lib.indexByte [34,92,110,116,47] y=4∧esc y=some 47) ∨
  (Lib.indexByte [34,92,110,116,47] y=-1∧esc y=none):=by
 by_cases h0:y=34
 ·subst h0;exact .inl ⟨by decide,by decide⟩
 by_cases h1:y=92
 ·subst h1;exact .inr (.inl ⟨by decide,by decide⟩)
 by_cases h2:y=110
 ·subst h2;exact .inr (.inr (.inl ⟨by decide,by decide⟩))
 by_cases h3:y=116
 ·subst h3;exact .inr (.inr (.inr (.inl ⟨by decide,by decide⟩)))
 by_cases h4:y=47
 ·subst h4;exact .inr (.inr (.inr (.inr (.inl ⟨by decide,by decide⟩))))
 refine .inr (.inr (.inr (.inr (.inr ⟨?_,by simp [esc,h0,h1,h2,h3,h4]⟩))))
 have hge:=Lib.indexByte_ge [34,92,110,116,47] y
 rcases Int.lt_or_le (Lib.indexByte [34,92,110,116,47] y) 0 with h|h
 ·omega
 ·obtain ⟨n,hn⟩:=Int.eq_ofNat_of_zero_le h
  have hm:=List.mem_of_getElem? (Lib.indexByte_some hn).1
  simp at hm
  rcases hm with h|h|h|h|h
  ·exact absurd h h0
  ·exact absurd h h1
  ·exact absurd h h2
  ·exact absurd h h3
  ·exact absurd h h4
theorem isBuffer_keep {T e:TypeId} {B b:Nat} {bs:List Value} {w w':World} (h:Lib.IsBuffer T e B b bs w) (hk:∀ k,B≤k→k<w.heap.size→w'.heap[k]?=w.heap[k]?):Lib.IsBuffer T e B b bs w':=by
 obtain ⟨h1,v,lr,h2,h3,h4⟩:=h
 have hb:b<w.heap.size:=Lib.lt_of_heap h2
 exact ⟨h1,v,lr,(hk b h1 hb).trans h2,own_move h3 (fun k hk' => hk k (own_base h3 k hk') (own_lt h3 k hk')),h4⟩
theorem isBuffer_put {T e:TypeId} {B b:Nat} {bs:List Value} {w:World} (h:Lib.IsBuffer T e B b bs w) {p:Addr} (hp:p.block<B) (u:Value):Lib.IsBuffer T e B b bs (w.setCell p u) :=
 isBuffer_keep h fun k hk _ => Below.heap_setCell _ _ _ _ (by omega)
theorem blk_low {w w':World} {g B:Nat} {t:TypeId} {cs:Array Value} (h:Blk w g t cs) (hb:Below B w w') (hg:g<B):Blk w' g t cs:=(hb.block g hg).trans h
theorem byteCells_snoc (l:List UInt8) (x:UInt8):Lib.byteCells (l++[x])=Lib.byteCells l++[.int .u8 x.toNat]:=by simp [Lib.byteCells]
theorem byteCells_one (l:List UInt8):∀ v ∈ Lib.byteCells l,v.oneCell'=true:=by
 intro v hv
 simp [Lib.byteCells] at hv
 obtain ⟨x,_,rfl⟩:=hv
 rfl
theorem byteCells_len (l:List UInt8):(Lib.byteCells l).length=l.length:=by simp [Lib.byteCells]
def unqRes (r:Option (List UInt8 × Nat)):Value :=
 match r with
 | some (l,n) => .tuple #[.string ⟨l.toArray⟩,.int .i64 n,.bool true]
 | none => .tuple #[.string ⟨#[]⟩,.int .i64 0,.bool false]
theorem unqGo_bound:∀ (l acc:List UInt8) (n:Nat) (r:List UInt8 × Nat),unqGo l acc n=some r→n<r.2∧r.2≤n+l.length∧r.1.length≤acc.length+l.length
 | [],acc,n,r,h => by simp [unqGo] at h
 | x :: l,acc,n,r,h => by
  unfold unqGo at h
  split at h
  ·cases h
  split at h
  ·obtain rfl:=Option.some.inj h
   simp
  split at h
  ·cases l with
   | nil => simp at h
   | cons y l' =>
    simp only at h
    split at h
    ·cases h
    ·have:=unqGo_bound l' _ _ r h
     simp at this ⊢
     omega
  ·have:=unqGo_bound l _ _ r h
   simp at this ⊢
   omega
termination_by l => l.length
theorem unqGo_at (s:ByteArray) (k:Nat) (h:k<s.size) (acc:List UInt8):unqGo (s.data.toList.drop k) acc k =
  if s[k]<32∨126<s[k] then none else if s[k]=34 then some (acc,k+1) else if s[k]=92 then
   (match s.data.toList.drop (k+1) with|[] => none|y :: r' => match esc y with|none => none|some z => unqGo r' (acc++[z]) (k+2)) else unqGo (s.data.toList.drop (k+1)) (acc++[s[k]]) (k+1):=by
 rw [drop_at s k h,unqGo.eq_def]
theorem unqGo_end (s:ByteArray) (k:Nat) (h:s.size≤k) (acc:List UInt8):unqGo (s.data.toList.drop k) acc k=none:=by
 rw [List.drop_eq_nil_of_le (by simpa using h)];rfl
theorem unq_no (s:ByteArray) (hp:Lib.hasPrefix (s.data.toList.drop 0) [34]=false):unq s.data.toList=none:=by
 unfold unq
 split
 ·rename_i r h
  rw [List.drop_zero,h] at hp
  simp [Lib.hasPrefix] at hp
 ·rfl
theorem unq_yes (s:ByteArray) (hp:Lib.hasPrefix (s.data.toList.drop 0) [34]=true):unq s.data.toList=unqGo (s.data.toList.drop 1) [] 1:=by
 rw [List.drop_zero] at hp
 cases hl:s.data.toList with
 | nil => rw [hl] at hp;simp [Lib.hasPrefix] at hp
 | cons x r =>
  rw [hl] at hp
  have:x=34:=by
   simp [Lib.hasPrefix] at hp
   exact hp.symm
  subst this
  rfl
section
variable (w:World) (s:ByteArray)
set_option maxHeartbeats 2000000 in
set_option maxRecDepth 100000 in
theorem unquote_no (hp:Lib.hasPrefix (s.data.toList.drop 0) [34]=false) :
  Calls Tryz.prog 106 #[.string s] w fun e w' => e=.returned (unqRes none)∧Below w.heap.size w w':=by
 go_enter Tryz.func106,Tryz.ntmps106
 go_wp2_with (fail)
 refine (new_calls _ _).mono ?_
 rintro e w1 ⟨rfl,rfl⟩
 go_wp2_with (fail)
 refine (take_no _ w.heap.size s ⟨#[34]⟩ 0 (Blk.new _ _ _) (Nat.zero_le _) hp).mono ?_
 rintro e w1 ⟨rfl,hd⟩
 have HD:=Lib.hid hd
 clear hd
 go_wp2_with (fail)
 go_ret3
 obtain ⟨n,rfl⟩:=HD.out
 exact ⟨rfl,((Below.refl _ _).alloc (Nat.le_refl _) _).trans (pw_below_drewN (Below.refl _ _) n)⟩
theorem byte_call (set:ByteArray) (k:Nat) (i:Int) (hi:Lib.indexByte set.data.toList (if h:k<s.size then s[k] else 0)=i) :
  Calls Tryz.prog 45 #[.string set,.int .u8 (byteAt s k)] w fun e w' => e=.returned (.int .i64 i)∧w=w':=by
 have h1:=Tryz.strings_IndexByte set (byteAt s k) w
 have e:(byteAt s k).toNat.toUInt8=(if h:k<s.size then s[k] else 0):=by
  unfold byteAt
  split
  ·simp
  ·rfl
 rw [e,hi] at h1
 exact h1.mono fun _ _ ⟨he,hw⟩ => ⟨he,hw.symm⟩
set_option maxHeartbeats 4000000 in
set_option maxRecDepth 100000 in
theorem unquote_yes (hs:s.size≤140737488351232) (hp:Lib.hasPrefix (s.data.toList.drop 0) [34]=true) (R:Option (List UInt8 × Nat)) (HR:Hid (unqGo (s.data.toList.drop 1) [] 1=R)) :
  Calls Tryz.prog 106 #[.string s] w fun e w' => e=.returned (unqRes R)∧Below w.heap.size w w':=by
 have h1:1≤s.size:=by
  have:=(List.isPrefixOf_iff_prefix.1 hp).length_le
  simpa using this
 go_enter Tryz.func106,Tryz.ntmps106
 go_wp2_with (fail)
 refine (new_calls _ _).mono ?_
 rintro e w1 ⟨rfl,rfl⟩
 go_wp2_with (fail)
 refine (take_yes _ w.heap.size s ⟨#[34]⟩ 0 (Blk.new _ _ _) (Nat.zero_le _) hs hp).mono ?_
 rintro e w1 ⟨rfl,hc,hf⟩
 have HB1:Hid (Below w.heap.size w w1):=((Below.refl _ _).alloc (Nat.le_refl _) _).trans (hf.below (B:=w.heap.size) (by simp) (fun k hk => by omega))
 have HS1:Hid (w.heap.size<w1.heap.size):=by have:=hf.size;simp at this;exact this
 have HC:=Lib.hid hc
 clear hc hf
 go_wp2_with (fail)
 refine (peek_calls _ w.heap.size s 1 (HC.out.alloc _)).mono ?_
 rintro e w2 ⟨rfl,hd⟩
 have HD:=Lib.hid hd
 clear hd
 go_wp2_with (fail)
 go_loopg [7,8] (s.size - 1) (fun q b i wr => ∃ (k:Nat) (acc:List UInt8),q=s.size - k∧k≤s.size∧acc.length≤k∧unqGo (s.data.toList.drop k) acc k=R∧b=.int .u8 (byteAt s k)∧i=.bool (decide (k<s.size))∧Cur wr w.heap.size s k∧Lib.IsBuffer 143 5 w1.heap.size w1.heap.size (Lib.byteCells acc) wr∧Below w.heap.size w wr)
 case atStart =>
  obtain ⟨n,rfl⟩:=HD.out
  refine ⟨1,[],rfl,h1,by simp,HR.out,rfl,rfl,((HC.out.alloc _).drewN _),Lib.fresh_isBuffer _ _ _,?_⟩
  exact pw_below_drewN (HB1.out.alloc (Nat.le_of_lt HS1.out) _) n
 case round =>
  obtain ⟨k,acc,rfl,hk,ha,he,rfl,rfl,hc,hb,hbe⟩:=hrel
  have HE:=Lib.hid he
  have HK:=Lib.hid hc
  have HI:=Lib.hid hb
  have HW:=Lib.hid hbe
  have h1:=hc.cell 1
  have f1:=hc.unfrozen 1
  clear he hc hb hbe HD HC HB1 HR
  have hx:=byteAt_bd s k
  have hbx:∀ h:k<s.size,byteAt s k=s[k].toNat:=fun h => byteAt_lt s h
  have HX:=Lib.hid hbx
  clear hbx
  by_cases hlt:k<s.size
  ·have hd:decide (k<s.size)=true:=decide_eq_true hlt
   by_cases hlo:32≤byteAt s k
   ·by_cases hhi:byteAt s k≤126
    ·have hl1:decide (32≤byteAt s k)=true:=decide_eq_true hlo
     have hl2:decide (byteAt s k≤126)=true:=decide_eq_true hhi
     have hno:¬ (s[k]<32∨126<s[k]):=by
      have:=HX.out hlt
      rw [UInt8.lt_iff_toNat_lt,UInt8.lt_iff_toNat_lt]
      simp only [show (32:UInt8).toNat=32 from rfl,show (126:UInt8).toNat=126 from rfl]
      omega
     have HN:=Lib.hid hno
     clear hno
     by_cases hq:byteAt s k=34
     ·have hqb:(byteAt s k == 34)=true:=by simpa using hq
      have hR:R=some (acc,k+1):=by
       rw [← HE.out,unqGo_at s k hlt,if_neg HN.out,if_pos]
       have:=HX.out hlt
       exact UInt8.toNat.inj (by simp only [show (34:UInt8).toNat=34 from rfl];omega)
      have HRR:=Lib.hid hR
      clear hR hq
      go_wp2_with (fail)
      go_quiet ((first|(go_at_call 116;exact quiet_n (Tryz.Buffer_String w1.heap.size w1.heap.size acc _ (isBuffer_put HI.out HS1.out _)))|(go_at_call 117;exact quiet_eq' (at_calls _ _ _ _ ((HK.out.put 1 _).drewN _)))))
      go_wp2_with (fail)
      go_ret3
      rw [HRR.out]
      exact ⟨rfl,pw_below_drewN (HW.out.setCell (Nat.le_refl _) _) _⟩
     ·have hqb:(byteAt s k == 34)=false:=by simpa using hq
      by_cases hbs:byteAt s k=92
      ·have hbsb:(byteAt s k == 92)=true:=by simpa using hbs
       have h92:s[k]=92:=UInt8.toNat.inj (by have:=HX.out hlt;simp only [show (92:UInt8).toNat=92 from rfl];omega)
       have hE2:=HE.out
       rw [unqGo_at s k hlt,if_neg HN.out,if_neg (by rw [h92];decide),if_pos h92] at hE2
       have HE2:=Lib.hid hE2
       clear hE2 h92 hq hbs HE
       have hy:∀ r,(match s.data.toList.drop (k+1) with|[] => none|y :: r' => match esc y with|none => none|some z => unqGo r' (acc++[z]) (k+2))=r→∀ z,esc (if h:k+1<s.size then s[k+1] else 0)=some z→unqGo (s.data.toList.drop (k+2)) (acc++[z]) (k+2)=r∧k+1<s.size:=by
        intro r h z hz
        by_cases h1:k+1<s.size
        ·rw [dif_pos h1] at hz
         rw [drop_at s (k+1) h1] at h
         simp only [hz] at h
         exact ⟨h,h1⟩
        ·rw [dif_neg h1,show esc 0=none from by decide] at hz
         cases hz
       have HY:=Lib.hid hy
       clear hy
       rcases esc_cases (if h:k+1<s.size then s[k+1] else 0) with ⟨hi,hz⟩|⟨hi,hz⟩|⟨hi,hz⟩|⟨hi,hz⟩|⟨hi,hz⟩|⟨hi,hz⟩
       iterate 5
        ·obtain ⟨hr2,hl2'⟩:=HY.out R HE2.out _ hz
         have HRR:=Lib.hid hr2
         have HIX:=fun w => Lib.hid (byte_call w s ⟨#[34,92,110,116,47]⟩ (k+1) _ hi)
         have HL:Hid ((Lib.byteCells acc).length+1≤140737488355328):=by show _≤_;rw [byteCells_len];omega
         clear hr2 hi hz HY HE2
         go_wp2_with (fail)
         refine (peek_calls _ w.heap.size s (k+1) (HK.out.put 1 _)).mono ?_
         rintro e w3 ⟨rfl,hd3⟩
         have HD3:=Lib.hid hd3
         clear hd3
         obtain ⟨n3,hn3⟩:=HD3.out
         subst hn3
         go_wp2_with (fail)
         refine (HIX _).out.mono ?_
         rintro e w4 ⟨rfl,rfl⟩
         have HK4:Hid (Cur (((wr.setCell ⟨w.heap.size,1,none⟩ (.int .i64 (k+1))).drewN n3)) w.heap.size s ((k+1:Nat):Int)):=(HK.out.put 1 _)
         have g1:=HK4.out.cell 1
         have g2:=HK4.out.unfrozen 1
         go_wp2_with (fail)
         refine (Tryz.Buffer_WriteByte w1.heap.size w1.heap.size (Lib.byteCells acc) _ _ (isBuffer_put (w:=(wr.setCell ⟨w.heap.size,1,none⟩ (.int .i64 (k+1))).drewN n3) (isBuffer_put HI.out HS1.out _) HS1.out _) (Nat.le_of_lt (Lib.IsBuffer.lt (isBuffer_put (w:=(wr.setCell ⟨w.heap.size,1,none⟩ (.int .i64 (k+1))).drewN n3) (isBuffer_put HI.out HS1.out _) HS1.out _))) (byteCells_one acc) HL.out).mono ?_
         rintro e w5 ⟨rfl,hi5,hb5⟩
         have HC5:Hid (Cur w5 w.heap.size s ((k+2:Nat):Int)):=blk_low (HK4.out.put 1 _) hb5 HS1.out
         have HI5:=Lib.hid hi5
         have HB5:=Lib.hid hb5
         clear hi5 hb5
         go_wp2_with (fail)
         refine (peek_calls _ w.heap.size s (k+2) HC5.out).mono ?_
         rintro e w6 ⟨rfl,hd6⟩
         have HD6:=Lib.hid hd6
         clear hd6
         go_wp2_with (fail)
         go_roundg (s.size - (k+2))
         case measure => omega
         case rel =>
          obtain ⟨n,rfl⟩:=HD6.out
          refine ⟨k+2,acc++[_],rfl,by omega,by simp;omega,HRR.out,rfl,rfl,HC5.out.drewN _,?_,?_⟩
          ·rw [byteCells_snoc]
           exact HI5.out
          ·exact pw_below_drewN (((pw_below_drewN (HW.out.setCell (Nat.le_refl _) _) n3).setCell (Nat.le_refl _) _).trans (HB5.out.mono (Nat.le_of_lt HS1.out))) n
       ·have hR:R=none:=by
         rw [← HE2.out]
         by_cases h1:k+1<s.size
         ·rw [dif_pos h1] at hz
          rw [drop_at s (k+1) h1]
          simp only [hz]
         ·rw [List.drop_eq_nil_of_le (by simp;omega)]
        have HRR:=Lib.hid hR
        have HIX:=fun w => Lib.hid (byte_call w s ⟨#[34,92,110,116,47]⟩ (k+1) _ hi)
        clear hR hi hz HY HE2
        go_wp2_with (fail)
        refine (peek_calls _ w.heap.size s (k+1) (HK.out.put 1 _)).mono ?_
        rintro e w3 ⟨rfl,hd3⟩
        have HD3:=Lib.hid hd3
        clear hd3
        obtain ⟨n3,hn3⟩:=HD3.out
        subst hn3
        go_wp2_with (fail)
        refine (HIX _).out.mono ?_
        rintro e w4 ⟨rfl,rfl⟩
        go_wp2_with (fail)
        go_ret3
        rw [HRR.out]
        exact ⟨rfl,pw_below_drewN (HW.out.setCell (Nat.le_refl _) _) n3⟩
      ·have hbsb:(byteAt s k == 92)=false:=by simpa using hbs
       have hR:unqGo (s.data.toList.drop (k+1)) (acc++[s[k]]) (k+1)=R:=by
        rw [← HE.out,unqGo_at s k hlt,if_neg HN.out,if_neg,if_neg]
        ·intro he
         have:=HX.out hlt
         rw [he] at this
         exact hbs this
        ·intro he
         have:=HX.out hlt
         rw [he] at this
         exact hq this
       have HRR:=Lib.hid hR
       have HL:Hid ((Lib.byteCells acc).length+1≤140737488355328):=by show _≤_;rw [byteCells_len];omega
       clear hR hq hbs
       go_wp2_with (fail)
       refine (Tryz.Buffer_WriteByte w1.heap.size w1.heap.size (Lib.byteCells acc) _ _ (isBuffer_put HI.out HS1.out _) (Nat.le_of_lt (Lib.IsBuffer.lt (isBuffer_put HI.out HS1.out _))) (byteCells_one acc) HL.out).mono ?_
       rintro e w3 ⟨rfl,hi3,hb3⟩
       have HC3:Hid (Cur w3 w.heap.size s ((k+1:Nat):Int)):=blk_low (HK.out.put 1 _) hb3 HS1.out
       have HI3:=Lib.hid hi3
       have HB3:=Lib.hid hb3
       clear hi3 hb3
       go_wp2_with (fail)
       refine (peek_calls _ w.heap.size s (k+1) HC3.out).mono ?_
       rintro e w4 ⟨rfl,hd4⟩
       have HD4:=Lib.hid hd4
       clear hd4
       go_wp2_with (fail)
       go_roundg (s.size - (k+1))
       case measure => omega
       case rel =>
        obtain ⟨n,rfl⟩:=HD4.out
        refine ⟨k+1,acc++[s[k]],rfl,by omega,by simp;omega,HRR.out,rfl,rfl,HC3.out.drewN _,?_,?_⟩
        ·rw [byteCells_snoc,← HX.out hlt]
         exact HI3.out
        ·exact pw_below_drewN ((HW.out.setCell (Nat.le_refl _) _).trans (HB3.out.mono (Nat.le_of_lt HS1.out))) n
    ·have hl1:decide (32≤byteAt s k)=true:=decide_eq_true hlo
     have hl2:decide (byteAt s k≤126)=false:=decide_eq_false hhi
     have hR:R=none:=by
      rw [← HE.out,unqGo_at s k hlt,if_pos]
      right
      have:=HX.out hlt
      rw [UInt8.lt_iff_toNat_lt]
      simp only [show (126:UInt8).toNat=126 from rfl]
      omega
     have HRR:=Lib.hid hR
     clear hR
     go_wp2_with (fail)
     go_ret3
     rw [HRR.out]
     exact ⟨rfl,HW.out⟩
   ·have hl1:decide (32≤byteAt s k)=false:=decide_eq_false hlo
    have hR:R=none:=by
     rw [← HE.out,unqGo_at s k hlt,if_pos]
     left
     have:=HX.out hlt
     rw [UInt8.lt_iff_toNat_lt]
     simp only [show (32:UInt8).toNat=32 from rfl]
     omega
    have HRR:=Lib.hid hR
    clear hR
    go_wp2_with (fail)
    go_ret3
    rw [HRR.out]
    exact ⟨rfl,HW.out⟩
  ·have hd:decide (k<s.size)=false:=decide_eq_false hlt
   have hR:R=none:=HE.out.symm.trans (unqGo_end s k (by omega) acc)
   have HRR:=Lib.hid hR
   clear hR
   go_wp2_with (fail)
   go_ret3
   rw [HRR.out]
   exact ⟨rfl,HW.out⟩
theorem unquote_calls (hs:s.size≤140737488351232) :
  Calls Tryz.prog 106 #[.string s] w fun e w' => e=.returned (unqRes (unq s.data.toList))∧Below w.heap.size w w':=by
 by_cases hp:Lib.hasPrefix (s.data.toList.drop 0) [34]=true
 ·rw [unq_yes s hp]
  exact unquote_yes w s hs hp _ (Lib.hid rfl)
 ·have hp':Lib.hasPrefix (s.data.toList.drop 0) [34]=false:=by simpa using hp
  rw [unq_no s hp']
  exact unquote_no w s hp'
end
end Go.Proofs.YtjdjljgbfpkbdaaGreatDoor.Q
