import Derived.Test.YtjiidlkkkednoaaGreatDoorZBaseg
import Derived.Test.YtjiidlkkkednoaaGreatDoorZR0g
import Derived.StillTailTactics
import Derived.Test.YtjiidlkkkednoaaGreatDoorZVqg
import Derived.Test.YtjiidlkkkednoaaGreatDoorZRg
import Derived.ScopeJumps
import Derived.Lib.Bytealg
set_option linter.unusedVariables false
set_option linter.unusedSimpArgs false
section
namespace Go.Proofs.YtjiidlkkkednoaaGreatDoor.Q
open Go.RowKit Go.Proofs.YtjiidlkkkednoaaGreatDoorW.PrintWords
theorem drop_at (s:ByteArray) (i:Nat) (h:i<s.size):s.data.toList.drop i=s[i] :: s.data.toList.drop (i+1):=by
  rw [List.drop_eq_getElem_cons (by simpa using h)];rfl
end Go.Proofs.YtjiidlkkkednoaaGreatDoor.Q
end
section
namespace Go.Proofs.YtjiidlkkkednoaaGreatDoor.Q
open Go.RowKit Go.Proofs.YtjiidlkkkednoaaGreatDoorW.PrintWords
def okSign (c:UInt8):Bool:=(97≤c && c≤122) || (48≤c && c≤57) || c == 46 || c == 45 || c == 95
def okSignI (x:Int):Bool:=(decide (97≤x) && decide (x≤122)) || (decide (48≤x) && decide (x≤57)) || x == 46 || x == 45 || x == 95
theorem okSign_int (c:UInt8):okSignI (c.toNat:Int)=okSign c:=by
  unfold okSignI okSign
  rw [Bool.eq_iff_iff]
  simp only [Bool.or_eq_true,Bool.and_eq_true,decide_eq_true_eq,beq_iff_eq,UInt8.le_iff_toNat_le,← UInt8.toNat_inj]
  simp only [show (97:UInt8).toNat=97 from rfl,show (122:UInt8).toNat=122 from rfl,show (48:UInt8).toNat=48 from rfl,show (57:UInt8).toNat=57 from rfl,show (46:UInt8).toNat=46 from rfl,show (45:UInt8).toNat=45 from rfl,show (95:UInt8).toNat=95 from rfl]
  omega
theorem bt_at' (s:ByteArray) (i:Nat) (h:i<s.size):bt s (i:Int)=(s[i].toNat:Int):=by
  have:=bt_at s (i:Int) (by simpa using h)
  rw [← this];rfl
theorem signs_step (k:Nat) (s:ByteArray) (n i:Int) (h0:i<n) (h1:0≤i) (h2:i<(s.size:Int)) :
    R.path_signs.l0 (k+1) s n i=if okSignI (bt s i)=true then R.path_signs.l0 k s n (wrap64 (i+1)) else some false:=by
  simp only [R.path_signs.l0]
  rw [if_pos h0,if_pos h1,if_pos h2]
  generalize bt s i=x
  generalize R.path_signs.l0 k s n (wrap64 (i+1))=y
  have e:okSignI x=true↔(97≤x∧x≤122)∨(48≤x∧x≤57)∨x=46∨x=45∨x=95:=by
    simp [okSignI,or_assoc]
  simp only [e]
  clear e h0 h1 h2
  repeat' split
  all_goals first|rfl|(exfalso;omega)
theorem signs_at (s:ByteArray) (hs:s.size≤140737488351232):∀ (d k i:Nat),s.size=i+d→d<k→R.path_signs.l0 k s (s.size:Int) (i:Int)=some ((s.data.toList.drop i).all okSign)
  | 0,k,i,hd,hk => by
    obtain ⟨k,rfl⟩:∃ m,k=m+1:=⟨k - 1,by omega⟩
    simp only [R.path_signs.l0]
    rw [if_neg (by omega),List.drop_eq_nil_of_le (by simp;omega)]
    rfl
  | d+1,k,i,hd,hk => by
    obtain ⟨k,rfl⟩:∃ m,k=m+1:=⟨k - 1,by omega⟩
    have hi:i<s.size:=by omega
    rw [signs_step k s _ _ (by omega) (by omega) (by omega),drop_at s i hi,List.all_cons,bt_at' s i hi,okSign_int]
    have hw:wrap64 ((i:Int)+1)=((i+1:Nat):Int):=by unfold wrap64;omega
    rw [hw]
    cases okSign s[i] with
    | true => simpa using signs_at s hs d k (i+1) (by omega) (by omega)
    | false => simp
theorem signs_calls (l:List UInt8) (w:World) (hl:l.length≤140737488351232) :
    Calls Tryz.prog 71 #[.string (bs l)] w fun e w' => e=.returned (.bool (l.all okSign))∧Drawn0 w w':=by
  have h:=signs_at (bs l) (by rw [size_bs];exact hl) (bs l).size ((bs l).size+1) 0 (by omega) (by omega)
  rw [List.drop_zero,data_bs] at h
  exact R.path_signs.calls ((bs l).size+1) (bs l) _ w h
def okWord (w:List UInt8):Bool:=!(w == []) && !(w == [46]) && !(w == [46,46]) && w.all okSign
def rightL (l:List UInt8):Bool:=decide (1≤l.length) && decide (l.length≤40) && (parts 47 l).all okWord
set_option maxHeartbeats 2000000 in
set_option maxRecDepth 100000 in
theorem pright_calls (l0:List UInt8) (w:World) (hl0:l0.length≤140737488351232) :
    Calls Tryz.prog 35 #[.string (bs l0)] w fun e w' => e=.returned (.bool (rightL l0))∧Drawn0 w w':=by
  have hz:(bs l0).size≤140737488351232:=by rw [size_bs];exact hl0
  by_cases h1:(bs l0).size<1
  · have hr:rightL l0=false:=by
      rw [size_bs] at h1
      simp [rightL];omega
    rw [hr]
    go_enter Tryz.func35,Tryz.ntmps35
    go_wp2
    go_step3
    go_wp2
    go_ret
    exact ⟨rfl,Drawn0.refl _⟩
  · by_cases h2:(bs l0).size > 40
    · have h2':40<(bs l0).size:=h2
      have d1:decide ((bs l0).size<1)=false:=decide_eq_false h1
      have d2:decide (40<(bs l0).size)=true:=decide_eq_true h2
      have hr:rightL l0=false:=by
        rw [size_bs] at h2
        simp [rightL];omega
      rw [hr]
      go_enter Tryz.func35,Tryz.ntmps35
      go_wp2
      go_step3
      go_wp2
      (try rw [Exit.noGoto_ret])
      go_ret
      exact ⟨rfl,Drawn0.refl _⟩
    · have hr:rightL l0=(parts 47 l0).all okWord:=by
        rw [size_bs] at h1 h2
        unfold rightL
        rw [decide_eq_true (by omega:1≤l0.length),decide_eq_true (by omega:l0.length≤40)]
        rfl
      rw [hr]
      generalize hR:(parts 47 l0).all okWord=R
      have HR:=Lib.hid hR
      clear hR hr
      go_enter Tryz.func35,Tryz.ntmps35
      go_wp2
      refine wp_scope_jumps 0 (fun a' w' => ∃ (l:List UInt8) (u5 u6 u7 u8 u9 u10 u11 u12 u13 u14 u15 u16 u17 u18 u19 u20 u21 u22 u23 u24 u25 u26 u27 u28 u29 u30 u31 u32 u33 u34 u35 u36:Value),a'={ tmps:=#[.string (bs l0),undef,.bool false,.string (bs l),.bool true,u5,u6,u7,u8,u9,u10,u11,u12,u13,u14,u15,u16,u17,u18,u19,u20,u21,u22,u23,u24,u25,u26,u27,u28,u29,u30,u31,u32,u33,u34,u35,u36],defers:=[] }∧(parts 47 l).all okWord=R∧l.length≤40∧Drawn0 w w') (fun a' _ => match a'.tmps.getD 3 undef with|Value.string s => s.size|_ => 0) rfl ?_ ?_
      · have HP:=HR
        have HD:Hid (Drawn0 w w):=Drawn0.refl w
        have d1:decide ((bs l0).size<1)=false:=decide_eq_false h1
        have d2:decide (40<(bs l0).size)=false:=decide_eq_false h2
        have hl:l0.length≤40:=by rw [size_bs] at h2;omega
        have hall:∀ b,l0.contains 47=b→(okWord (cutL l0 47) && (if b=true then (parts 47 (cutR l0 47)).all okWord else true))=R:=by
          intro b hb
          rw [← HP.out,parts_cut 47 l0,hb,List.all_cons]
          cases b <;> rfl
        have HA:=Lib.hid hall
        clear hall HP
        have hcl:(cutR l0 47).length≤l0.length - 1:=by
          unfold cutR
          have:=(List.dropWhile_suffix (· != (47:UInt8)) (l:=l0)).length_le
          simp
          omega
        have hcw:(cutL l0 47).length≤l0.length:=(List.takeWhile_prefix _).length_le
        cases hb:l0.contains 47 with
        | true =>
          have HB:=Lib.hid hb
          have hne:0<l0.length:=by
            cases l0 with
            | nil => cases hb
            | cons => simp
          clear hb
          go_wp2_with (fail)
          go_step3
          go_wp2_with (fail)
          refine (cut_calls l0 47 true HB.out _ (by omega)).mono ?_
          rintro e w1 ⟨rfl,hd1⟩
          have HD1:=Lib.hid hd1
          clear hd1
          by_cases c0:(bs (cutL l0 47)).toList=[]
          · have hR:R=false:=by
              rw [← HA.out true HB.out,okWord,show cutL l0 47=[] from by rw [← toList_bs (cutL l0 47),c0]]
              rfl
            have HRR:=Lib.hid hR
            clear hR
            go_wp2_with (fail)
            simp only [Exit.jump]
            go_ret
            rw [HRR.out]
            exact ⟨rfl,drawn_trans HD.out HD1.out⟩
          have e0:(bs (cutL l0 47)).toList.isEmpty=false:=by simpa using c0
          by_cases c1:(bs (cutL l0 47)).toList=[46]
          · have hR:R=false:=by
              rw [← HA.out true HB.out,okWord,show cutL l0 47=[46] from by rw [← toList_bs (cutL l0 47),c1]]
              rfl
            have HRR:=Lib.hid hR
            clear hR
            go_wp2_with (fail)
            simp only [Exit.jump]
            go_ret
            rw [HRR.out]
            exact ⟨rfl,drawn_trans HD.out HD1.out⟩
          have e1:((bs (cutL l0 47)).toList == [46])=false:=by simpa using c1
          by_cases c2:(bs (cutL l0 47)).toList=[46,46]
          · have hR:R=false:=by
              rw [← HA.out true HB.out,okWord,show cutL l0 47=[46,46] from by rw [← toList_bs (cutL l0 47),c2]]
              rfl
            have HRR:=Lib.hid hR
            clear hR
            go_wp2_with (fail)
            simp only [Exit.jump]
            go_ret
            rw [HRR.out]
            exact ⟨rfl,drawn_trans HD.out HD1.out⟩
          have e2:((bs (cutL l0 47)).toList == [46,46])=false:=by simpa using c2
          have hw:okWord (cutL l0 47)=(cutL l0 47).all okSign:=by
            rw [toList_bs] at c0 c1 c2
            simp [okWord,c0,c1,c2]
          have HW:=Lib.hid hw
          clear hw
          cases hs:(cutL l0 47).all okSign with
          | false =>
            have hR:R=false:=by
              rw [← HA.out true HB.out,HW.out,hs]
              rfl
            have HRR:=Lib.hid hR
            have HS:=Lib.hid hs
            clear hR hs
            go_wp2_with (fail)
            have hsc:=signs_calls (cutL l0 47) w1 (by omega)
            rw [HS.out] at hsc
            refine hsc.mono ?_
            clear hsc
            rintro e w2 ⟨rfl,hd2⟩
            have HD2:=Lib.hid hd2
            clear hd2
            go_wp2_with (fail)
            simp only [Exit.jump]
            go_ret
            rw [HRR.out]
            exact ⟨rfl,drawn_trans (drawn_trans HD.out HD1.out) HD2.out⟩
          | true =>
            have hR:R=(parts 47 (cutR l0 47)).all okWord:=by
              rw [← HA.out true HB.out,HW.out,hs]
              rw [Bool.true_and,if_pos rfl]
            have HRR:=Lib.hid hR
            have HS:=Lib.hid hs
            clear hR hs
            go_wp2_with (fail)
            have hsc:=signs_calls (cutL l0 47) w1 (by omega)
            rw [HS.out] at hsc
            refine hsc.mono ?_
            clear hsc
            rintro e w2 ⟨rfl,hd2⟩
            have HD2:=Lib.hid hd2
            clear hd2
            go_wp2_with (fail)
            go_step3
            exact ⟨rfl,cutR l0 47,_,_,_,_,_,_,_,_,_,_,_,_,_,_,_,_,_,_,_,_,_,_,_,_,_,_,_,_,_,_,_,_,rfl,HRR.out.symm,by omega,drawn_trans (drawn_trans HD.out HD1.out) HD2.out⟩
        | false =>
          have HB:=Lib.hid hb
          clear hb
          go_wp2_with (fail)
          go_step3
          go_wp2_with (fail)
          refine (cut_calls l0 47 false HB.out _ (by omega)).mono ?_
          rintro e w1 ⟨rfl,hd1⟩
          have HD1:=Lib.hid hd1
          clear hd1
          by_cases c0:(bs (cutL l0 47)).toList=[]
          · have hR:R=false:=by
              rw [← HA.out false HB.out,okWord,show cutL l0 47=[] from by rw [← toList_bs (cutL l0 47),c0]]
              rfl
            have HRR:=Lib.hid hR
            clear hR
            go_wp2_with (fail)
            simp only [Exit.jump]
            go_ret
            rw [HRR.out]
            exact ⟨rfl,drawn_trans HD.out HD1.out⟩
          have e0:(bs (cutL l0 47)).toList.isEmpty=false:=by simpa using c0
          by_cases c1:(bs (cutL l0 47)).toList=[46]
          · have hR:R=false:=by
              rw [← HA.out false HB.out,okWord,show cutL l0 47=[46] from by rw [← toList_bs (cutL l0 47),c1]]
              rfl
            have HRR:=Lib.hid hR
            clear hR
            go_wp2_with (fail)
            simp only [Exit.jump]
            go_ret
            rw [HRR.out]
            exact ⟨rfl,drawn_trans HD.out HD1.out⟩
          have e1:((bs (cutL l0 47)).toList == [46])=false:=by simpa using c1
          by_cases c2:(bs (cutL l0 47)).toList=[46,46]
          · have hR:R=false:=by
              rw [← HA.out false HB.out,okWord,show cutL l0 47=[46,46] from by rw [← toList_bs (cutL l0 47),c2]]
              rfl
            have HRR:=Lib.hid hR
            clear hR
            go_wp2_with (fail)
            simp only [Exit.jump]
            go_ret
            rw [HRR.out]
            exact ⟨rfl,drawn_trans HD.out HD1.out⟩
          have e2:((bs (cutL l0 47)).toList == [46,46])=false:=by simpa using c2
          have hw:okWord (cutL l0 47)=(cutL l0 47).all okSign:=by
            rw [toList_bs] at c0 c1 c2
            simp [okWord,c0,c1,c2]
          have HW:=Lib.hid hw
          clear hw
          cases hs:(cutL l0 47).all okSign with
          | false =>
            have hR:R=false:=by
              rw [← HA.out false HB.out,HW.out,hs]
              rfl
            have HRR:=Lib.hid hR
            have HS:=Lib.hid hs
            clear hR hs
            go_wp2_with (fail)
            have hsc:=signs_calls (cutL l0 47) w1 (by omega)
            rw [HS.out] at hsc
            refine hsc.mono ?_
            clear hsc
            rintro e w2 ⟨rfl,hd2⟩
            have HD2:=Lib.hid hd2
            clear hd2
            go_wp2_with (fail)
            simp only [Exit.jump]
            go_ret
            rw [HRR.out]
            exact ⟨rfl,drawn_trans (drawn_trans HD.out HD1.out) HD2.out⟩
          | true =>
            have hR:R=true:=by
              rw [← HA.out false HB.out,HW.out,hs]
              rfl
            have HRR:=Lib.hid hR
            have HS:=Lib.hid hs
            clear hR hs
            go_wp2_with (fail)
            have hsc:=signs_calls (cutL l0 47) w1 (by omega)
            rw [HS.out] at hsc
            refine hsc.mono ?_
            clear hsc
            rintro e w2 ⟨rfl,hd2⟩
            have HD2:=Lib.hid hd2
            clear hd2
            go_wp2_with (fail)
            simp only [Exit.jump]
            go_ret
            rw [HRR.out]
            exact ⟨rfl,drawn_trans (drawn_trans HD.out HD1.out) HD2.out⟩
      · rintro a' w' ⟨l,u5,u6,u7,u8,u9,u10,u11,u12,u13,u14,u15,u16,u17,u18,u19,u20,u21,u22,u23,u24,u25,u26,u27,u28,u29,u30,u31,u32,u33,u34,u35,u36,rfl,hp,hl,hd⟩
        have HP:=Lib.hid hp
        have HD:=Lib.hid hd
        clear hp hd
        have hall:∀ b,l.contains 47=b→(okWord (cutL l 47) && (if b=true then (parts 47 (cutR l 47)).all okWord else true))=R:=by
          intro b hb
          rw [← HP.out,parts_cut 47 l,hb,List.all_cons]
          cases b <;> rfl
        have HA:=Lib.hid hall
        clear hall HP
        have hcl:(cutR l 47).length≤l.length - 1:=by
          unfold cutR
          have:=(List.dropWhile_suffix (· != (47:UInt8)) (l:=l)).length_le
          simp
          omega
        have hcw:(cutL l 47).length≤l.length:=(List.takeWhile_prefix _).length_le
        cases hb:l.contains 47 with
        | true =>
          have HB:=Lib.hid hb
          have hne:0<l.length:=by
            cases l with
            | nil => cases hb
            | cons => simp
          clear hb
          go_wp2_with (fail)
          refine (cut_calls l 47 true HB.out _ (by omega)).mono ?_
          rintro e w1 ⟨rfl,hd1⟩
          have HD1:=Lib.hid hd1
          clear hd1
          by_cases c0:(bs (cutL l 47)).toList=[]
          · have hR:R=false:=by
              rw [← HA.out true HB.out,okWord,show cutL l 47=[] from by rw [← toList_bs (cutL l 47),c0]]
              rfl
            have HRR:=Lib.hid hR
            clear hR
            go_wp2_with (fail)
            simp only [Exit.jump]
            go_ret
            rw [HRR.out]
            exact ⟨rfl,drawn_trans HD.out HD1.out⟩
          have e0:(bs (cutL l 47)).toList.isEmpty=false:=by simpa using c0
          by_cases c1:(bs (cutL l 47)).toList=[46]
          · have hR:R=false:=by
              rw [← HA.out true HB.out,okWord,show cutL l 47=[46] from by rw [← toList_bs (cutL l 47),c1]]
              rfl
            have HRR:=Lib.hid hR
            clear hR
            go_wp2_with (fail)
            simp only [Exit.jump]
            go_ret
            rw [HRR.out]
            exact ⟨rfl,drawn_trans HD.out HD1.out⟩
          have e1:((bs (cutL l 47)).toList == [46])=false:=by simpa using c1
          by_cases c2:(bs (cutL l 47)).toList=[46,46]
          · have hR:R=false:=by
              rw [← HA.out true HB.out,okWord,show cutL l 47=[46,46] from by rw [← toList_bs (cutL l 47),c2]]
              rfl
            have HRR:=Lib.hid hR
            clear hR
            go_wp2_with (fail)
            simp only [Exit.jump]
            go_ret
            rw [HRR.out]
            exact ⟨rfl,drawn_trans HD.out HD1.out⟩
          have e2:((bs (cutL l 47)).toList == [46,46])=false:=by simpa using c2
          have hw:okWord (cutL l 47)=(cutL l 47).all okSign:=by
            rw [toList_bs] at c0 c1 c2
            simp [okWord,c0,c1,c2]
          have HW:=Lib.hid hw
          clear hw
          cases hs:(cutL l 47).all okSign with
          | false =>
            have hR:R=false:=by
              rw [← HA.out true HB.out,HW.out,hs]
              rfl
            have HRR:=Lib.hid hR
            have HS:=Lib.hid hs
            clear hR hs
            go_wp2_with (fail)
            have hsc:=signs_calls (cutL l 47) w1 (by omega)
            rw [HS.out] at hsc
            refine hsc.mono ?_
            clear hsc
            rintro e w2 ⟨rfl,hd2⟩
            have HD2:=Lib.hid hd2
            clear hd2
            go_wp2_with (fail)
            simp only [Exit.jump]
            go_ret
            rw [HRR.out]
            exact ⟨rfl,drawn_trans (drawn_trans HD.out HD1.out) HD2.out⟩
          | true =>
            have hR:R=(parts 47 (cutR l 47)).all okWord:=by
              rw [← HA.out true HB.out,HW.out,hs]
              rw [Bool.true_and,if_pos rfl]
            have HRR:=Lib.hid hR
            have HS:=Lib.hid hs
            clear hR hs
            go_wp2_with (fail)
            have hsc:=signs_calls (cutL l 47) w1 (by omega)
            rw [HS.out] at hsc
            refine hsc.mono ?_
            clear hsc
            rintro e w2 ⟨rfl,hd2⟩
            have HD2:=Lib.hid hd2
            clear hd2
            go_wp2_with (fail)
            go_step3
            exact ⟨rfl,⟨cutR l 47,_,_,_,_,_,_,_,_,_,_,_,_,_,_,_,_,_,_,_,_,_,_,_,_,_,_,_,_,_,_,_,_,rfl,HRR.out.symm,by omega,drawn_trans (drawn_trans HD.out HD1.out) HD2.out⟩,by show (bs (cutR l 47)).size<(bs l).size;rw [size_bs,size_bs];omega⟩
        | false =>
          have HB:=Lib.hid hb
          clear hb
          go_wp2_with (fail)
          refine (cut_calls l 47 false HB.out _ (by omega)).mono ?_
          rintro e w1 ⟨rfl,hd1⟩
          have HD1:=Lib.hid hd1
          clear hd1
          by_cases c0:(bs (cutL l 47)).toList=[]
          · have hR:R=false:=by
              rw [← HA.out false HB.out,okWord,show cutL l 47=[] from by rw [← toList_bs (cutL l 47),c0]]
              rfl
            have HRR:=Lib.hid hR
            clear hR
            go_wp2_with (fail)
            simp only [Exit.jump]
            go_ret
            rw [HRR.out]
            exact ⟨rfl,drawn_trans HD.out HD1.out⟩
          have e0:(bs (cutL l 47)).toList.isEmpty=false:=by simpa using c0
          by_cases c1:(bs (cutL l 47)).toList=[46]
          · have hR:R=false:=by
              rw [← HA.out false HB.out,okWord,show cutL l 47=[46] from by rw [← toList_bs (cutL l 47),c1]]
              rfl
            have HRR:=Lib.hid hR
            clear hR
            go_wp2_with (fail)
            simp only [Exit.jump]
            go_ret
            rw [HRR.out]
            exact ⟨rfl,drawn_trans HD.out HD1.out⟩
          have e1:((bs (cutL l 47)).toList == [46])=false:=by simpa using c1
          by_cases c2:(bs (cutL l 47)).toList=[46,46]
          · have hR:R=false:=by
              rw [← HA.out false HB.out,okWord,show cutL l 47=[46,46] from by rw [← toList_bs (cutL l 47),c2]]
              rfl
            have HRR:=Lib.hid hR
            clear hR
            go_wp2_with (fail)
            simp only [Exit.jump]
            go_ret
            rw [HRR.out]
            exact ⟨rfl,drawn_trans HD.out HD1.out⟩
          have e2:((bs (cutL l 47)).toList == [46,46])=false:=by simpa using c2
          have hw:okWord (cutL l 47)=(cutL l 47).all okSign:=by
            rw [toList_bs] at c0 c1 c2
            simp [okWord,c0,c1,c2]
          have HW:=Lib.hid hw
          clear hw
          cases hs:(cutL l 47).all okSign with
          | false =>
            have hR:R=false:=by
              rw [← HA.out false HB.out,HW.out,hs]
              rfl
            have HRR:=Lib.hid hR
            have HS:=Lib.hid hs
            clear hR hs
            go_wp2_with (fail)
            have hsc:=signs_calls (cutL l 47) w1 (by omega)
            rw [HS.out] at hsc
            refine hsc.mono ?_
            clear hsc
            rintro e w2 ⟨rfl,hd2⟩
            have HD2:=Lib.hid hd2
            clear hd2
            go_wp2_with (fail)
            simp only [Exit.jump]
            go_ret
            rw [HRR.out]
            exact ⟨rfl,drawn_trans (drawn_trans HD.out HD1.out) HD2.out⟩
          | true =>
            have hR:R=true:=by
              rw [← HA.out false HB.out,HW.out,hs]
              rfl
            have HRR:=Lib.hid hR
            have HS:=Lib.hid hs
            clear hR hs
            go_wp2_with (fail)
            have hsc:=signs_calls (cutL l 47) w1 (by omega)
            rw [HS.out] at hsc
            refine hsc.mono ?_
            clear hsc
            rintro e w2 ⟨rfl,hd2⟩
            have HD2:=Lib.hid hd2
            clear hd2
            go_wp2_with (fail)
            simp only [Exit.jump]
            go_ret
            rw [HRR.out]
            exact ⟨rfl,drawn_trans (drawn_trans HD.out HD1.out) HD2.out⟩
end Go.Proofs.YtjiidlkkkednoaaGreatDoor.Q
end
section
namespace Go.Proofs.YtjiidlkkkednoaaGreatDoor.Q
open Go.RowKit Go.Proofs.YtjiidlkkkednoaaGreatDoorW.PrintWords
def path_Right.f (a0:ByteArray):Option Bool:=if a0.size≤140737488351232 then some (rightL a0.data.toList) else none
theorem path_Right.calls (a0:ByteArray) (r:Bool) (w:World) (h:path_Right.f a0=some r) :
    Calls Tryz.prog 35 #[.string a0] w fun e w' => e=.returned (.bool r)∧Drawn0 w w':=by
  unfold path_Right.f at h
  split at h
  · next hs =>
    obtain rfl:=Option.some.inj h
    have:=pright_calls a0.data.toList w (by simpa using hs)
    rw [bs_data] at this
    exact this
  · cases h
def strings_Compare.f (a0:ByteArray) (a1:ByteArray):Option Int:=some (Lib.compareBytes a0.data.toList a1.data.toList)
theorem strings_Compare.calls (a0:ByteArray) (a1:ByteArray) (r:Int) (w:World) (h:strings_Compare.f a0 a1=some r) :
    Calls Tryz.prog 40 #[.string a0,.string a1] w fun e w' => e=.returned (.int .i64 r)∧Drawn0 w w':=by
  obtain rfl:=Option.some.inj h
  refine (Tryz.strings_Compare a0 a1 w).mono ?_
  rintro e w' ⟨he,rfl⟩
  exact ⟨he,Drawn0.refl _⟩
end Go.Proofs.YtjiidlkkkednoaaGreatDoor.Q
end
section
namespace Go.Proofs.YtjiidlkkkednoaaGreatDoor.Q
def pieces:List UInt8→List (List UInt8)
  | [] => [[]]
  | b :: t => if b=10 then [10] :: pieces t else
    match pieces t with
    | [] => [[b]]
    | p :: ps => (b :: p) :: ps
theorem pieces_cons (b:UInt8) (t:List UInt8):pieces (b :: t)=if b=10 then [10] :: pieces t else match pieces t with|[] => [[b]]|p :: ps => (b :: p) :: ps:=rfl
theorem pieces_ne (s:List UInt8):pieces s≠[]:=by
  cases s with
  | nil => simp [pieces]
  | cons b t =>
    unfold pieces
    split
    · simp
    · split <;> simp
theorem pieces_flat:∀ (s:List UInt8),(pieces s).flatten=s
  | [] => by simp [pieces]
  | b :: t => by
    have ht:=pieces_flat t
    unfold pieces
    split
    · rename_i h;simp [ht,h]
    · split
      · rename_i h;exact absurd h (pieces_ne t)
      · rename_i p ps h;rw [h] at ht;simpa using ht
theorem pieces_len:∀ (s:List UInt8),(pieces s).length≤s.length+1
  | [] => by simp [pieces]
  | b :: t => by
    have ht:=pieces_len t
    unfold pieces
    split
    · simp;omega
    · split
      · simp
      · rename_i p ps h;rw [h] at ht;simp at ht ⊢;omega
theorem pieces_index:∀ r:List UInt8,(Lib.indexByte r 10=-1∧pieces r=[r])∨∃ i:Nat,Lib.indexByte r 10=i∧i<r.length∧pieces r=r.take (i+1) :: pieces (r.drop (i+1))
  | [] => .inl ⟨rfl,rfl⟩
  | b :: t => by
    by_cases hb:b=10
    · subst hb
      exact .inr ⟨0,by simp [Lib.indexByte],by simp,by simp [pieces]⟩
    · have hb':(b == 10)=false:=by simpa using hb
      rcases pieces_index t with ⟨h1,h2⟩|⟨i,h1,h2,h3⟩
      · refine .inl ⟨by simp [Lib.indexByte,hb',h1],?_⟩
        rw [pieces_cons,if_neg hb,h2]
      · refine .inr ⟨i+1,?_,by simpa using h2,?_⟩
        · simp only [Lib.indexByte,hb',h1]
          have:((i:Int) == -1)=false:=by simp
          simp [this]
        · rw [pieces_cons,if_neg hb,h3]
          simp
end Go.Proofs.YtjiidlkkkednoaaGreatDoor.Q
end
section
namespace Go.Proofs.YtjiidlkkkednoaaGreatDoor.Q
open Go.RowKit
def moduleW:List UInt8:=[109,111,100,117,108,101]
def requireW:List UInt8:=[114,101,113,117,105,114,101]
def excludeW:List UInt8:=[101,120,99,108,117,100,101]
def replaceW:List UInt8:=[114,101,112,108,97,99,101]
def arrowW:List UInt8:=[61,62]
def fullW (x:List UInt8):Bool:=!(x == [])
def wordsM (l:List UInt8):List (List UInt8):=(parts 32 l).filter fullW
def wholeM (x:List UInt8):List UInt8:=Lib.trimSuffix x [10]
structure MS where
  begun:Bool
  mo:List UInt8
  q:List S45
  x:List S45
  s:List S48
def startM:MS:=⟨false,[],[],[],[]⟩
def reqM (p:List UInt8) (v:Vr):S45:=⟨bs p,⟨v.a,v.b,v.c,bs v.p⟩⟩
def swapM (p t:List UInt8) (v:Vr):S48:=⟨bs p,bs t,⟨v.a,v.b,v.c,bs v.p⟩⟩
def addM (st:MS) (l:List (List UInt8)):Option MS :=
  if l.length<3 then none else
  match parseV (l.getD (l.length - 1) []) with
  | none => none
  | some v =>
    if rightL (l.getD 1 [])=true then
      if l.getD 0 []=requireW∧l.length=3 then some { st with q:=st.q++[reqM (l.getD 1 []) v] }
      else if l.getD 0 []=excludeW∧l.length=3 then some { st with x:=st.x++[reqM (l.getD 1 []) v] }
      else if l.getD 0 []=replaceW∧l.length=5∧l.getD 2 []=arrowW∧rightL (l.getD 3 [])=true then some { st with s:=st.s++[swapM (l.getD 1 []) (l.getD 3 []) v] }
      else none
    else none
def beginM (st:MS) (l:List (List UInt8)):Option MS :=
  if l.length=2∧l.getD 0 []=moduleW∧rightL (l.getD 1 [])=true then some { st with begun:=true,mo:=l.getD 1 [] } else none
def lineM (st:MS) (l:List (List UInt8)):Option MS:=if l=[] then some st else if st.begun=true then addM st l else beginM st l
inductive MRes
  | bad (wh:Nat)
  | ok (st:MS)
def runM:Nat→MS→List (List UInt8)→MRes
  | _,st,[] => .ok st
  | wh,st,x :: r => match lineM st (wordsM (wholeM x)) with
    | none => .bad wh
    | some st' => runM (wh+x.length) st' r
def preM:Nat→MS→List (List UInt8)→Option (Nat × MS)
  | wh,st,[] => some (wh,st)
  | wh,st,x :: r => match lineM st (wordsM (wholeM x)) with
    | none => none
    | some st' => preM (wh+x.length) st' r
theorem runM_cons (wh:Nat) (st:MS) (x:List UInt8) (r:List (List UInt8)):runM wh st (x :: r)=match lineM st (wordsM (wholeM x)) with|none => .bad wh|some st' => runM (wh+x.length) st' r:=rfl
theorem preM_cons (wh:Nat) (st:MS) (x:List UInt8) (r:List (List UInt8)):preM wh st (x :: r)=match lineM st (wordsM (wholeM x)) with|none => none|some st' => preM (wh+x.length) st' r:=rfl
theorem run_pre:∀ (p r:List (List UInt8)) (wh w2:Nat) (st s2:MS),preM wh st p=some (w2,s2)→runM wh st (p++r)=runM w2 s2 r
  | [],r,wh,w2,st,s2,h => by
    unfold preM at h
    cases h
    rfl
  | x :: p,r,wh,w2,st,s2,h => by
    rw [preM_cons] at h
    rw [List.cons_append,runM_cons]
    split at h
    · cases h
    · next st' hs =>
      exact run_pre p r _ _ _ _ h
theorem pre_snoc:∀ (p:List (List UInt8)) (x:List UInt8) (wh w2:Nat) (st s2 s3:MS),preM wh st p=some (w2,s2)→lineM s2 (wordsM (wholeM x))=some s3→preM wh st (p++[x])=some (w2+x.length,s3)
  | [],x,wh,w2,st,s2,s3,h,h2 => by
    unfold preM at h
    cases h
    show preM _ _ [x]=_
    unfold preM
    rw [h2]
    rfl
  | y :: p,x,wh,w2,st,s2,s3,h,h2 => by
    rw [preM_cons] at h
    rw [List.cons_append,preM_cons]
    split at h
    · cases h
    · next st' hs =>
      exact pre_snoc p x _ _ _ _ _ h h2
theorem pre_len:∀ (p:List (List UInt8)) (wh w2:Nat) (st s2:MS),preM wh st p=some (w2,s2)→w2=wh+p.flatten.length
  | [],wh,w2,st,s2,h => by
    unfold preM at h
    cases h
    simp
  | x :: p,wh,w2,st,s2,h => by
    unfold preM at h
    split at h
    · cases h
    · next st' hs =>
      rw [pre_len p _ _ _ _ h]
      simp
      omega
theorem run_bad {p r:List (List UInt8)} {x:List UInt8} {wh w2:Nat} {st s2:MS} (h:preM wh st p=some (w2,s2)) (h2:lineM s2 (wordsM (wholeM x))=none):runM wh st (p++x :: r)=.bad w2:=by
  rw [run_pre p _ _ _ _ _ h]
  rw [runM_cons,h2]
theorem run_end {p:List (List UInt8)} {wh w2:Nat} {st s2:MS} (h:preM wh st p=some (w2,s2)):runM wh st p=.ok s2:=by
  have:=run_pre p [] _ _ _ _ h
  rw [List.append_nil] at this
  rw [this]
  rfl
theorem whole_lenM (x:List UInt8):(wholeM x).length≤x.length:=by
  unfold wholeM Lib.trimSuffix
  split
  · simp only [List.length_take];omega
  · exact Nat.le_refl _
theorem words_lenM (l:List UInt8):(wordsM l).length≤l.length+1:=Nat.le_trans (List.length_filter_le _ _) (parts_len 32 l)
theorem words_eachM (l:List UInt8):∀ x ∈ wordsM l,x.length≤l.length:=fun x hx => parts_each 32 l x (List.mem_filter.1 hx).1
theorem line_rows {st st':MS} {l:List (List UInt8)} (h:lineM st l=some st'):st'.q.length≤st.q.length+1∧st'.x.length≤st.x.length+1∧st'.s.length≤st.s.length+1:=by
  unfold lineM at h
  split at h
  · cases h;omega
  · split at h
    · unfold addM at h
      split at h
      · cases h
      · split at h
        · cases h
        · split at h
          · split at h
            · cases h;simp
            · split at h
              · cases h;simp
              · split at h
                · cases h;simp
                · cases h
          · cases h
    · unfold beginM at h
      split at h
      · cases h;simp
      · cases h
theorem pre_rows:∀ (p:List (List UInt8)) (wh w2:Nat) (st s2:MS),preM wh st p=some (w2,s2)→s2.q.length≤st.q.length+p.length∧s2.x.length≤st.x.length+p.length∧s2.s.length≤st.s.length+p.length
  | [],wh,w2,st,s2,h => by
    unfold preM at h
    cases h
    simp
  | x :: p,wh,w2,st,s2,h => by
    unfold preM at h
    split at h
    · cases h
    · next st' hs =>
      have h1:=line_rows hs
      have h2:=pre_rows p _ _ _ _ h
      simp only [List.length_cons]
      omega
end Go.Proofs.YtjiidlkkkednoaaGreatDoor.Q
end
