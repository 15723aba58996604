import Derived.Test.YtjiidlkkkednoaaGreatDoorZEvg
import Derived.Test.YtjiidlkkkednoaaGreatDoorZQ11g
import Derived.Test.YtjiidlkkkednoaaGreatDoorZMpmg
import Derived.Test.YtjiidlkkkednoaaGreatDoorZMnog
import Derived.Test.YtjiidlkkkednoaaGreatDoorZQ12
import Derived.Test.YtjiidlkkkednoaaGreatDoorZQ5
import Derived.Test.YtjiidlkkkednoaaGreatDoorZQ16
set_option linter.unusedVariables false
set_option linter.unusedSimpArgs false
namespace Go.Proofs.YtjiidlkkkednoaaGreatDoor.Q
open Go.RowKit Go.Proofs.YtjiidlkkkednoaaGreatDoorW.PrintWords Go.Proofs.YtjiidlkkkednoaaGreatDoorW.PrintLast Go.Proofs.YtjiidlkkkednoaaGreatDoorW.PrintMore
theorem bt_get (s:ByteArray) (i:Nat) (h:i<s.size):bt s (i:Int)=(s[i].toNat:Int):=by
  simp [bt,h]
theorem parts_plain {c:UInt8}:∀ {m:List UInt8},(∀ x ∈ m,x≠c)→parts c m=[m]
  | [],_ => rfl
  | x :: m,h => by
    rw [parts_cons,if_neg (h x List.mem_cons_self),parts_plain (fun y hy => h y (List.mem_cons_of_mem _ hy))]
theorem parts_snoc {c:UInt8} {m:List UInt8} (h:∀ x ∈ m,x≠c):∀ l:List UInt8,parts c (l++c :: m)=parts c l++[m]
  | [] => by rw [List.nil_append,parts_cons,if_pos rfl,parts_plain h];rfl
  | x :: l => by
    rw [List.cons_append,parts_cons,parts_cons,parts_snoc h l]
    split
    · rfl
    · have:=parts_ne c l
      cases hp:parts c l with
      | nil => exact absurd hp this
      | cons w ws => rfl
def Pathy (s:ByteArray):Prop:=(parts 47 s.data.toList).all okWord=true∧1≤s.size
theorem okWord_47 {w:List UInt8} (h:okWord w=true):∀ x ∈ w,x≠47:=by
  intro x hx e
  subst e
  simp only [okWord,Bool.and_eq_true,List.all_eq_true] at h
  have:=h.2 47 hx
  revert this
  decide
theorem okWord_ne {w:List UInt8} (h:okWord w=true):w≠[]:=by
  rintro rfl
  simp [okWord] at h
theorem Pathy.more {s w:ByteArray} (h:Pathy s) (hw:okWord w.data.toList=true):Pathy ((s++(⟨#[47]⟩:ByteArray))++w):=by
  refine ⟨?_,by simp only [ByteArray.size_append];have:=h.2;omega⟩
  have e:((s++(⟨#[47]⟩:ByteArray))++w).data.toList=s.data.toList++47 :: w.data.toList:=by simp [ByteArray.data_append]
  rw [e,parts_snoc (okWord_47 hw),List.all_append,h.1]
  simp [hw]
theorem Pathy.one {w:ByteArray} (hw:okWord w.data.toList=true):Pathy w:=by
  refine ⟨?_,?_⟩
  · rw [parts_plain (okWord_47 hw)]
    simp [hw]
  · have:=okWord_ne hw
    have h2:=List.length_pos_iff.2 this
    rw [data_length] at h2
    omega
theorem Pathy.right {s:ByteArray} (h:Pathy s) (hs:s.size≤40):rightL s.data.toList=true:=by
  unfold rightL
  rw [h.1,data_length,decide_eq_true h.2,decide_eq_true hs]
  rfl
def pathWords:List ByteArray:=[(⟨#[97]⟩:ByteArray),(⟨#[98]⟩:ByteArray),(⟨#[97,46,98]⟩:ByteArray),(⟨#[99,45,100]⟩:ByteArray),(⟨#[118,50]⟩:ByteArray),(⟨#[118,51]⟩:ByteArray),(⟨#[118,49]⟩:ByteArray),(⟨#[118,48,50]⟩:ByteArray),(⟨#[95]⟩:ByteArray),(⟨#[108,105,98]⟩:ByteArray),(⟨#[118,50,48]⟩:ByteArray)]
theorem pathWords_ok:∀ w ∈ pathWords,okWord w.data.toList=true∧w.size≤3:=by decide
theorem pathWord_at (j:Int) (h0:0≤j) (h1:j<11):okWord (rdOf ByteArray.empty pathWords j).data.toList=true∧(rdOf ByteArray.empty pathWords j).size≤3:=by
  have hl:j.toNat<pathWords.length:=by show j.toNat<11;omega
  have:rdOf ByteArray.empty pathWords j=pathWords[j.toNat]:=by
    simp [rdOf,List.getD,List.getElem?_eq_getElem hl]
  rw [this]
  exact pathWords_ok _ (List.getElem_mem hl)
theorem win_f (f:Int→Int→Option Int) (hf:∀ a b,f a b=if b=0 then none else if Int.tmod a b<0 then some (wrap64 (Int.tmod a b+b)) else some (Int.tmod a b)) (a n:Int) (hn:0<n) (hn2:n≤4611686018427387904):∃ r,f a n=some r∧0≤r∧r<n:=by
  rw [hf,if_neg (by omega)]
  have h1:=Int.tmod_lt_of_pos a hn
  have h2:-n<Int.tmod a n:=by
    have:=Int.tmod_lt_of_pos (-a) hn
    rw [Int.neg_tmod] at this
    omega
  split
  · refine ⟨_,rfl,?_⟩
    rw [wrap_id (by omega) (by omega)]
    omega
  · exact ⟨_,rfl,by omega,h1⟩
theorem path_l0:∀ (d:Nat) (x:Int) (s:ByteArray) (i:Int),i.toNat=d→0≤i→i≤3→0≤x→x≤1099511627776→Pathy s→s.size≤3+4 * (3 - i.toNat) →
    ∃ r,Ev (fun k => transhumancelaw4_Make.l0 k x pathWords s i) r∧rightL r.data.toList=true∧r.size≤40
  | 0,x,s,i,hd,h0,h3,hx,hx2,hs,hz => by
    have hi:i=0:=by omega
    subst hi
    by_cases hb:(s.size:Int) > 40
    · omega
    · exact ⟨s,Ev.step (fun _ => transhumancelaw4_Make.l0.eq_2 ..) (Ev.neg (by omega) (Ev.neg hb (Ev.now _))),hs.right (by omega),by omega⟩
  | d+1,x,s,i,hd,h0,h3,hx,hx2,hs,hz => by
    obtain ⟨y0,y1⟩:=tdiv_bd 4 hx (by omega)
    have hy:wrap64 (Int.tdiv x 4)=Int.tdiv x 4:=wrap_id (by omega) (by omega)
    obtain ⟨m0,m1⟩:=tmod_bd 11 y0 (by omega)
    obtain ⟨wo,wz⟩:=pathWord_at _ m0 m1
    have hi:wrap64 (i - 1)=i - 1:=wrap_id (by omega) (by omega)
    have hz1:((⟨#[47]⟩:ByteArray)).size=1:=rfl
    obtain ⟨r,hr,ho⟩:=path_l0 d (Int.tdiv x 4) ((s++(⟨#[47]⟩:ByteArray))++rdOf ByteArray.empty pathWords (Int.tmod (Int.tdiv x 4) 11)) (i - 1) (by omega) (by omega) (by omega) y0 (by omega) (hs.more wo)
      (by simp only [ByteArray.size_append,hz1];omega)
    refine ⟨r,Ev.step (fun _ => transhumancelaw4_Make.l0.eq_2 ..) ?_,ho⟩
    rw [hy,hi]
    exact Ev.pos (by omega) (Ev.pos (by omega) (Ev.pos m0 (Ev.pos (by show _<((11:Nat):Int);omega) (Ev.pos (by simp only [ByteArray.size_append,hz1];omega) hr))))
theorem path_make (a:Int):∃ r,Ev (fun k => transhumancelaw4_Make.f k a) r∧rightL r.data.toList=true∧r.size≤40:=by
  obtain ⟨t,ht,t0,t1⟩:=win_f transhumancelaw4_within.f (fun _ _ => rfl) a 1099511627776 (by omega) (by omega)
  obtain ⟨m0,m1⟩:=tmod_bd 11 t0 (by omega)
  obtain ⟨y0,y1⟩:=tdiv_bd 11 t0 (by omega)
  have hy:wrap64 (Int.tdiv t 11)=Int.tdiv t 11:=wrap_id (by omega) (by omega)
  obtain ⟨n0,n1⟩:=tmod_bd 4 y0 (by omega)
  obtain ⟨wo,wz⟩:=pathWord_at _ m0 m1
  obtain ⟨r,hr,ho⟩:=path_l0 _ (Int.tdiv t 11) (rdOf ByteArray.empty pathWords (Int.tmod t 11)) (Int.tmod (Int.tdiv t 11) 4) rfl n0 (by omega) y0 (by omega) (Pathy.one wo) (by omega)
  refine ⟨r,?_,ho⟩
  unfold transhumancelaw4_Make.f
  rw [ht]
  show Ev (fun k => if 0≤Int.tmod t 11 then (if Int.tmod t 11<((11:Nat):Int) then transhumancelaw4_Make.l0 k (wrap64 (Int.tdiv t 11)) pathWords (rdOf ByteArray.empty pathWords (Int.tmod t 11)) (Int.tmod (wrap64 (Int.tdiv t 11)) 4) else none) else none) r
  rw [hy]
  exact Ev.pos m0 (Ev.pos (by omega) hr)
theorem within_f (a n:Int) (hn:0<n) (hn2:n≤4611686018427387904):transhumancelaw2_within.f a n=some (win a n):=win_val transhumancelaw2_within.f (fun _ _ => rfl) a n hn hn2
def Made (v:Vr):Prop:=rightV v.a v.b v.c v.p=true
def preWords:List ByteArray:=[(⟨#[48]⟩:ByteArray),(⟨#[49]⟩:ByteArray),(⟨#[49,48]⟩:ByteArray),(⟨#[50]⟩:ByteArray),(⟨#[97]⟩:ByteArray),(⟨#[114,99]⟩:ByteArray),(⟨#[114,99,49]⟩:ByteArray),(⟨#[65]⟩:ByteArray),(⟨#[45]⟩:ByteArray),(⟨#[48,97]⟩:ByteArray),(⟨#[97,108,112,104,97]⟩:ByteArray),(⟨#[57,57,57,57,57,57,57,57,57,57]⟩:ByteArray),(⟨#[50,48,50,48,48,49,48,49,48,48,48,48,48,48,45,97,98,99,100,101,102,48,49,50,51,52,53]⟩:ByteArray)]
theorem preWords_ok:∀ w ∈ preWords,wordL w.data.toList=true∧(w.data.toList.all (· != 46))=true∧w.data.toList≠[]∧w.size≤27:=by decide +kernel
theorem preWord_at (j:Int) (h0:0≤j) (h1:j<13):wordL (rdOf ByteArray.empty preWords j).data.toList=true∧((rdOf ByteArray.empty preWords j).data.toList.all (· != 46))=true∧(rdOf ByteArray.empty preWords j).data.toList≠[]∧(rdOf ByteArray.empty preWords j).size≤27:=by
  have hl:j.toNat<preWords.length:=by show j.toNat<13;omega
  have:rdOf ByteArray.empty preWords j=preWords[j.toNat]:=by
    simp [rdOf,List.getD,List.getElem?_eq_getElem hl]
  rw [this]
  exact preWords_ok _ (List.getElem_mem hl)
theorem preL_one {l:List UInt8} (h1:wordL l=true) (h2:l.all (· != 46)=true):preL l=true:=by
  unfold preL
  rw [parts_free 46 l (fun x hx => by simpa using List.all_eq_true.1 h2 x hx)]
  simp [h1]
theorem preL_more {s l:List UInt8} (h:preL s=true) (h1:wordL l=true) (h2:l.all (· != 46)=true):preL (s++46 :: l)=true:=by
  unfold preL at *
  rw [parts_cat,List.all_append,h,parts_free 46 l (fun x hx => by simpa using List.all_eq_true.1 h2 x hx)]
  simp [h1]
def PreOk (s:ByteArray) (i:Int):Prop:=(i=0→s.data.toList=[])∧(0<i→preL s.data.toList=true)
theorem pre_fin {s:ByteArray} {i:Int} (h:PreOk s i) (h0:0≤i):(s.data.toList == [] || preL s.data.toList)=true:=by
  by_cases hi:i=0
  · rw [h.1 hi];rfl
  · rw [h.2 (by omega)];simp
theorem size_list (s:ByteArray):s.data.toList.length=s.size:=rfl
theorem right_of {a b c:Int} {p:List UInt8} (ha:0≤a∧a≤999999) (hb:0≤b∧b≤999999) (hc:0≤c∧c≤999999) (hl:p.length≤40) (hp:(p == [] || preL p)=true):rightV a b c p=true:=by
  unfold rightV partB
  rw [decide_eq_true ha.1,decide_eq_true ha.2,decide_eq_true hb.1,decide_eq_true hb.2,decide_eq_true hc.1,decide_eq_true hc.2,decide_eq_true hl,hp]
  rfl
theorem pre_l0 (a b c:Int):∀ (d:Nat) (x i:Int) (s:ByteArray),0≤i→i+d=4→0≤x→x≤1099511627776→PreOk s i→s.size≤28 * i.toNat →
    ∃ r:ByteArray,Ev (fun k => transhumancelaw2_Make.l0 k preWords x i a b c s) (a,b,c,r)∧(r.data.toList == [] || preL r.data.toList)=true∧r.size≤40:=by
  intro d
  have hrc:((⟨#[114,99,46,49]⟩:ByteArray).data.toList == [] || preL (⟨#[114,99,46,49]⟩:ByteArray).data.toList)=true:=by decide +kernel
  induction d with
  | zero =>
    intro x i s h0 hd hx hx2 hp hz
    have hm:=Int.tmod_lt_of_pos x (show (0:Int)<4 by omega)
    by_cases hb:(s.size:Int) > 40
    · exact ⟨_,Ev.step (fun _ => transhumancelaw2_Make.l0.eq_2 ..) (Ev.neg (by omega) (Ev.pos hb (Ev.now _))),hrc,by decide⟩
    · exact ⟨_,Ev.step (fun _ => transhumancelaw2_Make.l0.eq_2 ..) (Ev.neg (by omega) (Ev.neg hb (Ev.now _))),pre_fin hp h0,by omega⟩
  | succ d ih =>
    intro x i s h0 hd hx hx2 hp hz
    by_cases hi:i<Int.tmod x 4
    · obtain ⟨y0,y1⟩:=tdiv_bd 4 hx (by omega)
      have hy:wrap64 (Int.tdiv x 4)=Int.tdiv x 4:=wrap_id (by omega) (by omega)
      obtain ⟨m0,m1⟩:=tmod_bd 13 y0 (by omega)
      obtain ⟨v0,v1⟩:=tdiv_bd 13 hx (by omega)
      have hv:wrap64 (Int.tdiv x 13)=Int.tdiv x 13:=wrap_id (by omega) (by omega)
      obtain ⟨wo,wf,wn,wz⟩:=preWord_at _ m0 m1
      have hw:wrap64 (i+1)=i+1:=wrap_id (by omega) (by omega)
      have s2:(⟨#[46]⟩:ByteArray).size=1:=rfl
      by_cases h1:i > 0
      · obtain ⟨r,e1,e2⟩:=ih (Int.tdiv x 13) (i+1) ((s++(⟨#[46]⟩:ByteArray))++rdOf ByteArray.empty preWords (Int.tmod (Int.tdiv x 4) 13)) (by omega) (by omega) v0 (by omega)
          ⟨fun h => by omega,fun _ => by
            have:=preL_more (hp.2 h1) wo wf
            simpa [ByteArray.data_append] using this⟩
          (by simp only [ByteArray.size_append,s2];omega)
        refine ⟨r,Ev.step (fun _ => transhumancelaw2_Make.l0.eq_2 ..) (Ev.pos hi (Ev.pos h1 ?_)),e2⟩
        rw [hy,hv,hw]
        exact Ev.pos (by omega) (Ev.pos m0 (Ev.pos (by show _<((13:Nat):Int);omega) (Ev.pos (by simp only [ByteArray.size_append,s2];omega) e1)))
      · obtain ⟨r,e1,e2⟩:=ih (Int.tdiv x 13) (i+1) (s++rdOf ByteArray.empty preWords (Int.tmod (Int.tdiv x 4) 13)) (by omega) (by omega) v0 (by omega)
          ⟨fun h => by omega,fun _ => by
            have h2:=hp.1 (by omega)
            have:(s++rdOf ByteArray.empty preWords (Int.tmod (Int.tdiv x 4) 13)).data.toList=(rdOf ByteArray.empty preWords (Int.tmod (Int.tdiv x 4) 13)).data.toList:=by rw [ByteArray.data_append,Array.toList_append,h2,List.nil_append]
            rw [this]
            exact preL_one wo wf⟩
          (by simp only [ByteArray.size_append];omega)
        refine ⟨r,Ev.step (fun _ => transhumancelaw2_Make.l0.eq_2 ..) (Ev.pos hi (Ev.neg h1 ?_)),e2⟩
        rw [hy,hv,hw]
        exact Ev.pos m0 (Ev.pos (by show _<((13:Nat):Int);omega) (Ev.pos (by omega) e1))
    · by_cases hb:(s.size:Int) > 40
      · exact ⟨_,Ev.step (fun _ => transhumancelaw2_Make.l0.eq_2 ..) (Ev.neg hi (Ev.pos hb (Ev.now _))),hrc,by decide⟩
      · exact ⟨_,Ev.step (fun _ => transhumancelaw2_Make.l0.eq_2 ..) (Ev.neg hi (Ev.neg hb (Ev.now _))),pre_fin hp h0,by omega⟩
theorem pre_j0 (m a b c:Int):∃ r:ByteArray,Ev (fun k => transhumancelaw2_Make.j0 k m a b c ⟨#[]⟩) (a,b,c,r)∧(r.data.toList == [] || preL r.data.toList)=true∧r.size≤40:=by
  obtain ⟨t0,t1⟩:=win_bd m 1099511627776 (by omega)
  obtain ⟨r,e1,e2⟩:=pre_l0 a b c 4 (win m 1099511627776) 0 ⟨#[]⟩ (by omega) (by omega) t0 (by omega) ⟨fun _ => rfl,fun h => by omega⟩ (by decide)
  exact ⟨r,Ev.step (fun _ => transhumancelaw2_Make.j0.eq_2 ..) (Ev.val (within_f m 1099511627776 (by omega) (by omega)) e1),e2⟩
def outV (v:Vr):Int × Int × Int × ByteArray:=(v.a,v.b,v.c,bs v.p)
theorem make_ev (n m:Int):∃ v:Vr,Ev (fun k => transhumancelaw2_Make.f k n m) (outV v)∧Made v:=by
  obtain ⟨t0,t1⟩:=win_bd n 1099511627776 (by omega)
  have ht:=within_f n 1099511627776 (by omega) (by omega)
  generalize win n 1099511627776=t at *
  obtain ⟨a0,a1⟩:=tmod_bd 3 t0 (by omega)
  obtain ⟨d30,d31⟩:=tdiv_bd 3 t0 (by omega)
  obtain ⟨d40,d41⟩:=tdiv_bd 12 t0 (by omega)
  obtain ⟨d60,d61⟩:=tdiv_bd 432 t0 (by omega)
  obtain ⟨d50,d51⟩:=tdiv_bd 48 t0 (by omega)
  have w3:wrap64 (Int.tdiv t 3)=Int.tdiv t 3:=wrap_id (by omega) (by omega)
  have w4:wrap64 (Int.tdiv t 12)=Int.tdiv t 12:=wrap_id (by omega) (by omega)
  have w5:wrap64 (Int.tdiv t 48)=Int.tdiv t 48:=wrap_id (by omega) (by omega)
  have w6:wrap64 (Int.tdiv t 432)=Int.tdiv t 432:=wrap_id (by omega) (by omega)
  obtain ⟨b0,b1⟩:=tmod_bd 4 d30 (by omega)
  obtain ⟨c0,c1⟩:=tmod_bd 4 d40 (by omega)
  obtain ⟨e0,e1⟩:=tmod_bd 2 d60 (by omega)
  have w7:wrap64 (999999 - Int.tmod (Int.tdiv t 432) 2)=999999 - Int.tmod (Int.tdiv t 432) 2:=wrap_id (by omega) (by omega)
  have fin:∀ (a b c:Int) (r:ByteArray),(0≤a∧a≤999999)→(0≤b∧b≤999999)→(0≤c∧c≤999999)→((r.data.toList == [] || preL r.data.toList)=true∧r.size≤40)→Ev (fun k => transhumancelaw2_Make.f k n m) (a,b,c,r)→∃ v:Vr,Ev (fun k => transhumancelaw2_Make.f k n m) (outV v)∧Made v:=by
    intro a b c r ha hb hc hr he
    refine ⟨⟨a,b,c,r.data.toList⟩,?_,right_of ha hb hc (by rw [size_list];exact hr.2) hr.1⟩
    unfold outV
    simp only [bs_data]
    exact he
  by_cases h0:Int.tmod (Int.tdiv t 48) 9=0
  · obtain ⟨r,g1,g2⟩:=pre_j0 m (999999 - Int.tmod (Int.tdiv t 432) 2) (Int.tmod (Int.tdiv t 3) 4) (Int.tmod (Int.tdiv t 12) 4)
    refine fin (999999 - Int.tmod (Int.tdiv t 432) 2) (Int.tmod (Int.tdiv t 3) 4) (Int.tmod (Int.tdiv t 12) 4) r ⟨by omega,by omega⟩ ⟨by omega,by omega⟩ ⟨by omega,by omega⟩ g2 ?_
    unfold transhumancelaw2_Make.f
    rw [ht]
    simp only [Option.bind_some,w3,w4,w5,w6,w7]
    exact Ev.pos h0 g1
  by_cases h1:Int.tmod (Int.tdiv t 48) 9=1
  · obtain ⟨r,g1,g2⟩:=pre_j0 m (Int.tmod t 3) (999999 - Int.tmod (Int.tdiv t 432) 2) (Int.tmod (Int.tdiv t 12) 4)
    refine fin (Int.tmod t 3) (999999 - Int.tmod (Int.tdiv t 432) 2) (Int.tmod (Int.tdiv t 12) 4) r ⟨by omega,by omega⟩ ⟨by omega,by omega⟩ ⟨by omega,by omega⟩ g2 ?_
    unfold transhumancelaw2_Make.f
    rw [ht]
    simp only [Option.bind_some,w3,w4,w5,w6,w7]
    exact Ev.neg h0 (Ev.pos h1 g1)
  by_cases h2:Int.tmod (Int.tdiv t 48) 9=2
  · obtain ⟨r,g1,g2⟩:=pre_j0 m (Int.tmod t 3) (Int.tmod (Int.tdiv t 3) 4) (999999 - Int.tmod (Int.tdiv t 432) 2)
    refine fin (Int.tmod t 3) (Int.tmod (Int.tdiv t 3) 4) (999999 - Int.tmod (Int.tdiv t 432) 2) r ⟨by omega,by omega⟩ ⟨by omega,by omega⟩ ⟨by omega,by omega⟩ g2 ?_
    unfold transhumancelaw2_Make.f
    rw [ht]
    simp only [Option.bind_some,w3,w4,w5,w6,w7]
    exact Ev.neg h0 (Ev.neg h1 (Ev.pos h2 g1))
  · obtain ⟨r,g1,g2⟩:=pre_j0 m (Int.tmod t 3) (Int.tmod (Int.tdiv t 3) 4) (Int.tmod (Int.tdiv t 12) 4)
    refine fin (Int.tmod t 3) (Int.tmod (Int.tdiv t 3) 4) (Int.tmod (Int.tdiv t 12) 4) r ⟨by omega,by omega⟩ ⟨by omega,by omega⟩ ⟨by omega,by omega⟩ g2 ?_
    unfold transhumancelaw2_Make.f
    rw [ht]
    simp only [Option.bind_some,w3,w4,w5,w6,w7]
    exact Ev.neg h0 (Ev.neg h1 (Ev.neg h2 g1))
theorem Made.len {v:Vr} (h:Made v):v.p.length≤40:=(right_parts h).2.2.2.1
theorem Made.bd {v:Vr} (h:Made v):(0≤v.a∧v.a≤999999)∧(0≤v.b∧v.b≤999999)∧(0≤v.c∧v.c≤999999):=by
  have:=right_parts h
  exact ⟨this.1,this.2.1,this.2.2.1⟩
theorem parts_seg {c:UInt8}:∀ {m:List UInt8},(∀ x ∈ m,x≠c)→∀ r:List UInt8,parts c (m++c :: r)=m :: parts c r
  | [],_,r => by rw [List.nil_append,parts_cons,if_pos rfl]
  | x :: m,h,r => by
    rw [List.cons_append,parts_cons,if_neg (h x List.mem_cons_self),parts_seg (fun y hy => h y (List.mem_cons_of_mem _ hy)) r]
theorem drop_seg (s:ByteArray) (a i:Nat) (ha:a≤i) (hi:i<s.size):s.data.toList.drop a=(s.data.toList.drop a).take (i - a)++s[i] :: s.data.toList.drop (i+1):=by
  have h:=drop_at s i hi
  rw [← h]
  have:s.data.toList.drop i=(s.data.toList.drop a).drop (i - a):=by rw [List.drop_drop];congr 1;omega
  rw [this,List.take_append_drop]
theorem seg_extract (s:ByteArray) (a i:Nat) (ha:a≤i):s.extract a i=bs ((s.data.toList.drop a).take (i - a)):=by
  apply ext_bs
  rw [data_bs,ByteArray.data_extract,Array.toList_extract,List.extract_eq_take_drop]
theorem seg_succ (s:ByteArray) (a i:Nat) (ha:a≤i) (hi:i<s.size) (h:∀ x ∈ (s.data.toList.drop a).take (i - a),x≠47) (hb:s[i]≠47):∀ x ∈ (s.data.toList.drop a).take (i+1 - a),x≠47:=by
  have e:(s.data.toList.drop a).take (i+1 - a)=(s.data.toList.drop a).take (i - a)++[s[i]]:=by
    conv => lhs;rw [drop_seg s a i ha hi]
    have hl:((s.data.toList.drop a).take (i - a)).length=i - a:=by rw [List.length_take,List.length_drop,data_length];omega
    rw [List.take_append,hl,List.take_of_length_le (by omega),show i+1 - a - (i - a)=1 from by omega]
    rfl
  rw [e]
  intro x hx
  rcases List.mem_append.1 hx with hx|hx
  · exact h x hx
  · rw [List.mem_singleton.1 hx]
    exact hb
theorem words_l0 (s:ByteArray) (hs:s.size≤1000000):∀ (d k i a:Nat) (acc:List (List UInt8)),s.size+1=i+d→d<k→1≤d→a≤i→acc.length≤i→(∀ x ∈ (s.data.toList.drop a).take (i - a),x≠47) →
    transhumanceref4_words.l0 k s (acc.map bs) (a:Int) (i:Int)=some ((acc++parts 47 (s.data.toList.drop a)).map bs)
  | 0,k,i,a,acc,hd,hk,h1,ha,hacc,hseg => by omega
  | d+1,k,i,a,acc,hd,hk,h1,ha,hacc,hseg => by
    obtain ⟨k,rfl⟩:∃ m,k=m+1:=⟨k - 1,by omega⟩
    have hw:wrap64 ((i:Int)+1)=((i+1:Nat):Int):=wrap_id (by omega) (by omega)
    have hadd:acc.map bs++[s.extract a i]=(acc++[(s.data.toList.drop a).take (i - a)]).map bs:=by rw [seg_extract s a i ha];simp
    rw [transhumanceref4_words.l0.eq_2,if_pos (by omega),hw]
    by_cases he:i=s.size
    · rw [if_pos (by omega),if_pos (by omega),if_pos (by omega),if_pos (by rw [List.length_map];omega)]
      rw [show ((a:Int)).toNat=a from by omega,show ((i:Int)).toNat=i from by omega,hadd]
      obtain ⟨k,rfl⟩:∃ m,k=m+1:=⟨k - 1,by omega⟩
      rw [transhumanceref4_words.l0.eq_2,if_neg (by omega)]
      have hl:(s.data.toList.drop a).take (i - a)=s.data.toList.drop a:=List.take_of_length_le (by rw [List.length_drop,data_length];omega)
      rw [hl] at hseg ⊢
      rw [parts_plain hseg]
    · have hi:i<s.size:=by omega
      rw [if_neg (by omega),if_pos (by omega),if_pos (by omega),bt_get s i hi]
      by_cases hb:s[i]=47
      · rw [if_pos (by rw [hb];rfl),if_pos (by omega),if_pos (by omega),if_pos (by rw [List.length_map];omega)]
        rw [show ((a:Int)).toNat=a from by omega,show ((i:Int)).toNat=i from by omega,hadd]
        rw [words_l0 s hs d k (i+1) (i+1) _ (by omega) (by omega) (by omega) (by omega) (by simp;omega) (by simp)]
        have e:=drop_seg s a i ha hi
        rw [hb] at e
        have hp:=parts_seg hseg (s.data.toList.drop (i+1))
        rw [← e] at hp
        rw [hp]
        simp
      · rw [if_neg (fun h => hb (UInt8.toNat_inj.mp (by show s[i].toNat=47;omega)))]
        exact words_l0 s hs d k (i+1) a acc (by omega) (by omega) (by omega) (by omega) (by omega) (seg_succ s a i ha hi hseg hb)
theorem words4_f (s:ByteArray) (hs:s.size≤1000000) (k:Nat) (hk:s.size+1<k):transhumanceref4_words.f k s=some ((parts 47 s.data.toList).map bs):=by
  have:=words_l0 s hs (s.size+1) k 0 0 [] (by omega) hk (by omega) (by omega) (by simp) (by simp)
  rw [List.drop_zero] at this
  exact this
theorem num1_l0 (s:ByteArray) (hs:s.size≤9):∀ (d k i n:Nat),i+d=s.size→d<k→n<10 ^ i→∃ r b,transhumanceref1_Number.l0 k s (n:Int) (i:Int)=some (r,b)∧0≤r∧r≤999999999
  | 0,k,i,n,hd,hk,hn => by
    obtain ⟨k,rfl⟩:∃ m,k=m+1:=⟨k - 1,by omega⟩
    have hp:10 ^ i≤10 ^ 9:=Nat.pow_le_pow_right (by decide) (by omega)
    rw [transhumanceref1_Number.l0.eq_2,if_neg (by omega)]
    exact ⟨_,_,rfl,by omega,by omega⟩
  | d+1,k,i,n,hd,hk,hn => by
    obtain ⟨k,rfl⟩:∃ m,k=m+1:=⟨k - 1,by omega⟩
    have hi:i<s.size:=by omega
    rw [transhumanceref1_Number.l0.eq_2,if_pos (by omega),if_pos (by omega),bt_get s i hi]
    by_cases h1:(s[i].toNat:Int)<48
    · rw [if_pos h1]
      exact ⟨_,_,rfl,by omega,by omega⟩
    · rw [if_neg h1]
      by_cases h2:(s[i].toNat:Int) > 57
      · rw [if_pos h2]
        exact ⟨_,_,rfl,by omega,by omega⟩
      · rw [if_neg h2]
        have hp:10 ^ i≤10 ^ 8:=Nat.pow_le_pow_right (by decide) (by omega)
        have w1:wrap64 (10 * (n:Int))=((10 * n:Nat):Int):=by rw [wrap_id (by omega) (by omega)];omega
        have w2:wrap64 (((10 * n:Nat):Int)+(((s[i].toNat:Int) - 48) % 256))=((10 * n+(s[i].toNat - 48):Nat):Int):=by rw [wrap_id (by omega) (by omega)];omega
        have w3:wrap64 ((i:Int)+1)=((i+1:Nat):Int):=by rw [wrap_id (by omega) (by omega)];omega
        rw [w1,w2,w3]
        exact num1_l0 s hs d k (i+1) (10 * n+(s[i].toNat - 48)) (by omega) (by omega) (by rw [Nat.pow_succ];omega)
theorem num1_f (s:ByteArray) (k:Nat) (hk:12≤k):∃ r b,transhumanceref1_Number.f k s=some (r,b)∧0≤r∧r≤999999999:=by
  obtain ⟨k,rfl⟩:∃ m,k=m+1:=⟨k - 1,by omega⟩
  have hj:∀ b,s.size≤9→∃ r c,transhumanceref1_Number.j0 (k+1) s b=some (r,c)∧0≤r∧r≤999999999:=fun b hs => by
    rw [transhumanceref1_Number.j0.eq_2]
    split
    · exact ⟨_,_,rfl,by omega,by omega⟩
    · exact num1_l0 s hs s.size k 0 0 (by omega) (by omega) (by decide)
  have ht:∃ r c,transhumanceref1_Number.j0 (k+1) s true=some (r,c)∧0≤r∧r≤999999999:=by
    rw [transhumanceref1_Number.j0.eq_2,if_pos rfl]
    exact ⟨_,_,rfl,by omega,by omega⟩
  unfold transhumanceref1_Number.f
  by_cases h1:(s.size:Int)<1
  · rw [if_pos h1];exact ht
  · rw [if_neg h1]
    by_cases h2:(s.size:Int) > 9
    · rw [if_pos h2];exact ht
    · rw [if_neg h2]
      by_cases h3:(s.size:Int) > 1
      · rw [if_pos h3,if_pos (by omega)];exact hj _ (by omega)
      · rw [if_neg h3];exact hj _ (by omega)
theorem joinD_last (c:UInt8) (y:List UInt8):∀ init:List (List UInt8),init≠[]→y.length+1≤(joinD c (init++[y])).length
  | [],h => absurd rfl h
  | [x],_ => by
    show _≤(x++c :: y).length
    rw [List.length_append,List.length_cons]
    omega
  | x :: z :: r,_ => by
    have:=joinD_last c y (z :: r) (by simp)
    show _≤(x++c :: joinD c (z :: (r++[y]))).length
    rw [List.cons_append] at this
    rw [List.length_append,List.length_cons]
    omega
theorem last_len (c:UInt8) (L:List (List UInt8)) (h:2≤L.length):(L.getD (L.length - 1) []).length+1≤(joinD c L).length:=by
  have hn:L≠[]:=by intro e;subst e;simp at h
  have e:=(List.dropLast_concat_getLast hn)
  have h2:L.dropLast≠[]:=by
    intro h3
    have:=congrArg List.length h3
    rw [List.length_dropLast] at this
    simp at this
    omega
  have h4:=joinD_last c (L.getLast hn) L.dropLast h2
  rw [e,List.getLast_eq_getElem] at h4
  simp only [List.getD,List.getElem?_eq_getElem (show L.length - 1<L.length by omega),Option.getD_some]
  exact h4
theorem j0_maj (k:Nat) (x y:ByteArray) (b:Bool) (hx:x.size≤1000) (hk:20≤k) (hy:b=false→1≤y.size∧y.size+1≤x.size):∃ p n,transhumanceref4_Major.j0 k x y b=some (p,n)∧0≤n∧n≤999999:=by
  obtain ⟨k,rfl⟩:∃ m,k=m+1:=⟨k - 1,by omega⟩
  rw [transhumanceref4_Major.j0.eq_2]
  cases b with
  | true => rw [if_pos rfl];exact ⟨_,_,rfl,by omega,by omega⟩
  | false =>
    obtain ⟨h1,h2⟩:=hy rfl
    rw [if_neg (by simp),if_pos (by omega)]
    obtain ⟨r,b2,hf,r0,r1⟩:=num1_f (y.extract 1 y.size) k (by omega)
    rw [hf,Option.bind_some]
    simp only
    cases b2 with
    | false => rw [if_neg (by simp)];exact ⟨_,_,rfl,by omega,by omega⟩
    | true =>
      rw [if_pos rfl]
      by_cases c1:r<2
      · rw [if_pos c1];exact ⟨_,_,rfl,by omega,by omega⟩
      · rw [if_neg c1]
        by_cases c2:r > 999999
        · rw [if_pos c2];exact ⟨_,_,rfl,by omega,by omega⟩
        · have w1:wrap64 ((x.size:Int) - (y.size:Int))=((x.size - y.size:Nat):Int):=by rw [wrap_id (by omega) (by omega)];omega
          have w2:wrap64 (((x.size - y.size:Nat):Int) - 1)=((x.size - y.size - 1:Nat):Int):=by rw [wrap_id (by omega) (by omega)];omega
          rw [if_neg c2,w1,w2,if_pos (by omega),if_pos (by omega)]
          exact ⟨_,_,rfl,by omega,by omega⟩
theorem major_f (s:ByteArray) (hs:s.size≤1000) (k:Nat) (hk:1100≤k):∃ p n,transhumanceref4_Major.f k s=some (p,n)∧0≤n∧n≤999999:=by
  unfold transhumanceref4_Major.f
  rw [words4_f s (by omega) k (by omega),Option.bind_some]
  have hl:=last_len 47 (parts 47 s.data.toList)
  rw [joinD_parts,data_length] at hl
  have hn:=parts_ne 47 s.data.toList
  have hz:=parts_len 47 s.data.toList
  rw [data_length] at hz
  generalize parts 47 s.data.toList=L at *
  have hp:0<L.length:=List.length_pos_iff.2 hn
  have w1:wrap64 (((L.map bs).length:Int) - 1)=((L.length - 1:Nat):Int):=by rw [List.length_map,wrap_id (by omega) (by omega)];omega
  rw [w1,if_pos (by omega),if_pos (by rw [List.length_map];omega)]
  have e:rdOf ByteArray.empty (L.map bs) ((L.length - 1:Nat):Int)=bs (L.getD (L.length - 1) []):=by
    simp only [rdOf,Int.toNat_natCast,List.getD,List.getElem?_map,List.getElem?_eq_getElem (show L.length - 1<L.length by omega)]
    rfl
  rw [e,List.length_map]
  generalize L.getD (L.length - 1) []=y at *
  by_cases h2:(L.length:Int)<2
  · rw [if_pos h2]
    exact j0_maj k s _ true hs (by omega) (fun h => by cases h)
  · have hl2:=hl (by omega)
    rw [if_neg h2]
    by_cases h3:(bs y).toList=([]:List UInt8)
    · rw [if_pos h3]
      exact j0_maj k s _ true hs (by omega) (fun h => by cases h)
    · have h4:1≤(bs y).size:=by
        rw [size_bs]
        rw [toList_bs] at h3
        exact List.length_pos_iff.2 h3
      rw [if_neg h3,if_pos (by omega)]
      exact j0_maj k s _ _ hs (by omega) (fun _ => ⟨h4,by rw [size_bs];exact hl2⟩)
theorem major_ev (s:ByteArray) (hs:s.size≤1000):∃ p n,Ev (fun k => transhumanceref4_Major.f k s) (p,n)∧0≤n∧n≤999999:=by
  obtain ⟨p,n,h,h0,h1⟩:=major_f s hs 1100 (Nat.le_refl _)
  exact ⟨p,n,Ev.of (fun k => transhumanceref4_Major.mono s k) h,h0,h1⟩
theorem pair_ev (a m:Int):∃ p A b c pp,Ev (fun k => transhumancelaw9_pair.f k a m) (p,A,b,c,pp)∧rightL p.data.toList=true∧p.size≤40∧Made ⟨A,b,c,pp.data.toList⟩:=by
  obtain ⟨p,hp,hr,hz⟩:=path_make a
  obtain ⟨v,hv,hm⟩:=make_ev m a
  obtain ⟨q,n,hj,n0,n1⟩:=major_ev p (by omega)
  obtain ⟨t,ht,t0,t1⟩:=win_f transhumancelaw9_within.f (fun _ _ => rfl) m 2 (by omega) (by omega)
  have hb:=hm.bd
  have hl:=hm.len
  have hpre:(v.p == [] || preL v.p)=true:=by
    rcases (right_parts hm).2.2.2.2 with h|h
    · rw [h];rfl
    · rw [h];simp
  have made:∀ A:Int,0≤A→A≤999999→Made ⟨A,v.b,v.c,(bs v.p).data.toList⟩:=fun A h0 h1 => by
    rw [data_bs]
    exact right_of ⟨h0,h1⟩ hb.2.1 hb.2.2 hl hpre
  by_cases hn:n=0
  · refine ⟨p,t,v.b,v.c,bs v.p,?_,hr,hz,made t (by omega) (by omega)⟩
    exact Ev.bind hp (Ev.bind hv (Ev.bind hj (Ev.pos hn (Ev.val ht (Ev.now _)))))
  · refine ⟨p,n,v.b,v.c,bs v.p,?_,hr,hz,made n n0 n1⟩
    exact Ev.bind hp (Ev.bind hv (Ev.bind hj (Ev.neg hn (Ev.now _))))
def RowOk (r:S45):Prop:=rightL r.f0.data.toList=true∧r.f0.size≤40∧Made (vrM r.f1)
def SwOk (r:S48):Prop:=(rightL r.f0.data.toList=true∧r.f0.size≤40)∧RowOk ⟨r.f1,r.f2⟩
theorem mem_snoc {α:Type} {P:α→Prop} {l:List α} {y:α} (h:∀ x ∈ l,P x) (hy:P y):∀ x ∈ l++[y],P x:=by
  intro x hx
  rcases List.mem_append.1 hx with h1|h1
  · exact h x h1
  · rw [List.mem_singleton.1 h1];exact hy
theorem raw_l0 (l:List Int) (mo:ByteArray):∀ (d i:Nat) (q x:List S45) (s:List S48),i+d=20→q.length+x.length+s.length≤i→(∀ r ∈ q,RowOk r)→(∀ r ∈ x,RowOk r)→(∀ r ∈ s,SwOk r) →
    ∃ q2 x2 s2,Ev (fun k => transhumancelaw9_Raw.l0 k l (i:Int) mo q x s) (mo,q2,x2,s2)∧q2.length+x2.length+s2.length≤20∧(∀ r ∈ q2,RowOk r)∧(∀ r ∈ x2,RowOk r)∧(∀ r ∈ s2,SwOk r)
  | d,i,q,x,s,hd,hl,hq,hx,hs => by
    by_cases hi:(i:Int)<(l.length:Int)
    · by_cases h20:i<20
      · obtain ⟨d,rfl⟩:∃ m,d=m+1:=⟨d - 1,by omega⟩
        obtain ⟨t,ht,t0,t1⟩:=win_f transhumancelaw9_within.f (fun _ _ => rfl) (rd l i) 1125899906842624 (by omega) (by omega)
        obtain ⟨p,A,b,c,pp,hp,hr,hz,hm⟩:=pair_ev (wrap64 (Int.tdiv t 3)) (wrap64 (Int.tdiv t 7))
        obtain ⟨m0,m1⟩:=tmod_bd 3 t0 (by omega)
        have hrow:RowOk ⟨p,⟨A,b,c,pp⟩⟩:=⟨hr,hz,hm⟩
        have hw:wrap64 ((i:Int)+1)=((i+1:Nat):Int):=by rw [wrap_id (by omega) (by omega)];omega
        have fin:∀ q2 x2 s2 r,Ev (fun k => transhumancelaw9_Raw.l0 k l ((i+1:Nat):Int) mo q2 x2 s2) r→Ev (fun k => transhumancelaw9_Raw.l0 k l (wrap64 ((i:Int)+1)) mo q2 x2 s2) r:=fun _ _ _ _ h => by rw [hw];exact h
        by_cases c0:Int.tmod t 3=0
        · obtain ⟨q2,x2,s2,he,ho⟩:=raw_l0 l mo d (i+1) (q++[⟨p,⟨A,b,c,pp⟩⟩]) x s (by omega) (by simp;omega) (mem_snoc hq hrow) hx hs
          refine ⟨q2,x2,s2,?_,ho⟩
          exact Ev.step (fun _ => transhumancelaw9_Raw.l0.eq_2 ..) (Ev.pos hi (Ev.step (fun _ => transhumancelaw9_Raw.j1.eq_2 ..) (Ev.pos (by simp;omega) (Ev.pos (by omega) (Ev.pos hi (Ev.val ht (Ev.bind hp (Ev.pos c0 (Ev.pos (by omega) (fin _ _ _ _ he))))))))))
        · by_cases c1:Int.tmod t 3=1
          · obtain ⟨q2,x2,s2,he,ho⟩:=raw_l0 l mo d (i+1) q (x++[⟨p,⟨A,b,c,pp⟩⟩]) s (by omega) (by simp;omega) hq (mem_snoc hx hrow) hs
            refine ⟨q2,x2,s2,?_,ho⟩
            exact Ev.step (fun _ => transhumancelaw9_Raw.l0.eq_2 ..) (Ev.pos hi (Ev.step (fun _ => transhumancelaw9_Raw.j1.eq_2 ..) (Ev.pos (by simp;omega) (Ev.pos (by omega) (Ev.pos hi (Ev.val ht (Ev.bind hp (Ev.neg c0 (Ev.pos c1 (Ev.pos (by omega) (fin _ _ _ _ he)))))))))))
          · obtain ⟨u,hu,ur,uz⟩:=path_make (wrap64 (Int.tdiv t 11))
            obtain ⟨q2,x2,s2,he,ho⟩:=raw_l0 l mo d (i+1) q x (s++[⟨u,p,⟨A,b,c,pp⟩⟩]) (by omega) (by simp;omega) hq hx (mem_snoc hs ⟨⟨ur,uz⟩,hrow⟩)
            refine ⟨q2,x2,s2,?_,ho⟩
            exact Ev.step (fun _ => transhumancelaw9_Raw.l0.eq_2 ..) (Ev.pos hi (Ev.step (fun _ => transhumancelaw9_Raw.j1.eq_2 ..) (Ev.pos (by simp;omega) (Ev.pos (by omega) (Ev.pos hi (Ev.val ht (Ev.bind hp (Ev.neg c0 (Ev.neg c1 (Ev.pos (by omega) (Ev.bind hu (Ev.pos (by omega) (fin _ _ _ _ he)))))))))))))
      · refine ⟨q,x,s,?_,by omega,hq,hx,hs⟩
        exact Ev.step (fun _ => transhumancelaw9_Raw.l0.eq_2 ..) (Ev.pos hi (Ev.step (fun _ => transhumancelaw9_Raw.j1.eq_2 ..) (Ev.neg (by simp;omega) (Ev.now _))))
    · refine ⟨q,x,s,?_,by omega,hq,hx,hs⟩
      exact Ev.step (fun _ => transhumancelaw9_Raw.l0.eq_2 ..) (Ev.neg hi (Ev.step (fun _ => transhumancelaw9_Raw.j1.eq_2 ..) (Ev.neg (by simp) (Ev.now _))))
theorem raw_ev (a:Int) (l:List Int):∃ mo q x s,Ev (fun k => transhumancelaw9_Raw.f k a l) (mo,q,x,s)∧(rightL mo.data.toList=true∧mo.size≤40)∧q.length+x.length+s.length≤20∧(∀ r ∈ q,RowOk r)∧(∀ r ∈ x,RowOk r)∧(∀ r ∈ s,SwOk r):=by
  obtain ⟨mo,hm,hr,hz⟩:=path_make a
  obtain ⟨q,x,s,he,h⟩:=raw_l0 l mo 20 0 [] [] [] (by omega) (by simp) (fun _ h => by simp at h) (fun _ h => by simp at h) (fun _ h => by simp at h)
  exact ⟨mo,q,x,s,Ev.bind hm he,⟨hr,hz⟩,h⟩
end Go.Proofs.YtjiidlkkkednoaaGreatDoor.Q
