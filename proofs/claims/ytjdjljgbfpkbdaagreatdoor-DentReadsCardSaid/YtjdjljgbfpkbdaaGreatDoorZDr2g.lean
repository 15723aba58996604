import Derived.Test.YtjdjljgbfpkbdaaGreatDoorZDPyg
import Derived.Test.YtjdjljgbfpkbdaaGreatDoorZPath
import Derived.Test.YtjdjljgbfpkbdaaGreatDoorZQ8
import Derived.Test.YtjdjljgbfpkbdaaGreatDoorZQ9
import Derived.Test.YtjdjljgbfpkbdaaGreatDoorZQ14
import Derived.Test.YtjdjljgbfpkbdaaGreatDoorZQ4g
import Derived.Test.YtjdjljgbfpkbdaaGreatDoorZQ5
import Derived.Test.YtjdjljgbfpkbdaaGreatDoorZQ11g
import Derived.Test.YtjdjljgbfpkbdaaGreatDoorZQ13g
set_option linter.unusedVariables false
set_option linter.unusedSimpArgs false
section
namespace Go.Proofs.YtjdjljgbfpkbdaaGreatDoor.Q
open Go.RowKit Go.Proofs.YtjdjljgbfpkbdaaGreatDoorW.PrintWords Go.Proofs.YtjdjljgbfpkbdaaGreatDoorW.PrintLast Go.Proofs.YtjdjljgbfpkbdaaGreatDoorW.PrintMore
theorem rows_split:∀ s:List UInt8,∃ (rows:List (List UInt8)) (last:List UInt8),s=(rows.map fun l => l++[10]).flatten++last∧(∀ l ∈ rows,∀ b ∈ l,b≠10)∧(∀ b ∈ last,b≠10)
  | [] => ⟨[],[],rfl,by simp,by simp⟩
  | b :: t => by
    obtain ⟨rows,last,h,h1,h2⟩:=rows_split t
    by_cases hb:b=10
    · subst hb
      refine ⟨[] :: rows,last,by rw [h];simp,?_,h2⟩
      intro l hl
      rcases List.mem_cons.1 hl with rfl|hl
      · simp
      · exact h1 l hl
    · cases rows with
      | nil =>
        refine ⟨[],b :: last,by rw [h];simp,by simp,?_⟩
        intro x hx
        rcases List.mem_cons.1 hx with rfl|hx
        · exact hb
        · exact h2 x hx
      | cons r rs =>
        refine ⟨(b :: r) :: rs,last,by rw [h];simp,?_,h2⟩
        intro l hl
        rcases List.mem_cons.1 hl with rfl|hl
        · intro x hx
          rcases List.mem_cons.1 hx with rfl|hx
          · exact hb
          · exact h1 r List.mem_cons_self x hx
        · exact h1 l (List.mem_cons_of_mem _ hl)
def tailR (last:List UInt8):List (List UInt8):=if last=[] then [] else [last]
def offs:Nat→List (List UInt8)→List Int
  | _,[] => []
  | a,r :: R => (a:Int) :: offs (a+r.length+1) R
theorem offs_len:∀ (R:List (List UInt8)) (a:Nat),(offs a R).length=R.length
  | [],_ => rfl
  | r :: R,a => by simp [offs,offs_len R]
def blankN (x:List UInt8):Nat:=x.length - (Lib.trimLeftB x 32).length
def rowR (x:List UInt8) (a:Nat) (b:Bool) (l:List Lk) (has:List ByteArray):Bool × DRes :=
  if Lib.trimLeftB x 32=[]∨(Lib.trimLeftB x 32).head?=some 35 then (b,.ok l has)
  else if b=true then (true,lineD x (a+blankN x) l has)
  else if x=locksWordL then (true,.ok l has) else (false,.bad (a+blankN x) 1)
def runR:List (List UInt8)→Nat→Bool→List Lk→List ByteArray→DRes
  | [],_,_,l,has => .ok l has
  | x :: R,a,b,l,has =>
    match (rowR x a b l has).2 with
    | .ok l' has' => runR R (a+x.length+1) (rowR x a b l has).1 l' has'
    | .bad w e => .bad w e
theorem step_row (st:DSt) (x y:List UInt8) (l:List Lk) (has:List ByteArray) (hw:wholeL y=x) (hr:st.r=.ok l has) :
    (stepD st y).r=(rowR x st.frm st.begun l has).2∧(stepD st y).begun=(rowR x st.frm st.begun l has).1:=by
  have h2:wordL y=Lib.trimLeftB x 32:=by unfold wordL;rw [hw]
  unfold stepD rowR
  rw [hr]
  simp only
  rw [h2,hw]
  by_cases hm:Lib.trimLeftB x 32=[]∨(Lib.trimLeftB x 32).head?=some 35
  · rw [if_pos hm,if_pos hm]
    exact ⟨rfl,rfl⟩
  rw [if_neg hm,if_neg hm]
  by_cases hb:st.begun=true
  · rw [if_pos hb,if_pos hb]
    exact ⟨rfl,rfl⟩
  rw [if_neg hb,if_neg hb]
  by_cases hx:x=locksWordL
  · rw [if_pos hx,if_pos hx]
    exact ⟨rfl,rfl⟩
  rw [if_neg hx,if_neg hx]
  exact ⟨rfl,rfl⟩
theorem run_fold (last:List UInt8) (hl:∀ b ∈ last,b≠10):∀ (rows:List (List UInt8)) (st:DSt) (l:List Lk) (has:List ByteArray),(∀ r ∈ rows,∀ b ∈ r,b≠10)→st.r=.ok l has →
    (((rows.map fun l => l++[10])++[last]).foldl stepD st).r=runR (rows++tailR last) st.frm st.begun l has
  | [],st,l,has,_,hr => by
    rw [List.map_nil,List.nil_append,List.nil_append,List.foldl_cons,List.foldl_nil]
    unfold tailR
    split
    · rename_i h
      subst h
      have hm:mute ([]:List UInt8):=.inl rfl
      rw [(mute_step (st:=st) hm).1,hr]
      rfl
    · obtain ⟨h1,h2⟩:=step_row st last last l has (whole_bare last hl) hr
      rw [h1]
      unfold runR
      split
      · rename_i h
        rw [h]
        rfl
      · rename_i h
        rw [h]
  | x :: rows,st,l,has,hn,hr => by
    obtain ⟨h1,h2⟩:=step_row st x (x++[10]) l has (whole_nl x) hr
    rw [List.map_cons,List.cons_append,List.foldl_cons,List.cons_append]
    unfold runR
    have hf:(stepD st (x++[10])).frm=st.frm+x.length+1:=by rw [step_frm'];simp;omega
    cases hc:(rowR x st.frm st.begun l has).2 with
    | bad w e =>
      simp only
      exact fold_bad w e _ _ (h1.trans hc)
    | ok l' has' =>
      simp only
      rw [run_fold last hl rows _ l' has' (fun r hr => hn r (List.mem_cons_of_mem _ hr)) (h1.trans hc),h2,hf]
where
  step_frm' (st:DSt) (x:List UInt8):(stepD st x).frm=st.frm+x.length:=by
    unfold stepD
    split
    · rfl
    · split
      · rfl
      · split
        · rfl
        · split <;> rfl
theorem locksD_rows (rows:List (List UInt8)) (last:List UInt8) (h1:∀ l ∈ rows,∀ b ∈ l,b≠10) (h2:∀ b ∈ last,b≠10) (s:List UInt8) (hs:s=(rows.map fun l => l++[10]).flatten++last) (hz:s.length≤8000) (hp:badAt s=none) :
    locksD s=match runR (rows++tailR last) 0 false [] [] with|.bad wh e => ([],wh,e)|.ok l _ => if endedE l=0 then (l,0,0) else ([],s.length,endedE l):=by
  have hst:start s=⟨0,false,.ok [] []⟩:=by unfold start;rw [hp]
  have hl:(linesD s (pieces s)).r=runR (rows++tailR last) 0 false [] []:=by
    unfold linesD
    rw [hst,hs,pieces_lines rows last h1,pieces_last _ h2]
    exact run_fold last h2 rows _ [] [] h1 rfl
  rw [locksD_eq _ hz,hl]
  cases runR (rows++tailR last) 0 false [] [] <;> rfl
theorem locksD_bad (s:List UInt8) (k:Nat) (hz:s.length≤8000) (hp:badAt s=some k):locksD s=([],k,1):=by
  have hst:(start s).r=.bad k 1:=by unfold start;rw [hp]
  have hl:(linesD s (pieces s)).r=.bad k 1:=by
    unfold linesD
    exact fold_bad k 1 _ _ hst
  rw [locksD_eq _ hz,hl]
theorem badAt_plain:∀ (s:List UInt8),badAt s=none→s.all plainB=true
  | [],_ => rfl
  | b :: t,h => by
    unfold badAt at h
    split at h
    · rename_i hb
      rw [List.all_cons,hb,badAt_plain t]
      · rfl
      · cases hc:badAt t with
        | none => rfl
        | some k => rw [hc] at h;cases h
    · cases h
theorem names_at:∀ k:ByteArray,Lib.containsS names k=true→∃ j:Fin 5,k=nm j.val∧Lib.idxOfS names k=(j.val:Int):=by
  intro k hk
  rw [Lib.containsS_iff] at hk
  have e:names=[nm 0,nm 1,nm 2,nm 3,nm 4]:=rfl
  rw [e] at hk
  simp only [List.mem_cons,List.not_mem_nil,or_false] at hk
  rcases hk with rfl|rfl|rfl|rfl|rfl
  · exact ⟨0,rfl,(nm_ok 0).2.2.1⟩
  · exact ⟨1,rfl,(nm_ok 1).2.2.1⟩
  · exact ⟨2,rfl,(nm_ok 2).2.2.1⟩
  · exact ⟨3,rfl,(nm_ok 3).2.2.1⟩
  · exact ⟨4,rfl,(nm_ok 4).2.2.1⟩
def clsL (x:List UInt8):Option (Bool × Nat × List UInt8) :=
  if Lib.hasPrefix x [45,32]=true then (pairL (x.drop 2)).map fun p => (true,(Lib.idxOfS names p.1).toNat,p.2)
  else if Lib.hasPrefix x [32,32]=true then (pairL (x.drop 2)).map fun p => (false,(Lib.idxOfS names p.1).toNat,p.2)
  else none
def hasB (has:List ByteArray) (k:Nat):Bool:=Lib.containsS has (nm k)
def fieldN (a:Nat) (l:List Lk) (has:List ByteArray) (k:Nat) (v:List UInt8):DRes :=
  if hasB has k=true then .bad a 4
  else if ((k == 0 || k == 4) && !rightL v)=true then .bad a 7
  else match l.getLast? with
    | none => .bad a 1
    | some x => .ok (l.dropLast++[x.set k (ofL v)]) (has++[nm k])
theorem fieldN_eq (a:Nat) (l:List Lk) (has:List ByteArray) (k:Nat) (hk:k<5) (v:List UInt8):fieldD a l has (nm k) v=fieldN a l has k v:=by
  obtain ⟨_,_,h3,h4,_⟩:=nm_ok ⟨k,hk⟩
  unfold fieldD fieldN hasB
  simp only at h3 h4
  rw [h3,h4]
  rfl
theorem cls_lt {x:List UInt8} {b:Bool} {k:Nat} {v:List UInt8} (h:clsL x=some (b,k,v)):k<5∧v.length≤x.length:=by
  have go:∀ b',(pairL (x.drop 2)).map (fun p => (b',(Lib.idxOfS names p.1).toNat,p.2))=some (b,k,v)→k<5∧v.length≤x.length:=by
    intro b' h
    obtain ⟨p,hp,he⟩:=Option.map_eq_some_iff.1 h
    obtain ⟨q,w⟩:=p
    obtain ⟨h1,h2⟩:=pairL_len hp
    obtain ⟨j,_,hj⟩:=names_at q h2
    simp only [Prod.mk.injEq] at he
    obtain ⟨_,rfl,rfl⟩:=he
    rw [List.length_drop] at h1
    refine ⟨by rw [hj,Int.toNat_natCast];exact j.isLt,by omega⟩
  unfold clsL at h
  split at h
  · exact go _ h
  · split at h
    · exact go _ h
    · cases h
theorem lineD_cls (x:List UInt8) (a:Nat) (l:List Lk) (has:List ByteArray):lineD x a l has =
    match clsL x with
    | none => .bad a 1
    | some (b,k,v) => if b=true then (if beginE l=0 then fieldN a (l++[Lk.zero]) [] k v else .bad a (beginE l)) else if l=[] then .bad a 1 else fieldN a l has k v:=by
  have go:∀ (q:ByteArray) (w:List UInt8),pairL (x.drop 2)=some (q,w)→∃ k:Nat,k<5∧q=nm k∧(Lib.idxOfS names q).toNat=k:=by
    intro q w h
    obtain ⟨j,h1,h2⟩:=names_at q (pairL_len h).2
    exact ⟨j.val,j.isLt,h1,by rw [h2,Int.toNat_natCast]⟩
  unfold lineD clsL
  by_cases h1:Lib.hasPrefix x [45,32]=true
  · rw [if_pos h1,if_pos h1]
    cases hp:pairL (x.drop 2) with
    | none => rfl
    | some p =>
      obtain ⟨q,w⟩:=p
      obtain ⟨k,hk,rfl,hj⟩:=go q w hp
      simp only [Option.map_some,if_true]
      rw [hj,fieldN_eq _ _ _ k hk]
  · rw [if_neg h1,if_neg h1]
    by_cases h2:Lib.hasPrefix x [32,32]=true
    · rw [if_pos h2]
      by_cases hl:l=[]
      · rw [if_neg (fun h => h.2 hl)]
        cases hp:pairL (x.drop 2) with
        | none => rfl
        | some p =>
          simp only [Option.map_some,Bool.false_eq_true,if_false]
          rw [if_pos hl]
      · rw [if_pos ⟨h2,hl⟩]
        cases hp:pairL (x.drop 2) with
        | none => rfl
        | some p =>
          obtain ⟨q,w⟩:=p
          obtain ⟨k,hk,rfl,hj⟩:=go q w hp
          simp only [Option.map_some,Bool.false_eq_true,if_false]
          rw [hj,if_neg hl,fieldN_eq _ _ _ k hk]
    · rw [if_neg (fun h => h2 h.1),if_neg h2]
theorem index_parts:∀ (y:List UInt8) (i:Nat),Lib.index y [58,32]=(i:Int)→y=y.take i++58 :: 32 :: y.drop (i+2)
  | [],i,h => by
    have:Lib.index ([]:List UInt8) [58,32]=-1:=rfl
    omega
  | b :: t,i,h => by
    by_cases hp:([58,32]:List UInt8).isPrefixOf (b :: t)=true
    · have e:Lib.index (b :: t) [58,32]=0:=by unfold Lib.index;rw [if_pos hp]
      obtain rfl:i=0:=by omega
      cases t with
      | nil => simp [List.isPrefixOf] at hp
      | cons c t =>
        simp only [List.isPrefixOf,Bool.and_true,Bool.and_eq_true,beq_iff_eq] at hp
        obtain ⟨rfl,rfl⟩:=hp
        rfl
    · have e:Lib.index (b :: t) [58,32]=if Lib.index t [58,32] == -1 then -1 else Lib.index t [58,32]+1:=by
        show (if ([58,32]:List UInt8).isPrefixOf (b :: t) then (0:Int) else if Lib.index t [58,32] == -1 then -1 else Lib.index t [58,32]+1)=_
        rw [if_neg hp]
      have hg:=Lib.index_ge t [58,32]
      by_cases h1:Lib.index t [58,32]=-1
      · rw [h1] at e
        simp at e
        omega
      · have h2:(Lib.index t [58,32] == -1)=false:=by simpa using h1
        rw [h2,if_neg (by simp)] at e
        obtain ⟨j,rfl⟩:∃ j,i=j+1:=⟨i - 1,by omega⟩
        have:=index_parts t j (by omega)
        show b :: t=b :: (t.take j++58 :: 32 :: t.drop (j+2))
        rw [← this]
theorem cut_parts (y:List UInt8) (h:(Lib.cut y [58,32]).2.2=true):y=(Lib.cut y [58,32]).1++58 :: 32 :: (Lib.cut y [58,32]).2.1:=by
  unfold Lib.cut at h ⊢
  split at h
  · rename_i h1
    rw [if_pos h1]
    exact index_parts y (Lib.index y [58,32]).toNat (by omega)
  · cases h
def lowU (b:UInt8):Bool:=97≤b && b≤122
theorem nm_low:∀ k:Fin 5,(nm k.val).data.toList.all lowU=true:=by decide +kernel
theorem low_split:∀ (w r:List UInt8),w.all lowU=true→(∀ b ∈ r.head?,lowU b=false)→(w++r).takeWhile lowU=w∧(w++r).dropWhile lowU=r
  | [],r,_,h => by
    cases r with
    | nil => exact ⟨rfl,rfl⟩
    | cons b r =>
      have hb:lowU b=false:=h b rfl
      simp [List.takeWhile,List.dropWhile,hb]
  | b :: w,r,hw,h => by
    rw [List.all_cons,Bool.and_eq_true] at hw
    obtain ⟨h1,h2⟩:=low_split w r hw.2 h
    simp [List.takeWhile,List.dropWhile,hw.1,h1,h2]
theorem tw_all (p:UInt8→Bool):∀ l:List UInt8,∀ b ∈ l.takeWhile p,p b=true
  | [],b,h => by simp at h
  | x :: l,b,h => by
    rw [List.takeWhile_cons] at h
    split at h
    · rename_i hx
      rcases List.mem_cons.1 h with rfl|h
      · exact hx
      · exact tw_all p l b h
    · simp at h
theorem low_58 (y:List UInt8):∀ b ∈ y.takeWhile lowU,b≠58:=by
  intro b hb e
  subst e
  have:=tw_all lowU _ _ hb
  simp [lowU] at this
theorem pair_yes {y v:List UInt8} (hv:y.dropWhile lowU=58 :: 32 :: v):pairL y=if Lib.containsS names ⟨(y.takeWhile lowU).toArray⟩=true then (if (valueL v).2=true then some (⟨(y.takeWhile lowU).toArray⟩,(valueL v).1) else none) else none:=by
  have hsp:y=y.takeWhile lowU++y.dropWhile lowU:=List.takeWhile_append_dropWhile.symm
  have hc:Lib.cut y [58,32]=(y.takeWhile lowU,v,true):=by
    conv => lhs;rw [hsp,hv]
    exact cut_colon _ _ (low_58 y)
  unfold pairL
  rw [hc]
  simp only [true_and]
theorem pair_no {y:List UInt8} (hno:∀ v,y.dropWhile lowU≠58 :: 32 :: v):pairL y=none:=by
  unfold pairL
  rw [if_neg]
  rintro ⟨h1,h2⟩
  have hp:=cut_parts y h1
  obtain ⟨j,hj,_⟩:=names_at _ h2
  have hl:((Lib.cut y [58,32]).1).all lowU=true:=by
    have:=nm_low j
    rw [← hj] at this
    simpa using this
  obtain ⟨_,h4⟩:=low_split _ (58 :: 32 :: (Lib.cut y [58,32]).2.1) hl (by
    intro b hb
    simp only [List.head?_cons,Option.mem_def,Option.some.injEq] at hb
    subst hb
    rfl)
  rw [← hp] at h4
  exact hno _ h4
end Go.Proofs.YtjdjljgbfpkbdaaGreatDoor.Q
end
section
namespace Go.Proofs.YtjdjljgbfpkbdaaGreatDoor.Q
open Go.RowKit Go.Proofs.YtjdjljgbfpkbdaaGreatDoorW.PrintWords Go.Proofs.YtjdjljgbfpkbdaaGreatDoorW.PrintLast Go.Proofs.YtjdjljgbfpkbdaaGreatDoorW.PrintMore
theorem parts_seg {c:UInt8}:∀ {m:List UInt8},(∀ x ∈ m,x≠c)→∀ r:List UInt8,parts c (m++c :: r)=m :: parts c r
  | [],_,r => by rw [List.nil_append,parts_cons,if_pos rfl]
  | x :: m,h,r => by
    rw [List.cons_append,parts_cons,if_neg (h x List.mem_cons_self),parts_seg (fun y hy => h y (List.mem_cons_of_mem _ hy)) r]
theorem drop_seg (s:ByteArray) (a i:Nat) (ha:a≤i) (hi:i<s.size):s.data.toList.drop a=(s.data.toList.drop a).take (i - a)++s[i] :: s.data.toList.drop (i+1):=by
  have h:=drop_at s i hi
  rw [← h]
  have:s.data.toList.drop i=(s.data.toList.drop a).drop (i - a):=by rw [List.drop_drop];congr 1;omega
  rw [this,List.take_append_drop]
theorem seg_extract (s:ByteArray) (a i:Nat) (ha:a≤i):s.extract a i=bs ((s.data.toList.drop a).take (i - a)):=by
  apply ext_bs
  rw [data_bs,ByteArray.data_extract,Array.toList_extract,List.extract_eq_take_drop]
theorem seg_succ (s:ByteArray) (a i:Nat) (ha:a≤i) (hi:i<s.size) (h:∀ x ∈ (s.data.toList.drop a).take (i - a),x≠47) (hb:s[i]≠47):∀ x ∈ (s.data.toList.drop a).take (i+1 - a),x≠47:=by
  have e:(s.data.toList.drop a).take (i+1 - a)=(s.data.toList.drop a).take (i - a)++[s[i]]:=by
    conv => lhs;rw [drop_seg s a i ha hi]
    have hl:((s.data.toList.drop a).take (i - a)).length=i - a:=by rw [List.length_take,List.length_drop,data_length];omega
    rw [List.take_append,hl,List.take_of_length_le (by omega),show i+1 - a - (i - a)=1 from by omega]
    rfl
  rw [e]
  intro x hx
  rcases List.mem_append.1 hx with hx|hx
  · exact h x hx
  · rw [List.mem_singleton.1 hx]
    exact hb
theorem words_l0 (s:ByteArray) (hs:s.size≤1000000):∀ (d k i a:Nat) (acc:List (List UInt8)),s.size+1=i+d→d<k→1≤d→a≤i→acc.length≤i→(∀ x ∈ (s.data.toList.drop a).take (i - a),x≠47) →
    transhumanceref4_words.l0 k s (acc.map bs) (a:Int) (i:Int)=some ((acc++parts 47 (s.data.toList.drop a)).map bs)
  | 0,k,i,a,acc,hd,hk,h1,ha,hacc,hseg => by omega
  | d+1,k,i,a,acc,hd,hk,h1,ha,hacc,hseg => by
    obtain ⟨k,rfl⟩:∃ m,k=m+1:=⟨k - 1,by omega⟩
    have hw:wrap64 ((i:Int)+1)=((i+1:Nat):Int):=wrap_id (by omega) (by omega)
    have hadd:acc.map bs++[s.extract a i]=(acc++[(s.data.toList.drop a).take (i - a)]).map bs:=by rw [seg_extract s a i ha];simp
    rw [transhumanceref4_words.l0.eq_2,if_pos (by omega),hw]
    by_cases he:i=s.size
    · rw [if_pos (by omega),if_pos (by omega),if_pos (by omega),if_pos (by rw [List.length_map];omega)]
      rw [show ((a:Int)).toNat=a from by omega,show ((i:Int)).toNat=i from by omega,hadd]
      obtain ⟨k,rfl⟩:∃ m,k=m+1:=⟨k - 1,by omega⟩
      rw [transhumanceref4_words.l0.eq_2,if_neg (by omega)]
      have hl:(s.data.toList.drop a).take (i - a)=s.data.toList.drop a:=List.take_of_length_le (by rw [List.length_drop,data_length];omega)
      rw [hl] at hseg ⊢
      rw [parts_plain hseg]
    · have hi:i<s.size:=by omega
      rw [if_neg (by omega),if_pos (by omega),if_pos (by omega),bt_get s i hi]
      by_cases hb:s[i]=47
      · rw [if_pos (by rw [hb];rfl),if_pos (by omega),if_pos (by omega),if_pos (by rw [List.length_map];omega)]
        rw [show ((a:Int)).toNat=a from by omega,show ((i:Int)).toNat=i from by omega,hadd]
        rw [words_l0 s hs d k (i+1) (i+1) _ (by omega) (by omega) (by omega) (by omega) (by simp;omega) (by simp)]
        have e:=drop_seg s a i ha hi
        rw [hb] at e
        have hp:=parts_seg hseg (s.data.toList.drop (i+1))
        rw [← e] at hp
        rw [hp]
        simp
      · rw [if_neg (fun h => hb (UInt8.toNat_inj.mp (by show s[i].toNat=47;omega)))]
        exact words_l0 s hs d k (i+1) a acc (by omega) (by omega) (by omega) (by omega) (by omega) (seg_succ s a i ha hi hseg hb)
theorem words4_f (s:ByteArray) (hs:s.size≤1000000) (k:Nat) (hk:s.size+1<k):transhumanceref4_words.f k s=some ((parts 47 s.data.toList).map bs):=by
  have:=words_l0 s hs (s.size+1) k 0 0 [] (by omega) hk (by omega) (by omega) (by simp) (by simp)
  rw [List.drop_zero] at this
  exact this
def ok47 (c:UInt8):Bool:=okSign c || c == 47
def okW (w:List UInt8):Bool:=!(w == []) && !(w == [46]) && !(w == [46,46])
theorem parts_all (p:UInt8→Bool):∀ l:List UInt8,(parts 47 l).all (fun w => w.all p)=l.all (fun c => p c || c == 47)
  | [] => rfl
  | x :: l => by
    rw [parts_cons,List.all_cons,← parts_all p l]
    by_cases h:x=47
    · rw [if_pos h,h]
      simp
    · rw [if_neg h]
      have hx:(x == 47)=false:=by simpa using h
      rw [hx,Bool.or_false]
      cases hp:parts 47 l with
      | nil => exact absurd hp (parts_ne 47 l)
      | cons w ws => simp [Bool.and_assoc]
theorem all_both {α:Type} (p q:α→Bool):∀ l:List α,l.all (fun x => p x && q x)=(l.all p && l.all q)
  | [] => rfl
  | x :: l => by
    simp only [List.all_cons]
    rw [all_both p q l]
    cases p x <;> cases q x <;> cases l.all p <;> rfl
theorem rightL_eq (l:List UInt8):rightL l=(l.all ok47 && (parts 47 l).all okW && decide (l.length≤40)):=by
  have h1:(parts 47 l).all okWord=((parts 47 l).all okW && l.all ok47):=by
    have:=parts_all okSign l
    unfold ok47
    rw [← this,← all_both]
    rfl
  unfold rightL
  rw [h1]
  cases l with
  | nil => rfl
  | cons x l =>
    have:decide (1≤(x :: l).length)=true:=decide_eq_true (by simp)
    rw [this,Bool.true_and]
    cases (x :: l).all ok47 <;> cases (parts 47 (x :: l)).all okW <;> cases decide ((x :: l).length≤40) <;> rfl
theorem right_l1 (s:ByteArray) (ws:List (List UInt8)) (hz:ws.length≤2000000):∀ (d k i:Nat),ws.length=i+d→d<k→transhumanceref4_Right.l1 k s (ws.map bs) (i:Int)=some ((ws.drop i).all okW && decide (s.size≤40))
  | 0,k,i,hd,hk => by
    obtain ⟨k,rfl⟩:∃ m,k=m+1:=⟨k - 1,by omega⟩
    rw [transhumanceref4_Right.l1.eq_2,if_neg (by rw [List.length_map];omega),List.drop_of_length_le (by omega)]
    rw [show decide ((s.size:Int)≤40)=decide (s.size≤40) from by rw [decide_eq_decide];omega]
    rfl
  | d+1,k,i,hd,hk => by
    obtain ⟨k,rfl⟩:∃ m,k=m+1:=⟨k - 1,by omega⟩
    have hi:i<ws.length:=by omega
    have hw:wrap64 ((i:Int)+1)=((i+1:Nat):Int):=wrap_id (by omega) (by omega)
    have hr:rdOf ByteArray.empty (ws.map bs) (i:Int)=bs ws[i]:=by simp [rdOf,List.getD,List.getElem?_map,List.getElem?_eq_getElem hi]
    rw [transhumanceref4_Right.l1.eq_2,if_pos (by rw [List.length_map];omega),if_pos (by omega),hr,toList_bs,hw,right_l1 s ws hz d k (i+1) (by omega) (by omega),List.drop_eq_getElem_cons hi,List.all_cons]
    unfold okW
    by_cases h0:ws[i]=[]
    · rw [if_pos h0,h0];rfl
    rw [if_neg h0]
    by_cases h1:ws[i]=[46]
    · rw [if_pos h1,h1];rfl
    rw [if_neg h1]
    by_cases h2:ws[i]=[46,46]
    · rw [if_pos h2,h2];rfl
    rw [if_neg h2]
    have e0:(ws[i] == [])=false:=by simpa using h0
    have e1:(ws[i] == [46])=false:=by simpa using h1
    have e2:(ws[i] == [46,46])=false:=by simpa using h2
    rw [e0,e1,e2]
    simp
def ok47I (x:Int):Bool:=okSignI x || x == 47
theorem ok47_int (c:UInt8):ok47I (c.toNat:Int)=ok47 c:=by
  unfold ok47I ok47
  rw [okSign_int]
  congr 1
  rw [Bool.eq_iff_iff]
  simp only [beq_iff_eq,← UInt8.toNat_inj]
  simp only [show (47:UInt8).toNat=47 from rfl]
  omega
theorem right_step (k:Nat) (s:ByteArray) (i:Int) (h0:i<(s.size:Int)) (h1:0≤i) :
    transhumanceref4_Right.l0 (k+1) s i=if ok47I (bt s i)=true then transhumanceref4_Right.l0 k s (wrap64 (i+1)) else some false:=by
  rw [transhumanceref4_Right.l0.eq_2]
  rw [if_pos h0,if_pos h1]
  generalize bt s i=x
  generalize transhumanceref4_Right.l0 k s (wrap64 (i+1))=y
  have e:ok47I x=true↔(97≤x∧x≤122)∨(48≤x∧x≤57)∨x=46∨x=45∨x=95∨x=47:=by
    simp [ok47I,okSignI,or_assoc]
  simp only [e]
  clear e h0 h1
  repeat' split
  all_goals first|rfl|(exfalso;omega)
theorem right_l0 (s:ByteArray) (hs:s.size≤1000000):∀ (d k i:Nat),s.size=i+d→d+2 * s.size+4<k→transhumanceref4_Right.l0 k s (i:Int)=some ((s.data.toList.drop i).all ok47 && ((parts 47 s.data.toList).all okW && decide (s.size≤40)))
  | 0,k,i,hd,hk => by
    obtain ⟨k,rfl⟩:∃ m,k=m+1:=⟨k - 1,by omega⟩
    have hp:∀ l:List UInt8,(parts 47 l).length≤l.length+1:=by
      intro l
      induction l with
      | nil => simp [parts]
      | cons x l ih =>
        rw [parts_cons]
        split
        · simp;omega
        · cases hp:parts 47 l with
          | nil => simp
          | cons w ws => rw [hp] at ih;simp at ih ⊢;omega
    have hz:=hp s.data.toList
    rw [data_length] at hz
    rw [transhumanceref4_Right.l0.eq_2,if_neg (by omega),words4_f s hs k (by omega),List.drop_of_length_le (by rw [data_length];omega)]
    show transhumanceref4_Right.l1 k s _ _=_
    have:=right_l1 s (parts 47 s.data.toList) (by omega) _ k 0 (by omega:_=0+(parts 47 s.data.toList).length) (by omega)
    rw [List.drop_zero] at this
    rw [List.all_nil,Bool.true_and]
    exact this
  | d+1,k,i,hd,hk => by
    obtain ⟨k,rfl⟩:∃ m,k=m+1:=⟨k - 1,by omega⟩
    have hi:i<s.size:=by omega
    have hw:wrap64 ((i:Int)+1)=((i+1:Nat):Int):=wrap_id (by omega) (by omega)
    rw [right_step k s _ (by omega) (by omega),bt_get s i hi,ok47_int,hw,right_l0 s hs d k (i+1) (by omega) (by omega),drop_at s i hi,List.all_cons]
    cases ok47 s[i] <;> simp
theorem right4_f (s:ByteArray) (hs:s.size≤1000000):transhumanceref4_Right.f (3 * s.size+5) s=some (rightL s.data.toList):=by
  have:=right_l0 s hs s.size (3 * s.size+5) 0 (by omega) (by omega)
  rw [rightL_eq,data_length,Bool.and_assoc]
  exact this
theorem toList_inj' {a x:ByteArray}:a.toList=x.toList↔a=x:=by
  refine ⟨fun h => ?_,fun h => by rw [h]⟩
  have e:∀ y:ByteArray,y.toList=y.data.toList:=fun y => by
    have:=toList_bs y.data.toList
    rwa [bs_data] at this
  rw [e,e] at h
  exact ext_bs h
theorem key_step (k i:Nat) (hi:i<5) (x:ByteArray):transhumanceref6_Key.l0 (k+1) x names (i:Int)=if names[i]'hi=x then some (i:Int) else transhumanceref6_Key.l0 k x names ((i+1:Nat):Int):=by
  have hw:wrap64 ((i:Int)+1)=((i+1:Nat):Int):=wrap_id (by omega) (by omega)
  have hl:names.length=5:=rfl
  have hr:rdOf ByteArray.empty names (i:Int)=names[i]'hi:=by
    show names.getD _ _=_
    rw [List.getD_eq_getElem?_getD,List.getElem?_eq_getElem (by rw [hl];omega)]
    rfl
  rw [transhumanceref6_Key.l0.eq_2,if_pos (by omega),if_pos (by omega),if_pos (by omega),hr,hw]
  simp only [toList_inj']
theorem key_end (k:Nat) (x:ByteArray):transhumanceref6_Key.l0 (k+1) x names ((4+1:Nat):Int)=some (-1):=by
  rw [transhumanceref6_Key.l0.eq_2,if_neg (by omega)]
end Go.Proofs.YtjdjljgbfpkbdaaGreatDoor.Q
end
section
namespace Go.Proofs.YtjdjljgbfpkbdaaGreatDoor.Q
open Go.RowKit Go.Proofs.YtjdjljgbfpkbdaaGreatDoorW.PrintWords Go.Proofs.YtjdjljgbfpkbdaaGreatDoorW.PrintLast Go.Proofs.YtjdjljgbfpkbdaaGreatDoorW.PrintMore
theorem extract_byte (s:ByteArray) (i:Nat) (h:i<s.size):s.extract i (i+1)=bs [s[i]]:=extract_one s i h
def trip:Option (List UInt8 × Nat)→ByteArray × Int × Bool
  | none => (⟨#[]⟩,0,false)
  | some (o,n) => (bs o,(n:Int),true)
theorem unqGo_cons6 (x:UInt8) (r acc:List UInt8) (n:Nat):unqGo (x :: r) acc n=if x<32∨126<x then none else if x=34 then some (acc,n+1) else if x=92 then
      match r with
      | [] => none
      | y :: r' => match esc y with
        | none => none
        | some z => unqGo r' (acc++[z]) (n+2)
    else unqGo r (acc++[x]) (n+1):=by
  cases r <;> rfl
theorem one_at (s:ByteArray) (i:Nat) (h:i<s.size):s.extract i (i+1)=bs [s[i]]:=extract_byte s i h
theorem app_bs (l m:List UInt8):bs l++bs m=bs (l++m):=by
  apply ext_bs
  rw [data_bs,ByteArray.data_append,Array.toList_append,data_bs,data_bs]
theorem unq_l0 (s:ByteArray) (hs:s.size≤1000000):∀ (n d k i:Nat) (acc:List UInt8),d≤n→s.size=i+d→3 * d+1≤k→acc.length≤i →
    transhumanceref1_Unquote.l0 k s (bs acc) (i:Int)=some (trip (unqGo (s.data.toList.drop i) acc i)):=by
  intro n
  induction n with
  | zero =>
    intro d k i acc hd hz hk hacc
    obtain ⟨k,rfl⟩:∃ m,k=m+1:=⟨k - 1,by omega⟩
    rw [transhumanceref1_Unquote.l0.eq_2,if_neg (by omega),List.drop_of_length_le (by rw [data_length];omega)]
    rfl
  | succ n ih =>
    intro d k i acc hd hz hk hacc
    by_cases h0:d=0
    · obtain ⟨k,rfl⟩:∃ m,k=m+1:=⟨k - 1,by omega⟩
      rw [transhumanceref1_Unquote.l0.eq_2,if_neg (by omega),List.drop_of_length_le (by rw [data_length];omega)]
      rfl
    have hi:i<s.size:=by omega
    obtain ⟨k,rfl⟩:∃ m,k=m+3:=⟨k - 3,by omega⟩
    have hw:wrap64 ((i:Int)+1)=((i+1:Nat):Int):=wrap_id (by omega) (by omega)
    have hw2:wrap64 (((i+1:Nat):Int)+1)=((i+2:Nat):Int):=by rw [wrap_id (by omega) (by omega)];omega
    have sz:∀ l:List UInt8,l.length=1→(bs acc).size+(bs l).size≤9223372036854775807:=fun l hl => by rw [size_bs,size_bs,hl];omega
    have hn1:(i:Int).toNat=i:=by omega
    have hn2:((i+1:Nat):Int).toNat=i+1:=by omega
    have hn3:((i+2:Nat):Int).toNat=i+2:=by omega
    rw [drop_at s i hi,unqGo_cons6,show k+3=(k+2)+1 from rfl,transhumanceref1_Unquote.l0.eq_2,if_pos (by omega),if_pos (by omega),hw,bt_get s i hi]
    have e34:((s[i].toNat:Int)=34)↔s[i]=34:=by rw [← UInt8.toNat_inj];show _↔s[i].toNat=34;omega
    have e92:((s[i].toNat:Int)=92)↔s[i]=92:=by rw [← UInt8.toNat_inj];show _↔s[i].toNat=92;omega
    have elo:((s[i].toNat:Int)<32)↔s[i]<32:=by rw [UInt8.lt_iff_toNat_lt];show _↔s[i].toNat<32;omega
    have ehi:((s[i].toNat:Int) > 126)↔126<s[i]:=by rw [UInt8.lt_iff_toNat_lt];show _↔126<s[i].toNat;omega
    by_cases h34:s[i]=34
    · rw [if_pos (e34.2 h34),h34]
      rfl
    rw [if_neg (fun h => h34 (e34.1 h))]
    by_cases hlo:s[i]<32
    · rw [if_pos (elo.2 hlo),transhumanceref1_Unquote.j2.eq_2,if_pos rfl,if_pos (.inl hlo)]
      rfl
    rw [if_neg (fun h => hlo (elo.1 h)),transhumanceref1_Unquote.j2.eq_2]
    by_cases hhi:126<s[i]
    · rw [decide_eq_true (ehi.2 hhi),if_pos rfl,if_pos (.inr hhi)]
      rfl
    rw [decide_eq_false (fun h => hhi (ehi.1 h)),if_neg (by decide),if_pos (by omega),if_pos (by omega),bt_get s i hi,if_neg (show ¬ (s[i]<32∨126<s[i]) from fun h => h.elim hlo hhi),if_neg h34,hw]
    by_cases h92:s[i]=92
    · rw [if_pos (e92.2 h92),if_pos h92]
      by_cases hs1:i+1<s.size
      · rw [if_neg (by omega),if_pos (by omega),if_pos (by omega),drop_at s (i+1) hs1,bt_get s (i+1) hs1]
        have j3:∀ b:Bool,(b=true↔(s[i+1]=34∨s[i+1]=92∨s[i+1]=47))→transhumanceref1_Unquote.j3 (k+1) s (bs acc) ((i+1:Nat):Int) (s[i+1].toNat:Int) b=some (trip (match esc s[i+1] with|none => none|some z => unqGo (s.data.toList.drop (i+1+1)) (acc++[z]) (i+2))):=by
          intro b hb
          have e110:((s[i+1].toNat:Int)=110)↔s[i+1]=110:=by rw [← UInt8.toNat_inj];show _↔s[i+1].toNat=110;omega
          have e116:((s[i+1].toNat:Int)=116)↔s[i+1]=116:=by rw [← UInt8.toNat_inj];show _↔s[i+1].toNat=116;omega
          have next:∀ z,transhumanceref1_Unquote.l0 k s (bs acc++bs [z]) ((i+2:Nat):Int)=some (trip (unqGo (s.data.toList.drop (i+1+1)) (acc++[z]) (i+2))):=by
            intro z
            rw [app_bs]
            exact ih (d - 2) k (i+2) (acc++[z]) (by omega) (by omega) (by omega) (by simp;omega)
          rw [transhumanceref1_Unquote.j3.eq_2,hw2]
          by_cases hbt:b=true
          · rw [if_pos hbt,if_pos (by omega),if_pos (by omega),if_pos (by omega),hn2,hn3,one_at s (i+1) hs1,if_pos (sz _ rfl),next]
            rcases hb.1 hbt with h|h|h <;> rw [h] <;> rfl
          · rw [if_neg hbt]
            have hno:=fun h => hbt (hb.2 h)
            by_cases h110:s[i+1]=110
            · rw [if_pos (e110.2 h110),if_pos (by rw [size_bs];omega),h110]
              exact next 10
            rw [if_neg (fun h => h110 (e110.1 h))]
            by_cases h116:s[i+1]=116
            · rw [if_pos (e116.2 h116),if_pos (by rw [size_bs];omega),h116]
              exact next 9
            rw [if_neg (fun h => h116 (e116.1 h))]
            have:esc s[i+1]=none:=by
              unfold esc
              rw [if_neg (fun h => hno (.inl h)),if_neg (fun h => hno (.inr (.inl h))),if_neg h110,if_neg h116,if_neg (fun h => hno (.inr (.inr h)))]
            rw [this]
            rfl
        have f34:((s[i+1].toNat:Int)=34)↔s[i+1]=34:=by rw [← UInt8.toNat_inj];show _↔s[i+1].toNat=34;omega
        have f92:((s[i+1].toNat:Int)=92)↔s[i+1]=92:=by rw [← UInt8.toNat_inj];show _↔s[i+1].toNat=92;omega
        have f47:((s[i+1].toNat:Int)=47)↔s[i+1]=47:=by rw [← UInt8.toNat_inj];show _↔s[i+1].toNat=47;omega
        by_cases g34:s[i+1]=34
        · rw [if_pos (f34.2 g34)]
          exact j3 _ (by simp only [beq_iff_eq,f34];exact ⟨.inl,fun _ => g34⟩)
        rw [if_neg (fun h => g34 (f34.1 h))]
        by_cases g92:s[i+1]=92
        · rw [if_pos (f92.2 g92)]
          exact j3 _ (by simp only [beq_iff_eq,f92];exact ⟨fun h => .inr (.inl h),fun _ => g92⟩)
        rw [if_neg (fun h => g92 (f92.1 h))]
        exact j3 _ (by simp only [beq_iff_eq,f47];exact ⟨fun h => .inr (.inr h),fun h => (h.resolve_left g34).resolve_left g92⟩)
      · rw [if_pos (by omega),List.drop_of_length_le (by rw [data_length];omega)]
        rfl
    · rw [if_neg (fun h => h92 (e92.1 h)),if_neg h92,if_pos (by omega),if_pos (by omega),hn1,hn2,one_at s i hi,if_pos (sz _ rfl),app_bs]
      exact ih (d - 1) (k+1) (i+1) (acc++[s[i]]) (by omega) (by omega) (by omega) (by simp;omega)
theorem unq7_f (s:ByteArray) (hs:s.size≤1000000) (m:Nat) (hm:3 * s.size+5≤m):transhumanceref1_Unquote.f m s=some (trip (unq s.data.toList)):=by
  obtain ⟨j,rfl⟩:∃ j,m=j+1:=⟨m - 1,by omega⟩
  unfold transhumanceref1_Unquote.f
  have e:s.toList=s.data.toList:=by
    have:=toList_bs s.data.toList
    rwa [bs_data] at this
  rw [e]
  by_cases h0:s.data.toList=[]
  · rw [if_pos h0,h0]
    rfl
  · have hz:0<s.size:=by
      rw [← data_length]
      exact List.length_pos_iff.2 h0
    rw [if_neg h0,if_pos (by omega)]
    have hb:bt s 0=(s[0].toNat:Int):=bt_get s 0 hz
    have hd:=drop_at s 0 hz
    rw [List.drop_zero] at hd
    rw [hb,hd]
    show (transhumanceref1_Unquote.j0 (j+1) s _)=_
    rw [transhumanceref1_Unquote.j0.eq_2]
    by_cases h34:s[0]=34
    · have hq:((s[0].toNat:Int) != 34)=false:=by rw [h34];rfl
      rw [hq,if_neg (by decide),h34]
      exact unq_l0 s hs (s.size - 1) (s.size - 1) _ 1 [] (by omega) (by omega) (by omega) (by simp)
    · have hq:((s[0].toNat:Int) != 34)=true:=by
        have:s[0].toNat≠34:=fun h => h34 (UInt8.toNat_inj.mp h)
        simp only [bne_iff_ne,ne_eq]
        omega
      rw [hq,if_pos rfl]
      have:unq (s[0] :: s.data.toList.drop (0+1))=none:=by
        unfold unq
        split
        · rename_i h
          injection h with h _
          exact absurd h h34
        · rfl
      rw [this]
      rfl
end Go.Proofs.YtjdjljgbfpkbdaaGreatDoor.Q
end
section
namespace Go.Proofs.YtjdjljgbfpkbdaaGreatDoor.Q
open Go.RowKit Go.Proofs.YtjdjljgbfpkbdaaGreatDoorW.PrintWords Go.Proofs.YtjdjljgbfpkbdaaGreatDoorW.PrintLast Go.Proofs.YtjdjljgbfpkbdaaGreatDoorW.PrintMore
theorem blankN_eq (x:List UInt8):blankN x=(x.takeWhile (· == 32)).length:=by
  have h:=congrArg List.length (List.takeWhile_append_dropWhile (p:=fun b:UInt8 => b == 32) (l:=x))
  rw [List.length_append] at h
  have e:Lib.trimLeftB x 32=x.dropWhile (· == 32):=rfl
  unfold blankN
  rw [e]
  omega
theorem blank_l0 (s:ByteArray) (hs:s.size≤1000000):∀ (d i:Nat),i+d=s.size→Ev (fun k => transhumanceref7_blank.l0 k s i) ((i+((s.data.toList.drop i).takeWhile (· == 32)).length:Nat):Int)
  | 0,i,hi => by
    rw [List.drop_of_length_le (by rw [Q.data_length];omega)]
    exact Ev.step (fun _ => transhumanceref7_blank.l0.eq_2 ..) (Ev.neg (by omega) (Ev.now _))
  | d+1,i,hi => by
    have hlt:i<s.size:=by omega
    have hw:wrap64 ((i:Int)+1)=((i+1:Nat):Int):=wrap_id (by omega) (by omega)
    have ih:=blank_l0 s hs d (i+1) (by omega)
    rw [drop_at s i hlt,List.takeWhile_cons]
    refine Ev.step (fun _ => transhumanceref7_blank.l0.eq_2 ..) (Ev.pos (by omega) (Ev.pos (by omega) ?_))
    rw [bt_get s i hlt]
    by_cases h:s[i]=32
    · have e:(s[i] == 32)=true:=by simpa using h
      rw [if_pos e,List.length_cons,hw]
      refine Ev.pos (by rw [h];rfl) ?_
      rw [show i+(((s.data.toList.drop (i+1)).takeWhile (· == 32)).length+1)=i+1+((s.data.toList.drop (i+1)).takeWhile (· == 32)).length from by omega]
      exact ih
    · have e:¬ (s[i] == 32)=true:=by simpa using h
      rw [if_neg e]
      exact Ev.neg (fun hh => h ((byte_int (n:=32) (by decide)).1 hh)) (Ev.now _)
theorem blank7_ev (s:ByteArray) (hs:s.size≤1000000):Ev (fun k => transhumanceref7_blank.f k s) (blankN s.data.toList:Int):=by
  have:=blank_l0 s hs s.size 0 (by omega)
  rw [List.drop_zero,Nat.zero_add,← blankN_eq] at this
  exact this
def badNI:Option Nat→Int
  | none => -1
  | some k => (k:Int)
theorem badr_l0 (s:ByteArray) (hs:s.size≤1000000):∀ (d i:Nat),i+d=s.size→Ev (fun k => transhumanceref1_Bad.l0 k s i) (badNI ((badAt (s.data.toList.drop i)).map (·+i)))
  | 0,i,hi => by
    rw [List.drop_of_length_le (by rw [Q.data_length];omega)]
    exact Ev.step (fun _ => transhumanceref1_Bad.l0.eq_2 ..) (Ev.neg (by omega) (Ev.now _))
  | d+1,i,hi => by
    have hlt:i<s.size:=by omega
    have hw:wrap64 ((i:Int)+1)=((i+1:Nat):Int):=wrap_id (by omega) (by omega)
    have ih:=badr_l0 s hs d (i+1) (by omega)
    rw [drop_at s i hlt]
    refine Ev.step (fun _ => transhumanceref1_Bad.l0.eq_2 ..) (Ev.pos (by omega) (Ev.pos (by omega) ?_))
    rw [bt_get s i hlt]
    refine Ev.val (bad_f _) ?_
    unfold badAt
    cases h:plainB s[i] with
    | true =>
      refine Ev.neg (by simp) ?_
      rw [hw,if_pos rfl,Option.map_map]
      have e:((fun x => x+i) ∘ fun x => x+1)=fun x:Nat => x+(i+1):=by funext x;simp only [Function.comp_apply];omega
      rw [e]
      exact ih
    | false =>
      rw [if_neg (by simp)]
      refine Ev.pos rfl ?_
      simp only [Option.map_some,Nat.zero_add]
      exact Ev.now _
theorem badr_ev (s:ByteArray) (hs:s.size≤1000000):Ev (fun k => transhumanceref1_Bad.f k s) (badNI (badAt s.data.toList)):=by
  have:=badr_l0 s hs s.size 0 (by omega)
  rw [List.drop_zero] at this
  have e:(badAt s.data.toList).map (·+0)=badAt s.data.toList:=by cases badAt s.data.toList <;> rfl
  rw [e] at this
  exact this
theorem lines_last (s:ByteArray) (hs:s.size≤1000000) (acc:List ByteArray) (pos:List Int) (ha:acc.length≤1000000) (hp:pos.length≤1000000) (done:List UInt8):∀ (p cur:List UInt8),(∀ b ∈ p,b≠10)→s.data.toList=done++(cur++p)→cur++p≠[] →
    Ev (fun k => transhumanceref1_Lines.l0 k s acc pos (done.length:Int) ((done.length+cur.length:Nat):Int)) (acc++[bs (cur++p)],pos++[(done.length:Int)])
  | [],cur,hn,hd,hne => by
    have hsz:s.size=done.length+cur.length:=by rw [← Q.data_length,hd];simp
    rw [List.append_nil] at hne ⊢
    have hpos:=List.length_pos_iff.2 hne
    have hw:wrap64 (((done.length+cur.length:Nat):Int)+1)=((done.length+cur.length+1:Nat):Int):=wrap_id (by omega) (by omega)
    have hx:s.extract done.length (done.length+cur.length)=bs cur:=extract_mid (c:=[]) (by rw [hd])
    refine Ev.step (fun _ => transhumanceref1_Lines.l0.eq_2 ..) (Ev.pos (by omega) (Ev.neg (by omega) (Ev.pos (by omega) (Ev.neg (by omega) (Ev.pos (by omega) (Ev.pos (by omega) (Ev.pos (by omega) (Ev.pos (by omega) ?_))))))))
    rw [Int.toNat_natCast,Int.toNat_natCast,hx,hw]
    exact Ev.step (fun _ => transhumanceref1_Lines.l0.eq_2 ..) (Ev.neg (by omega) (Ev.now _))
  | b :: p,cur,hn,hd,hne => by
    have hb:b≠10:=hn b List.mem_cons_self
    obtain ⟨hlt,hc⟩:=at_mid (s:=s) (a:=done++cur) (b:=p) (c:=b) (by rw [hd];simp)
    simp only [List.length_append] at hlt
    have hc':¬ bt s ((done.length+cur.length:Nat):Int)=10:=by
      have:=bt_get s (done.length+cur.length) hlt
      rw [this]
      have e:s[done.length+cur.length]'hlt=b:=by
        have:=hc
        simp only [List.length_append] at this
        exact this
      rw [e]
      exact fun h => hb ((byte_int (n:=10) (by decide)).1 h)
    have hw:wrap64 (((done.length+cur.length:Nat):Int)+1)=((done.length+(cur++[b]).length:Nat):Int):=by
      rw [wrap_id (by omega) (by omega),List.length_append]
      simp only [List.length_cons,List.length_nil]
      omega
    have ih:=lines_last s hs acc pos ha hp done p (cur++[b]) (fun x hx => hn x (List.mem_cons_of_mem _ hx)) (by rw [hd];simp) (by simp)
    refine Ev.step (fun _ => transhumanceref1_Lines.l0.eq_2 ..) (Ev.pos (by omega) (Ev.pos (by omega) (Ev.pos (by omega) (Ev.neg hc' ?_))))
    rw [hw]
    simpa using ih
theorem lines_any (s:ByteArray) (hs:s.size≤1000000) (last:List UInt8) (hl:∀ b ∈ last,b≠10):∀ (rows:List (List UInt8)) (done:List UInt8) (acc:List ByteArray) (pos:List Int),(∀ l ∈ rows,∀ b ∈ l,b≠10)→s.data.toList=done++((rows.map fun l => l++[10]).flatten++last)→acc.length+rows.length≤1000000→pos.length+rows.length≤1000000 →
    Ev (fun k => transhumanceref1_Lines.l0 k s acc pos (done.length:Int) (done.length:Int)) (acc++(rows++tailR last).map bs,pos++offs done.length (rows++tailR last))
  | [],done,acc,pos,_,hd,ha,hp => by
    rw [List.map_nil,List.flatten_nil,List.nil_append] at hd
    rw [List.nil_append]
    unfold tailR
    by_cases h0:last=[]
    · subst h0
      have hsz:s.size=done.length:=by rw [← Q.data_length,hd];simp
      have hw:wrap64 ((done.length:Int)+1)=((done.length+1:Nat):Int):=wrap_id (by omega) (by omega)
      refine Ev.step (fun _ => transhumanceref1_Lines.l0.eq_2 ..) (Ev.pos (by omega) (Ev.neg (by omega) (Ev.pos (by omega) (Ev.pos rfl ?_))))
      rw [hw]
      refine Ev.step (fun _ => transhumanceref1_Lines.l0.eq_2 ..) (Ev.neg (by omega) (Ev.ret ?_))
      simp [offs]
    · rw [if_neg h0]
      have:=lines_last s hs acc pos (by omega) (by omega) done last [] hl (by rw [hd];simp) (by simpa using h0)
      simpa [offs] using this
  | r :: rows,done,acc,pos,hn,hd,ha,hp => by
    simp only [List.length_cons] at ha hp
    have hd2:s.data.toList=done++([]++r++10 :: ((rows.map fun l => l++[10]).flatten++last)):=by rw [hd];simp
    have h:=lines_any s hs last hl rows (done++(r++[10])) (acc++[bs r]) (pos++[(done.length:Int)]) (fun l hl => hn l (List.mem_cons_of_mem _ hl)) (by rw [hd];simp) (by simp;omega) (by simp;omega)
    have e:(done++(r++[10])).length=done.length+([]++r).length+1:=by simp;omega
    have e2:(done++(r++[10])).length=done.length+r.length+1:=by simp;omega
    have:=lines_row s hs acc pos (by omega) (by omega) (acc++(r :: rows++tailR last).map bs,pos++offs done.length (r :: rows++tailR last)) done _ r [] (hn r List.mem_cons_self) hd2 (by
      rw [e2] at h
      have e3:done.length+([]++r).length+1=done.length+r.length+1:=by simp
      rw [e3]
      simpa [offs] using h)
    simpa using this
theorem lines7_ev (s:ByteArray) (hs:s.size≤100000) (rows:List (List UInt8)) (last:List UInt8) (h1:∀ l ∈ rows,∀ b ∈ l,b≠10) (h2:∀ b ∈ last,b≠10) (hd:s.data.toList=(rows.map fun l => l++[10]).flatten++last) (hr:rows.length≤1000000) :
    Ev (fun k => transhumanceref1_Lines.f k s) ((rows++tailR last).map bs,offs 0 (rows++tailR last)):=by
  have:=lines_any s (by omega) last h2 rows [] [] [] h1 (by rw [hd];rfl) (by simpa using hr) (by simpa using hr)
  unfold transhumanceref1_Lines.f
  simpa using this
theorem key7_ev (x:ByteArray):Ev (fun k => transhumanceref6_Key.f k x) (Lib.idxOfS names x):=by
  refine ⟨6,fun m hm => ?_⟩
  obtain ⟨k,rfl⟩:∃ k,m=k+6:=⟨m - 6,by omega⟩
  have e:Lib.idxOfS names x=if wordRoot=x then 0 else if wordVersion=x then 1 else if wordRev=x then 2 else if wordWithin=x then 3 else if wordSource=x then 4 else -1:=rfl
  rw [e]
  show transhumanceref6_Key.l0 (k+5+1) x names ((0:Nat):Int)=_
  rw [key_step (k+5) 0 (by omega),key_step (k+4) 1 (by omega),key_step (k+3) 2 (by omega),key_step (k+2) 3 (by omega),key_step (k+1) 4 (by omega),key_end]
  show (if wordRoot=x then some 0 else if wordVersion=x then some 1 else if wordRev=x then some 2 else if wordWithin=x then some 3 else if wordSource=x then some 4 else some (-1))=_
  repeat' split
  all_goals rfl
theorem unq7_ev (s:ByteArray) (hs:s.size≤1000000):Ev (fun k => transhumanceref1_Unquote.f k s) (trip (unq s.data.toList)):=⟨3 * s.size+5,fun m hm => unq7_f s hs m hm⟩
theorem idx_neg (x:ByteArray):Lib.idxOfS names x<0↔¬ Lib.containsS names x=true:=by
  constructor
  · intro h hc
    obtain ⟨j,_,hj⟩:=names_at x hc
    omega
  · intro h
    have hm:x ∉ names:=fun hm => h ((Lib.containsS_iff names x).2 hm)
    have e:Lib.idxOfS names x=if wordRoot=x then 0 else if wordVersion=x then 1 else if wordRev=x then 2 else if wordWithin=x then 3 else if wordSource=x then 4 else -1:=rfl
    have en:names=[wordRoot,wordVersion,wordRev,wordWithin,wordSource]:=rfl
    rw [en] at hm
    simp only [List.mem_cons,List.not_mem_nil,or_false,not_or] at hm
    obtain ⟨n1,n2,n3,n4,n5⟩:=hm
    rw [e,if_neg (Ne.symm n1),if_neg (Ne.symm n2),if_neg (Ne.symm n3),if_neg (Ne.symm n4),if_neg (Ne.symm n5)]
    decide
theorem low_int (c:UInt8):((c.toNat:Int) ≥ 97∧(c.toNat:Int)≤122)↔lowU c=true:=by
  unfold lowU
  simp only [Bool.and_eq_true,decide_eq_true_eq,UInt8.le_iff_toNat_le]
  show _↔(97≤c.toNat∧c.toNat≤122)
  omega
theorem line_l0 (s:ByteArray) (hs:s.size≤100000) (r:Bool × Int × ByteArray × Bool):∀ (d i:Nat),i+d=s.size →
    Ev (fun k => transhumanceref7_line.j2 k s ((i+((s.data.toList.drop i).takeWhile lowU).length:Nat):Int)) r→Ev (fun k => transhumanceref7_line.l0 k s (i:Int)) r
  | 0,i,hi,h => by
    rw [List.drop_of_length_le (by rw [Q.data_length];omega)] at h
    exact Ev.step (fun _ => transhumanceref7_line.l0.eq_2 ..) (Ev.neg (by omega) h)
  | d+1,i,hi,h => by
    have hlt:i<s.size:=by omega
    have hw:wrap64 ((i:Int)+1)=((i+1:Nat):Int):=wrap_id (by omega) (by omega)
    rw [drop_at s i hlt,List.takeWhile_cons] at h
    refine Ev.step (fun _ => transhumanceref7_line.l0.eq_2 ..) (Ev.pos (by omega) (Ev.pos (by omega) ?_))
    rw [bt_get s i hlt,hw]
    have hl:=low_int s[i]
    cases hc:lowU s[i] with
    | true =>
      rw [hc,if_pos rfl,List.length_cons] at h
      obtain ⟨g1,g2⟩:=hl.2 hc
      refine Ev.pos g1 (Ev.pos g2 (line_l0 s hs r d (i+1) (by omega) ?_))
      rw [show i+1+((s.data.toList.drop (i+1)).takeWhile lowU).length=i+(((s.data.toList.drop (i+1)).takeWhile lowU).length+1) from by omega]
      exact h
    | false =>
      rw [hc,if_neg (by simp)] at h
      by_cases g1:(s[i].toNat:Int) ≥ 97
      · refine Ev.pos g1 (Ev.neg (fun g2 => ?_) h)
        rw [hl.1 ⟨g1,g2⟩] at hc
        cases hc
      · exact Ev.neg g1 h
theorem pair_nil:pairL []=none:=pair_no (by intro v h;cases h)
theorem cls_short {x:List UInt8} (h:x.length≤2):clsL x=none:=by
  unfold clsL
  rw [List.drop_of_length_le h,pair_nil]
  split
  · rfl
  · split <;> rfl
def Said (c:Option (Bool × Nat × List UInt8)) (r:Bool × Int × ByteArray × Bool):Prop :=
  match c with
  | none => r.2.2.2=false
  | some (b,k,v) => r=(b,(k:Int),bs v,true)
theorem extract_from (s:ByteArray) (i:Nat):s.extract i s.size=bs (s.data.toList.drop i):=by
  apply ext_bs
  rw [ByteArray.data_extract,data_bs]
  simp only [Array.toList_extract,List.extract_eq_take_drop]
  rw [List.take_of_length_le]
  rw [List.length_drop,Q.data_length]
  exact Nat.le_refl _
theorem extract_len (s:ByteArray) (i n:Nat):s.extract i (i+n)=bs ((s.data.toList.drop i).take n):=by
  apply ext_bs
  rw [ByteArray.data_extract,data_bs]
  simp only [Array.toList_extract,List.extract_eq_take_drop]
  rw [show i+n - i=n from by omega]
theorem line_j0 (s:ByteArray) (hs:s.size≤100000) (hp:s.data.toList.all plainB=true) (h3:3≤s.size) (b:Bool) (hb:b=(bt s 0 == 45)) :
    ∃ r,Ev (fun k => transhumanceref7_line.j0 k s false) r∧Said ((pairL (s.data.toList.drop 2)).map fun p => (b,(Lib.idxOfS names p.1).toNat,p.2)) r:=by
  subst hb
  generalize hy:s.data.toList.drop 2=y
  generalize hw:y.takeWhile lowU=w
  generalize hr:y.dropWhile lowU=rest
  have hyl:y.length+2=s.size:=by rw [← hy,List.length_drop,Q.data_length];omega
  have hsp:y=w++rest:=by rw [← hw,← hr];exact List.takeWhile_append_dropWhile.symm
  have hwr:w.length+rest.length=y.length:=by rw [hsp,List.length_append]
  suffices hj:∃ r,Ev (fun k => transhumanceref7_line.j2 k s ((2+w.length:Nat):Int)) r∧Said ((pairL y).map fun p => ((bt s 0 == 45),(Lib.idxOfS names p.1).toNat,p.2)) r by
    obtain ⟨r,h1,h2⟩:=hj
    refine ⟨r,Ev.step (fun _ => transhumanceref7_line.j0.eq_2 ..) (Ev.neg (by simp) ?_),h2⟩
    refine line_l0 s hs r (s.size - 2) 2 (by omega) ?_
    rw [hy,hw]
    exact h1
  have hdr:s.data.toList.drop (2+w.length)=rest:=by
    rw [← List.drop_drop,hy,hsp,List.drop_left]
  have hex:s.extract 2 (2+w.length)=bs w:=by
    rw [extract_len,hy,hsp,List.take_left]
  have hw2:wrap64 (((2+w.length:Nat):Int)+2)=((2+w.length+2:Nat):Int):=wrap_id (by omega) (by omega)
  have bad:Ev (fun k => transhumanceref7_line.j3 k s ((2+w.length:Nat):Int) (Lib.idxOfS names (bs w)) true) (false,0,(⟨#[]⟩:ByteArray),false) :=
    Ev.step (fun _ => transhumanceref7_line.j3.eq_2 ..) (Ev.pos rfl (Ev.now _))
  have start:∀ r,Ev (fun k => (if Lib.idxOfS names (bs w)<0 then (transhumanceref7_line.j3 k s ((2+w.length:Nat):Int) (Lib.idxOfS names (bs w)) true) else (if ((2+w.length+2:Nat):Int) > (s.size:Int) then (transhumanceref7_line.j3 k s ((2+w.length:Nat):Int) (Lib.idxOfS names (bs w)) true) else (if 0≤((2+w.length:Nat):Int) then (if ((2+w.length:Nat):Int)≤((2+w.length+2:Nat):Int) then (if ((2+w.length+2:Nat):Int)≤(s.size:Int) then (transhumanceref7_line.j3 k s ((2+w.length:Nat):Int) (Lib.idxOfS names (bs w)) ((s.extract (2+w.length) (2+w.length+2)).toList != ([58,32]:List UInt8))) else (none)) else (none)) else (none))))) r →
      Ev (fun k => transhumanceref7_line.j2 k s ((2+w.length:Nat):Int)) r:=by
    intro r h
    refine Ev.step (fun _ => transhumanceref7_line.j2.eq_2 ..) (Ev.pos (by omega) (Ev.pos (by omega) ?_))
    rw [Int.toNat_natCast,hex]
    refine Ev.bind (key7_ev (bs w)) ?_
    rw [hw2]
    simp only [Int.toNat_natCast]
    exact h
  have ewb:(⟨w.toArray⟩:ByteArray)=bs w:=rfl
  by_cases hn:Lib.containsS names (bs w)=true
  · have hk0:¬ Lib.idxOfS names (bs w)<0:=fun h => (idx_neg _).1 h hn
    by_cases hz:((2+w.length+2:Nat):Int) > (s.size:Int)
    · have hno:pairL y=none:=pair_no fun v hv => by
        rw [hr] at hv
        rw [hv] at hwr
        simp only [List.length_cons] at hwr
        omega
      rw [hno]
      exact ⟨_,start _ (Ev.neg hk0 (Ev.pos hz bad)),rfl⟩
    · have hx2:(s.extract (2+w.length) (2+w.length+2)).toList=rest.take 2:=by
        rw [extract_len,hdr,toList_bs]
      by_cases h58:rest.take 2=[58,32]
      · have hrest:rest=58 :: 32 :: s.data.toList.drop (2+w.length+2):=by
          have e:rest=rest.take 2++rest.drop 2:=(List.take_append_drop 2 rest).symm
          rw [h58] at e
          rw [← List.drop_drop,hdr]
          exact e
        generalize hv:s.data.toList.drop (2+w.length+2)=v at hrest
        have hvl:v.length+(2+w.length+2)=s.size:=by rw [← hv,List.length_drop,Q.data_length];omega
        have hpv:v.all plainB=true:=by
          rw [← hv]
          exact List.all_eq_true.2 fun b hb => List.all_eq_true.1 hp b (List.mem_of_mem_drop hb)
        have hyes:=pair_yes (y:=y) (v:=v) (by rw [hr,hrest])
        rw [hw,ewb,if_pos hn] at hyes
        have hxv:s.extract (2+w.length+2) s.size=bs v:=by rw [extract_from,hv]
        have go:∀ r,Ev (fun k => (if mayL v=true then (if 0<(s.size:Int) then (some (((bt s 0) == 45),Lib.idxOfS names (bs w),bs v,true)) else (none)) else ((transhumanceref1_Unquote.f k (bs v)).bind fun bt136 => (if 0<(s.size:Int) then (if bt136.2.2=true then (some (((bt s 0) == 45),Lib.idxOfS names (bs w),bt136.1,(bt136.2.1 == ((bs v).size:Int)))) else (some (((bt s 0) == 45),Lib.idxOfS names (bs w),bt136.1,false))) else (none))))) r →
            Ev (fun k => transhumanceref7_line.j2 k s ((2+w.length:Nat):Int)) r:=by
          intro r h
          refine start r (Ev.neg hk0 (Ev.neg hz (Ev.pos (by omega) (Ev.pos (by omega) (Ev.pos (by omega) ?_)))))
          rw [hx2,h58]
          refine Ev.step (fun _ => transhumanceref7_line.j3.eq_2 ..) (Ev.neg (by simp) ?_)
          rw [hw2]
          refine Ev.pos (by omega) (Ev.pos (by omega) ?_)
          simp only [Int.toNat_natCast,hxv]
          have hm:=p7x_ev (bs v) (by rw [size_bs];omega) (by rw [data_bs];exact hpv)
          rw [data_bs] at hm
          exact Ev.bind hm h
        by_cases hmay:mayL v=true
        · rw [value_plain v hmay] at hyes
          refine ⟨_,go _ (Ev.pos hmay (Ev.pos (by omega) (Ev.now _))),?_⟩
          rw [hyes,if_pos rfl]
          show _=_
          have hge:0≤Lib.idxOfS names (bs w):=by omega
          rw [Int.toNat_of_nonneg hge]
        · have hu:=unq7_ev (bs v) (by rw [size_bs];omega)
          rw [data_bs] at hu
          cases hq:unq v with
          | none =>
            rw [hq] at hu
            refine ⟨_,go _ (Ev.neg hmay (Ev.bind hu (Ev.pos (by omega) (Ev.neg (by simp [trip]) (Ev.now _))))),?_⟩
            have hval:valueL v=(v,mayL v):=by unfold valueL;rw [hq]
            rw [hyes,hval,if_neg hmay]
            rfl
          | some on =>
            obtain ⟨o,n⟩:=on
            rw [hq] at hu
            refine ⟨_,go _ (Ev.neg hmay (Ev.bind hu (Ev.pos (by omega) (Ev.pos rfl (Ev.now _))))),?_⟩
            by_cases hnv:n=v.length
            · have hval:valueL v=(o,true):=by unfold valueL;rw [hq];exact if_pos hnv
              rw [hyes,hval,if_pos rfl]
              have hge:0≤Lib.idxOfS names (bs w):=by omega
              have en:((n:Int) == ((bs v).size:Int))=true:=by rw [size_bs,hnv];simp
              show (_,_,_,((n:Int) == ((bs v).size:Int)))=_
              rw [en]
              show _=(_,((Lib.idxOfS names (bs w)).toNat:Int),_,_)
              rw [Int.toNat_of_nonneg hge]
              rfl
            · have hval:valueL v=(v,mayL v):=by unfold valueL;rw [hq];exact if_neg hnv
              rw [hyes,hval,if_neg hmay]
              show ((n:Int) == ((bs v).size:Int))=false
              rw [size_bs]
              simp only [beq_eq_false_iff_ne,ne_eq]
              omega
      · have hno:pairL y=none:=pair_no fun v hv => by
          rw [hr] at hv
          rw [hv] at h58
          exact h58 rfl
        rw [hno]
        refine ⟨(false,0,(⟨#[]⟩:ByteArray),false),start _ (Ev.neg hk0 (Ev.neg hz (Ev.pos (by omega) (Ev.pos (by omega) (Ev.pos (by omega) ?_))))),rfl⟩
        rw [hx2]
        have:(rest.take 2 != [58,32])=true:=by simpa using h58
        rw [this]
        exact bad
  · have hk0:Lib.idxOfS names (bs w)<0:=(idx_neg _).2 hn
    have hno:pairL y=none:=by
      by_cases hv:∃ v,y.dropWhile lowU=58 :: 32 :: v
      · obtain ⟨v,hv⟩:=hv
        have:=pair_yes hv
        rw [hw,ewb,if_neg hn] at this
        exact this
      · exact pair_no fun v h => hv ⟨v,h⟩
    rw [hno]
    exact ⟨_,start _ (Ev.pos hk0 bad),rfl⟩
theorem line7 (s:ByteArray) (hs:s.size≤100000) (hp:s.data.toList.all plainB=true):∃ r,Ev (fun k => transhumanceref7_line.f k s) r∧Said (clsL s.data.toList) r:=by
  have jt:Ev (fun k => transhumanceref7_line.j0 k s true) (false,0,(⟨#[]⟩:ByteArray),false):=Ev.step (fun _ => transhumanceref7_line.j0.eq_2 ..) (Ev.pos rfl (Ev.now _))
  unfold transhumanceref7_line.f
  by_cases h3:(s.size:Int)<3
  · rw [cls_short (by rw [Q.data_length];omega)]
    exact ⟨_,Ev.pos h3 jt,rfl⟩
  obtain ⟨x0,x1,t,hx⟩:∃ x0 x1 t,s.data.toList=x0 :: x1 :: t:=by
    have hl:=Q.data_length s
    cases hd:s.data.toList with
    | nil => rw [hd] at hl;simp at hl;omega
    | cons x0 t =>
      cases t with
      | nil => rw [hd] at hl;simp at hl;omega
      | cons x1 t => exact ⟨x0,x1,t,rfl⟩
  have h2:(s.extract 0 2).toList=[x0,x1]:=by
    have:=extract_len s 0 2
    rw [show (0:Nat)+2=2 from rfl] at this
    rw [this,hx,toList_bs]
    rfl
  have hz:0<s.size:=by omega
  have hb0:bt s 0=(x0.toNat:Int):=by
    have:=bt_get s 0 hz
    have e:s[0]=x0:=by
      have:s.data.toList[0]'(by rw [hx];simp)=x0:=by simp [hx]
      exact this
    rw [e] at this
    exact this
  rw [h2]
  unfold clsL
  by_cases h45:([x0,x1]:List UInt8)=[45,32]
  · injection h45 with e0 e1
    injection e1 with e1 _
    have hpf:Lib.hasPrefix s.data.toList [45,32]=true:=by rw [hx,e0,e1];simp [Lib.hasPrefix]
    obtain ⟨r,g1,g2⟩:=line_j0 s hs hp (by omega) true (by rw [hb0,e0];rfl)
    rw [if_pos hpf]
    exact ⟨r,Ev.neg h3 (Ev.pos (by omega) (Ev.pos (by omega) (Ev.pos (by rw [e0,e1]) g1))),g2⟩
  have hpf:¬ Lib.hasPrefix s.data.toList [45,32]=true:=by
    rw [hx]
    intro h
    simp only [Lib.hasPrefix,List.isPrefixOf,Bool.and_true,Bool.and_eq_true,beq_iff_eq] at h
    exact h45 (by rw [← h.1,← h.2])
  rw [if_neg hpf]
  by_cases h32:([x0,x1]:List UInt8)=[32,32]
  · injection h32 with e0 e1
    injection e1 with e1 _
    have hpf2:Lib.hasPrefix s.data.toList [32,32]=true:=by rw [hx,e0,e1];simp [Lib.hasPrefix]
    obtain ⟨r,g1,g2⟩:=line_j0 s hs hp (by omega) false (by rw [hb0,e0];rfl)
    rw [if_pos hpf2]
    refine ⟨r,Ev.neg h3 (Ev.pos (by omega) (Ev.pos (by omega) (Ev.neg h45 ?_))),g2⟩
    have:([x0,x1] != ([32,32]:List UInt8))=false:=by rw [e0,e1];rfl
    rw [this]
    exact g1
  · have hpf2:¬ Lib.hasPrefix s.data.toList [32,32]=true:=by
      rw [hx]
      intro h
      simp only [Lib.hasPrefix,List.isPrefixOf,Bool.and_true,Bool.and_eq_true,beq_iff_eq] at h
      exact h32 (by rw [← h.1,← h.2])
    rw [if_neg hpf2]
    refine ⟨(false,0,(⟨#[]⟩:ByteArray),false),Ev.neg h3 (Ev.pos (by omega) (Ev.pos (by omega) (Ev.neg h45 ?_))),rfl⟩
    have:([x0,x1] != ([32,32]:List UInt8))=true:=by simpa using h32
    rw [this]
    exact jt
end Go.Proofs.YtjdjljgbfpkbdaaGreatDoor.Q
end
section
namespace Go.Proofs.YtjdjljgbfpkbdaaGreatDoor.Q
open Go.RowKit Go.Proofs.YtjdjljgbfpkbdaaGreatDoorW.PrintWords Go.Proofs.YtjdjljgbfpkbdaaGreatDoorW.PrintLast Go.Proofs.YtjdjljgbfpkbdaaGreatDoorW.PrintMore
theorem check_l0 (init:List Lk) (x:Lk) (a b c d:ByteArray) (hz:init.length≤1000):∀ (m i k:Nat),init.length=i+m→m<k →
    transhumanceref6_Check.l0 k (outs (init++[x])) (init.length:Int) (i:Int) x.root a b c d=some (if (init.drop i).any (fun z => z.root.toList == x.root.toList)=true then 4 else 0):=by
  intro m
  induction m with
  | zero =>
    intro i k hi hk
    obtain ⟨k,rfl⟩:∃ j,k=j+1:=⟨k - 1,by omega⟩
    rw [transhumanceref6_Check.l0.eq_2,if_neg (by omega),List.drop_of_length_le (by omega)]
    rfl
  | succ m ih =>
    intro i k hi hk
    obtain ⟨k,rfl⟩:∃ j,k=j+1:=⟨k - 1,by omega⟩
    have hlt:i<init.length:=by omega
    have hlt2:i<(init++[x]).length:=by simp;omega
    have hg:(init++[x])[i]=init[i]:=List.getElem_append_left hlt
    have hw:wrap64 ((i:Int)+1)=((i+1:Nat):Int):=wrap_id (by omega) (by omega)
    have hlen:(outs (init++[x])).length=init.length+1:=by simp [outs]
    rw [transhumanceref6_Check.l0.eq_2,if_pos (by omega),if_pos (by omega),if_pos (by omega),rd_out _ i hlt2,hg,hw,ih (i+1) k (by omega) (by omega),List.drop_eq_getElem_cons hlt,List.any_cons]
    show (if init[i].root.toList=x.root.toList then some 4 else _)=_
    by_cases h:init[i].root.toList=x.root.toList
    · rw [if_pos h,h]
      simp
    · rw [if_neg h]
      have:(init[i].root.toList == x.root.toList)=false:=by simpa using h
      rw [this,Bool.false_or]
theorem check_ev (l:List Lk) (hz:l.length≤1000):transhumanceref6_Check.f (l.length+2) (outs l)=some (endedE l):=by
  rcases List.eq_nil_or_concat l with rfl|⟨init,x,rfl⟩
  · rfl
  · rw [List.concat_eq_append] at *
    have hlen:(outs (init++[x])).length=init.length+1:=by simp [outs]
    have hlen2:(init++[x]).length=init.length+1:=by simp
    have hw:wrap64 (((init.length+1:Nat):Int) - 1)=(init.length:Int):=by rw [wrap_id (by omega) (by omega)];omega
    have hlt2:init.length<(init++[x]).length:=by omega
    have hg:(init++[x])[init.length]=x:=by simp
    have hl0:=fun a b c d => check_l0 init x a b c d (by omega) init.length 0 (init.length+2) (by omega) (by omega)
    unfold transhumanceref6_Check.f
    rw [hlen,if_neg (by omega),hw,if_pos (by omega),if_pos (by omega),rd_out _ _ hlt2,hg,endedE_snoc,hlen2]
    have j0:∀ b a1 a2 a3 a4,transhumanceref6_Check.j0 (init.length+1+2) (outs (init++[x])) (init.length:Int) b x.root a1 a2 a3 a4=if b=true then some 1 else some (if init.any (fun z => z.root.toList == x.root.toList)=true then 4 else 0):=by
      intro b a1 a2 a3 a4
      rw [transhumanceref6_Check.j0.eq_2]
      have:=hl0 a1 a2 a3 a4
      rw [List.drop_zero] at this
      rw [show init.length+1+1=init.length+2 from rfl,← this]
      rfl
    show (if x.root.toList=[] then transhumanceref6_Check.j0 _ _ _ true x.root x.version x.rev x.within x.source else if x.version.toList=[] then transhumanceref6_Check.j0 _ _ _ (x.rev.toList == []) x.root x.version x.rev x.within x.source else transhumanceref6_Check.j0 _ _ _ false x.root x.version x.rev x.within x.source)=_
    rw [j0,j0,j0]
    have e:∀ m:List UInt8,(m == [])=m.isEmpty:=fun m => by cases m <;> rfl
    by_cases h1:x.root.toList=[]
    · simp [h1]
    · have h1':x.root.toList.isEmpty=false:=by simpa using h1
      rw [if_neg h1,h1']
      by_cases h2:x.version.toList=[]
      · rw [if_pos h2,h2,e]
        cases x.rev.toList.isEmpty <;> simp
        all_goals (split <;> rfl)
      · have h2':x.version.toList.isEmpty=false:=by simpa using h2
        rw [if_neg h2,h2']
        simp
        all_goals (split <;> rfl)
section
variable (w:World) (base:Nat)
theorem check6_calls (lv:Value) (l:List Lk) (hl:Ls w base lv l) (hz:l.length≤1000) :
    Calls Tryz.prog 39 #[lv] w fun e w' => e=.returned (.int .i64 (endedE l))∧Below w.heap.size w w':=by
  obtain ⟨A,c,rfl⟩:=own_slice hl
  obtain ⟨hlen,hcap,hc⟩:=Kd.R_reads' hl.out
  have hcap:(outs l).length≤c:=by simpa [outs] using hcap
  have:=transhumanceref6_Check.calls _ A c (outs l) (endedE l) w hc hcap (check_ev l hz)
  rw [show (outs l).length=l.length from hlen.symm] at this
  exact this
end
end Go.Proofs.YtjdjljgbfpkbdaaGreatDoor.Q
end
