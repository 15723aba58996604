import Derived.Test.YtjdjljgbfpkbdaaGreatDoorZCursor
import Derived.Test.YtjdjljgbfpkbdaaGreatDoorZW0
import Derived.Test.YtjdjljgbfpkbdaaGreatDoorZShelf
import Derived.Test.YtjdjljgbfpkbdaaGreatDoorZR1g
import Derived.Test.YtjdjljgbfpkbdaaGreatDoorZR
set_option linter.unusedVariables false
set_option linter.unusedSimpArgs false
section
namespace Go.Proofs.YtjdjljgbfpkbdaaGreatDoor.Q
open Go.RowKit Go.Proofs.YtjdjljgbfpkbdaaGreatDoorW.PrintWords Go.Proofs.YtjdjljgbfpkbdaaGreatDoorW.PrintLast Go.Proofs.YtjdjljgbfpkbdaaGreatDoorW.PrintMore
attribute [local go_sem] max2_int min2_int max_two min_two
def place:List UInt8→Nat × Nat:=fun l => l.foldl (fun p c => if c=10 then (p.1+1,1) else (p.1,p.2+1)) (1,1)
theorem place_snoc (l:List UInt8) (c:UInt8):place (l++[c])=if c=10 then ((place l).1+1,1) else ((place l).1,(place l).2+1):=by
  simp [place,List.foldl_append]
theorem place_upto (s:ByteArray):∀ k:Nat,k≤s.size →
    ((place (s.data.toList.take k)).1:Int)=1+(Lib.countByte (s.data.toList.take k) 10:Nat)∧((place (s.data.toList.take k)).2:Int)=k - Lib.lastIdx s 10 k
  | 0,_ => by simp [place,Lib.countByte,Lib.lastIdx]
  | k+1,h => by
    obtain ⟨h1,h2⟩:=place_upto s k (by omega)
    have hg:s.data.toList[k]?=some s[k]:=by rw [List.getElem?_eq_getElem (by simpa using (show k<s.size by omega))];rfl
    have ht:s.data.toList.take (k+1)=s.data.toList.take k++[s[k]]:=by
      rw [List.take_add_one,hg];rfl
    have hb:s.data[k]! = s[k]:=by
      rw [getElem!_pos s.data k (show k<s.data.size from (by omega:k<s.size))];rfl
    rw [ht,place_snoc]
    unfold Lib.countByte at h1 ⊢
    rw [List.count_append]
    by_cases hc:s[k]=10
    · rw [if_pos hc,Lib.lastIdx_hit s 10 k (by rw [hb,hc];rfl),hc]
      simp only [List.count_singleton_self]
      constructor
      · push_cast;omega
      · push_cast;omega
    · rw [if_neg hc,Lib.lastIdx_miss s 10 k (by rw [hb];intro he;exact hc (by apply UInt8.toNat.inj;have h10:(10:UInt8).toNat=10:=rfl;omega)),List.count_singleton]
      rw [if_neg (by simpa using hc)]
      constructor
      · push_cast;omega
      · push_cast;omega
theorem place_str (s:ByteArray):((place s.data.toList).1:Int)=1+(Lib.countByte s.data.toList 10:Nat)∧((place s.data.toList).2:Int)=s.size - Lib.lastIndexByte s 10:=by
  have h:=place_upto s s.size (Nat.le_refl _)
  rw [List.take_of_length_le (by simp)] at h
  exact h
theorem count_le (l:List UInt8) (c:UInt8):Lib.countByte l c≤l.length:=List.count_le_length
theorem last_bd (s:ByteArray) (c:Int):-1≤Lib.lastIndexByte s c∧Lib.lastIndexByte s c<s.size:=by
  rcases Lib.lastIndexByte_spec s c with ⟨h,_⟩|⟨i,hi,h,_⟩
  · omega
  · omega
set_option maxHeartbeats 800000 in
theorem place_calls (w:World) (s:ByteArray) (k:Nat) (hk:k≤s.size) (hs:s.size≤140737488351232) :
    Calls Tryz.prog 24 #[.string s,.int .i64 k] w fun e w' => e=.returned (.agg #[.int .i64 (place (s.data.toList.take k)).1,.int .i64 (place (s.data.toList.take k)).2])∧Below w.heap.size w w':=by
  have HX:∀ x:ByteArray,x.size=k→x.data.toList=s.data.toList.take k→∃ (c:Nat) (l:Int),c≤k∧-1≤l∧l<k ∧
      Hid (((place (s.data.toList.take k)).1:Int)=1+c∧((place (s.data.toList.take k)).2:Int)=k - l) ∧
      (∀ w,Hid (Calls Tryz.prog 48 #[.string x,.string ⟨#[10]⟩] w fun e w' => e=.returned (.int .i64 c)∧w=w')) ∧
      (∀ w,Hid (Calls Tryz.prog 49 #[.string x,.int .u8 10] w fun e w' => e=.returned (.int .i64 l)∧w=w')):=by
    intro x hs hx
    have h:=place_str x
    have hb:=last_bd x 10
    have hc:=count_le x.data.toList 10
    have hz:x.data.toList.length=x.size:=by simp
    rw [hx] at h
    refine ⟨Lib.countByte x.data.toList 10,Lib.lastIndexByte x 10,by omega,by omega,by omega,⟨by rw [hx];exact h.1,by have h2:=h.2;omega⟩,fun w => (Tryz.strings_Count_one x 10 w).mono fun _ _ h => ⟨h.1,h.2.symm⟩,fun w => (Tryz.strings_LastIndexByte x 10 (by omega) w).mono fun _ _ h => ⟨h.1,h.2.symm⟩⟩
  by_cases h0:0<k
  · obtain ⟨c,l,hc,hl1,hl2,HP,HC,HL⟩:=HX (s.extract 0 k) (by rw [ByteArray.size_extract];omega) (by simp [ByteArray.data_extract])
    have hz:(s.extract 0 k).size=k:=by rw [ByteArray.size_extract];omega
    have HZ:=Lib.hid hz
    clear HX hz
    go_enter Tryz.func24,Tryz.ntmps24
    go_wp2_with (first|(go_at_call 48;refine (HC _).out.mono ?_;rintro e w1 ⟨rfl,rfl⟩)|(go_at_call 49;refine (HL _).out.mono ?_;rintro e w1 ⟨rfl,rfl⟩))
    rw [HP.out.1,HP.out.2]
    exact bodyPost_ret (results_cell_row rfl _ _ w.heap.size 29 #[.int .i64 (1+(c:Int)),.int .i64 ((k:Int) - l)] (0,0) _ rfl (heap_alloc_new _ _) Tryz.underlying29 rfl (by kernel_rfl)) rfl ⟨rfl,(Below.refl _ _).alloc (Nat.le_refl _) _⟩
  · obtain rfl:k=0:=by omega
    obtain ⟨c,l,hc,hl1,hl2,HP,HC,HL⟩:=HX ByteArray.empty rfl rfl
    clear HX
    go_enter Tryz.func24,Tryz.ntmps24
    go_wp2_with (first|(go_at_call 48;refine (HC _).out.mono ?_;rintro e w1 ⟨rfl,rfl⟩)|(go_at_call 49;refine (HL _).out.mono ?_;rintro e w1 ⟨rfl,rfl⟩))
    rw [HP.out.1,show ((place (s.data.toList.take 0)).2:Int)=-l from by have:=HP.out.2;omega]
    exact bodyPost_ret (results_cell_row rfl _ _ w.heap.size 29 #[.int .i64 (1+(c:Int)),.int .i64 (-l)] (0,0) _ rfl (heap_alloc_new _ _) Tryz.underlying29 rfl (by kernel_rfl)) rfl ⟨rfl,(Below.refl _ _).alloc (Nat.le_refl _) _⟩
end Go.Proofs.YtjdjljgbfpkbdaaGreatDoor.Q
end
section
namespace Go.Proofs.YtjdjljgbfpkbdaaGreatDoor.Q
open Go.RowKit Go.Proofs.YtjdjljgbfpkbdaaGreatDoorW.PrintWords
def bs (l:List UInt8):ByteArray:=⟨l.toArray⟩
theorem bs_data (s:ByteArray):bs s.data.toList=s:=by simp [bs]
theorem data_bs (l:List UInt8):(bs l).data.toList=l:=by simp [bs]
theorem size_bs (l:List UInt8):(bs l).size=l.length:=by simp [bs,ByteArray.size]
theorem toList_bs (l:List UInt8):(bs l).toList=l:=by simp [bs]
theorem ext_bs {s t:ByteArray} (h:s.data.toList=t.data.toList):s=t:=by rw [← bs_data s,← bs_data t,h]
theorem extract_bs (l:List UInt8) (i j:Nat):(bs l).extract i j=bs ((l.take j).drop i):=ext_bs (by simp [bs,ByteArray.data_extract,List.extract_eq_take_drop,List.drop_take])
theorem idx_span (l:List UInt8) (c:UInt8):Lib.indexByte l c=if l.contains c then ((l.takeWhile (· != c)).length:Int) else -1:=by
  induction l with
  | nil => simp [Lib.indexByte]
  | cons x r ih =>
    unfold Lib.indexByte
    by_cases h:x=c
    · subst h
      simp
    · have hb:(x != c)=true:=by simpa using h
      have hc:(c == x)=false:=by simpa using fun e => h e.symm
      simp only [List.contains_cons,hc,Bool.false_or,List.takeWhile_cons,hb]
      rw [ih]
      simp [h]
      split <;> simp_all
      all_goals omega
def cutL (l:List UInt8) (c:UInt8):List UInt8:=l.takeWhile (· != c)
def cutR (l:List UInt8) (c:UInt8):List UInt8:=(l.dropWhile (· != c)).tail
theorem cut_length (l:List UInt8) (c:UInt8) (h:l.contains c=true):(cutL l c).length<l.length∧cutL l c=l.take (cutL l c).length∧cutR l c=l.drop ((cutL l c).length+1):=by
  induction l with
  | nil => simp at h
  | cons x r ih =>
    by_cases hx:x=c
    · subst hx
      simp [cutL,cutR]
    · have hb:(x != c)=true:=by simpa using hx
      have hr:r.contains c=true:=by
        have hc:(c == x)=false:=by simpa using fun e => hx e.symm
        rw [List.contains_cons,hc,Bool.false_or] at h
        exact h
      obtain ⟨h1,h2,h3⟩:=ih hr
      unfold cutL cutR at *
      simp only [List.takeWhile_cons,List.dropWhile_cons,hb,if_true,List.length_cons,List.take_succ_cons,List.drop_succ_cons]
      exact ⟨by omega,by rw [← h2],h3⟩
theorem cut_none (l:List UInt8) (c:UInt8) (h:l.contains c=false):cutL l c=l∧cutR l c=[]:=by
  have hp:∀ x ∈ l,(x != c)=true:=by
    intro x hx
    simp at h
    simp
    rintro rfl
    exact h hx
  unfold cutL cutR
  clear h
  induction l with
  | nil => exact ⟨rfl,rfl⟩
  | cons x r ih =>
    obtain ⟨h1,h2⟩:=ih (fun y hy => hp y (List.mem_cons_of_mem _ hy))
    have hx:=hp x List.mem_cons_self
    simp only [List.takeWhile_cons,List.dropWhile_cons,hx,if_true]
    exact ⟨by rw [h1],h2⟩
def parts (c:UInt8):List UInt8→List (List UInt8)
  | [] => [[]]
  | x :: r => if x=c then [] :: parts c r else match parts c r with|[] => [[x]]|w :: ws => (x :: w) :: ws
theorem parts_ne (c:UInt8) (l:List UInt8):parts c l≠[]:=by
  cases l with
  | nil => simp [parts]
  | cons x r =>
    unfold parts
    split
    · simp
    · split <;> simp
theorem parts_cons (c x:UInt8) (r:List UInt8):parts c (x :: r)=if x=c then [] :: parts c r else match parts c r with|[] => [[x]]|w :: ws => (x :: w) :: ws:=rfl
theorem parts_cut (c:UInt8) (l:List UInt8):parts c l=cutL l c :: (if l.contains c=true then parts c (cutR l c) else []):=by
  induction l with
  | nil => simp [parts,cutL]
  | cons x r ih =>
    rw [parts_cons]
    by_cases hx:x=c
    · subst hx
      rw [if_pos rfl,if_pos (by simp)]
      simp [cutL,cutR]
    · rw [if_neg hx,ih]
      have hb:(x != c)=true:=by simpa using hx
      have hc:(c == x)=false:=by simpa using fun e => hx e.symm
      have e1:cutL (x :: r) c=x :: cutL r c:=by simp only [cutL,List.takeWhile_cons,hb,if_true]
      have e2:cutR (x :: r) c=cutR r c:=by simp only [cutR,List.dropWhile_cons,hb,if_true]
      rw [e1,e2,List.contains_cons,hc,Bool.false_or]
end Go.Proofs.YtjdjljgbfpkbdaaGreatDoor.Q
end
section
namespace Go.Proofs.YtjdjljgbfpkbdaaGreatDoor.Q
open Go.RowKit Go.Proofs.YtjdjljgbfpkbdaaGreatDoorW.PrintWords
set_option maxHeartbeats 800000 in
theorem slcut_calls (l:List UInt8) (c:UInt8) (b:Bool) (hb:l.contains c=b) (w:World) (hl:l.length≤140737488351232) :
    Calls Tryz.prog 105 #[.string (bs l),.string ⟨#[c]⟩] w fun e w' => e=.returned (.tuple #[.string (bs (cutL l c)),.string (bs (cutR l c)),.bool b])∧Drawn0 w w':=by
  have hi:∀ w,Calls Tryz.prog 99 #[.string (bs l),.string ⟨#[c]⟩] w fun e w' => e=.returned (.int .i64 (if l.contains c then ((cutL l c).length:Int) else -1))∧w=w':=by
    intro w
    have h:=Tryz.stringslite_Index_one (bs l) c w
    rw [data_bs,idx_span] at h
    exact h.mono fun _ _ h => ⟨h.1,h.2.symm⟩
  by_cases hc:l.contains c=true
  · obtain ⟨h1,h2,h3⟩:=cut_length l c hc
    obtain rfl:b=true:=hb.symm.trans hc
    clear hb
    have HI:∀ w,Hid (Calls Tryz.prog 99 #[.string (bs l),.string ⟨#[c]⟩] w fun e w' => e=.returned (.int .i64 ((cutL l c).length:Int))∧w=w'):=by
      intro w
      have:=hi w
      rw [if_pos hc] at this
      exact this
    have e1:ByteArray.extract (bs l) 0 (cutL l c).length=bs (cutL l c):=by rw [extract_bs,List.drop_zero,← h2]
    have e2:ByteArray.extract (bs l) ((cutL l c).length+1) (bs l).size=bs (cutR l c):=by rw [extract_bs,h3,List.take_of_length_le (by rw [size_bs];exact Nat.le_refl _)]
    have E1:=Lib.hid e1
    have E2:=Lib.hid e2
    have hz:(cutL l c).length<(bs l).size:=by rw [size_bs];exact h1
    have hz2:(bs l).size≤140737488351232:=by rw [size_bs];exact hl
    generalize (cutL l c).length=n at *
    clear hi hc h2 h3 e1 e2
    go_enter Tryz.func105,Tryz.ntmps105
    go_wp2_with (go_at_call 99;refine (HI _).out.mono ?_;rintro e w1 ⟨rfl,rfl⟩)
    go_quiet (fail)
    go_wp2
    go_ret3
    rw [E1.out,E2.out]
    exact ⟨rfl,⟨_,rfl⟩⟩
  · have hc':l.contains c=false:=by simpa using hc
    obtain ⟨h1,h2⟩:=cut_none l c hc'
    obtain rfl:b=false:=hb.symm.trans hc'
    clear hb
    rw [h1,h2]
    have HI:∀ w,Hid (Calls Tryz.prog 99 #[.string (bs l),.string ⟨#[c]⟩] w fun e w' => e=.returned (.int .i64 (-1))∧w=w'):=by
      intro w
      have:=hi w
      rw [if_neg hc] at this
      exact this
    clear hi hc hc' h1 h2
    go_enter Tryz.func105,Tryz.ntmps105
    go_wp2_with (go_at_call 99;refine (HI _).out.mono ?_;rintro e w1 ⟨rfl,rfl⟩)
    go_ret3
    exact ⟨rfl,Drawn0.refl _⟩
set_option maxHeartbeats 400000 in
theorem cut_calls (l:List UInt8) (c:UInt8) (b:Bool) (hb:l.contains c=b) (w:World) (hl:l.length≤140737488351232) :
    Calls Tryz.prog 90 #[.string (bs l),.string ⟨#[c]⟩] w fun e w' => e=.returned (.tuple #[.string (bs (cutL l c)),.string (bs (cutR l c)),.bool b])∧Drawn0 w w':=by
  have HB:=Lib.hid hb
  clear hb
  go_enter Tryz.func90,Tryz.ntmps90
  go_wp2_with (go_at_call 105;refine (slcut_calls l c b HB.out _ hl).mono ?_;rintro e w1 ⟨rfl,hd⟩)
  go_ret3
  exact ⟨rfl,hd⟩
end Go.Proofs.YtjdjljgbfpkbdaaGreatDoor.Q
end
section
namespace Go.Proofs.YtjdjljgbfpkbdaaGreatDoor.R
open Go.RowKit Go.Proofs.YtjdjljgbfpkbdaaGreatDoorW.PrintWords
def quoteB (b:UInt8):List UInt8:=if b=34 then [92,34] else if b=92 then [92,92] else if b=10 then [92,110] else if b=9 then [92,116] else [b]
def quoteL (l:List UInt8):List UInt8:=34 :: (l.flatMap quoteB++[34])
def nats (l:List UInt8):List Int:=l.map fun x => (x.toNat:Int)
theorem nats_append (l m:List UInt8):nats (l++m)=nats l++nats m:=by simp [nats]
theorem nats_length (l:List UInt8):(nats l).length=l.length:=by simp [nats]
theorem strOf_nats (l:List UInt8):strOfNums (nats l)=⟨l.toArray⟩:=by
  unfold strOfNums nats
  rw [List.map_map]
  exact congrArg (fun l:List UInt8 => (⟨l.toArray⟩:ByteArray)) ((List.map_congr_left fun x _ => by simp).trans (List.map_id l))
theorem quoteB_length (b:UInt8):(quoteB b).length≤2:=by
  unfold quoteB
  split
  · decide
  · split
    · decide
    · split
      · decide
      · split <;> simp
theorem quoteL_length (l:List UInt8):(quoteL l).length≤2 * l.length+2:=by
  have:(l.flatMap quoteB).length≤2 * l.length:=by
    induction l with
    | nil => simp
    | cons b l ih =>
      rw [List.flatMap_cons,List.length_append,List.length_cons]
      have:=quoteB_length b
      omega
  simp only [quoteL,List.length_cons,List.length_append,List.length_nil]
  omega
end Go.Proofs.YtjdjljgbfpkbdaaGreatDoor.R
end
