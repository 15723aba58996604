import Derived.Test.YtjdjljgbfpkbdaaGreatDoorZQ0
import Derived.Test.YtjdjljgbfpkbdaaGreatDoorZDe
set_option linter.unusedVariables false
set_option linter.unusedSimpArgs false
namespace Go.Proofs.YtjdjljgbfpkbdaaGreatDoor.Q
open Go.RowKit Go.Proofs.YtjdjljgbfpkbdaaGreatDoorW.PrintWords Go.Proofs.YtjdjljgbfpkbdaaGreatDoorW.PrintLast Go.Proofs.YtjdjljgbfpkbdaaGreatDoorW.PrintMore
def Lk.out (x:Lk):S43:=⟨x.root,x.version,x.rev,x.within,x.source⟩
theorem lkCells_take (l:List Lk):∀ (j:Nat) (x:Lk),l[j]?=some x→((lkCells l).drop (j * 5)).take 5=x.cells:=by
 induction l with
 | nil => intro j x h;simp at h
 | cons y l ih =>
  intro j x h
  have e:lkCells (y :: l)=y.cells++lkCells l:=by simp [lkCells]
  have hy:y.cells.length=5:=rfl
  cases j with
  | zero =>
   simp only [List.getElem?_cons_zero,Option.some.injEq] at h
   subst h
   rw [e,Nat.zero_mul,List.drop_zero,List.take_append_of_le_length (by omega),List.take_of_length_le (by omega)]
  | succ j =>
   rw [List.getElem?_cons_succ] at h
   have:=ih j x h
   rw [e,show (j+1) * 5=y.cells.length+j * 5 from by rw [hy];omega,← List.drop_drop,List.drop_left,this]
theorem Ls.out {w:World} {base:Nat} {v:Value} {l:List Lk} (h:Ls w base v l):Kd.R k43 43 w base (fun _ => True) v (l.map Lk.out):=by
 refine ⟨fun _ _ => trivial,lkCells l,by rw [List.length_map];exact h,by rw [lkCells_length,List.length_map];rfl,fun j p hp => ?_⟩
 rw [List.getElem?_map] at hp
 obtain ⟨x,hx,rfl⟩:=Option.map_eq_some_iff.1 hp
 have:=lkCells_take l j x hx
 show Kd.M k43 _ _ _ _ (((lkCells l).drop (j * 5)).take 5)
 rw [this]
 exact k43_mkM _ _ _ _
def dent_Locks.line (s:ByteArray):Nat × Nat:=if (locksD s.data.toList).2.2=0 then (0,0) else place (s.data.toList.take (locksD s.data.toList).2.1)
def dent_Locks.f (a0:ByteArray):Option (List S43 × Int × Int × Int) :=
 if a0.size≤140737488351232 then some ((locksD a0.data.toList).1.map Lk.out,((dent_Locks.line a0).1:Int),((dent_Locks.line a0).2:Int),(locksD a0.data.toList).2.2) else none
theorem dent_Locks.calls (a0:ByteArray) (r1:List (S43)) (r2:Int) (r3:Int) (r4:Int) (w:World) (hG:GL w) (h:dent_Locks.f a0=some (r1,r2,r3,r4)) :
  Calls Tryz.prog 11 #[.string a0] w fun e w' => ∃ v0_:Value,e=.returned (.tuple #[v0_,.agg #[.int .i64 r2,.int .i64 r3],.int .i64 r4])∧Kd.R k43 43 w' w.heap.size (fun _ => True) v0_ r1∧Below w.heap.size w w':=by
 unfold dent_Locks.f at h
 split at h
 ·next hs =>
  simp only [Option.some.injEq,Prod.mk.injEq] at h
  obtain ⟨rfl,rfl,rfl,rfl⟩:=h
  have hc:Calls Tryz.prog 11 #[.string a0] w (LocksPost w a0):=by
   by_cases hl:8000<a0.size
   ·exact locks_long w a0 hs hl
   ·exact locks_short w a0 (by omega) hG
  refine hc.mono ?_
  rintro e w' ⟨v,rfl,hl,hb⟩
  refine ⟨v,?_,hl.out,hb⟩
  unfold locksDV dent_Locks.line
  split
  ·rfl
  ·rfl
 ·cases h
end Go.Proofs.YtjdjljgbfpkbdaaGreatDoor.Q
