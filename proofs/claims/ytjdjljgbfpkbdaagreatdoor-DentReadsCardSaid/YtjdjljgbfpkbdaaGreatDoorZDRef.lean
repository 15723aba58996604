import Derived.Test.YtjdjljgbfpkbdaaGreatDoorZDLocks
import Derived.Test.YtjdjljgbfpkbdaaGreatDoorZDl7g
set_option linter.unusedVariables false
set_option linter.unusedSimpArgs false
namespace Go.Proofs.YtjdjljgbfpkbdaaGreatDoor.Q
open Go.RowKit Go.Proofs.YtjdjljgbfpkbdaaGreatDoorW.PrintWords Go.Proofs.YtjdjljgbfpkbdaaGreatDoorW.PrintLast Go.Proofs.YtjdjljgbfpkbdaaGreatDoorW.PrintMore
def transhumanceref7_Locks.f (a0:ByteArray):Option (List S43 × Int × Int × Int):=dent_Locks.f a0
theorem transhumanceref7_Locks.calls (a0:ByteArray) (r1:List (S43)) (r2:Int) (r3:Int) (r4:Int) (w:World) (h:transhumanceref7_Locks.f a0=some (r1,r2,r3,r4)) :
  Calls Tryz.prog 16 #[.string a0] w fun e w' => ∃ v0_:Value,e=.returned (.tuple #[v0_,.agg #[.int .i64 r2,.int .i64 r3],.int .i64 r4])∧Kd.R k43 43 w' w.heap.size (fun _ => True) v0_ r1∧Below w.heap.size w w':=by
 unfold transhumanceref7_Locks.f dent_Locks.f at h
 split at h
 ·next hs =>
  simp only [Option.some.injEq,Prod.mk.injEq] at h
  obtain ⟨rfl,rfl,rfl,rfl⟩:=h
  have hc:Calls Tryz.prog 16 #[.string a0] w (LocksPost w a0):=by
   by_cases hl:8000<a0.size
   ·exact locks7_long w a0 hs hl
   ·exact locks7_short w a0 (by omega)
  refine hc.mono ?_
  rintro e w' ⟨v,rfl,hl,hb⟩
  refine ⟨v,?_,hl.out,hb⟩
  unfold locksDV dent_Locks.line
  split
  ·rfl
  ·rfl
 ·cases h
end Go.Proofs.YtjdjljgbfpkbdaaGreatDoor.Q
