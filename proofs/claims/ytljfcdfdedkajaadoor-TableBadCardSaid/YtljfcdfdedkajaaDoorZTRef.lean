import Derived.Test.YtljfcdfdedkajaaDoorZTLocksg
import Derived.Test.YtljfcdfdedkajaaDoorZTl6
set_option linter.unusedVariables false
set_option linter.unusedSimpArgs false
namespace Go.Proofs.YtljfcdfdedkajaaDoor.Q
open Go.RowKit Go.Proofs.YtljfcdfdedkajaaDoorW.PrintWords Go.Proofs.YtljfcdfdedkajaaDoorW.PrintLast Go.Proofs.YtljfcdfdedkajaaDoorW.PrintMore
set_option maxHeartbeats 1000000 in
set_option maxRecDepth 100000 in
theorem locks6_long (w : World) (s : ByteArray) (hs : s.size ≤ 140737488351232) (hl : 8000 < s.size) :
  Calls Tryd.prog 14 #[.string s] w (LocksPost w s) := by
 have he : locksR s = ([], 0, 2) := by unfold locksR; rw [if_pos hl]
 have HV : ∀ v, locksV s v = .tuple #[v, .agg #[.int .i64 1, .int .i64 1], .int .i64 2] := fun v => by unfold locksV; rw [he]; rfl
 have HV := Lib.hid HV
 have HE := Lib.hid he
 clear he
 have hk := Blk.new w 35 #[.int .i64 0, .int .i64 0]
 have k0 := hk.cell 0
 have k1 := hk.cell 1
 have f0 := hk.unfrozen 0
 have f1 := hk.unfrozen 1
 have HK := Lib.hid hk
 clear hk
 go_enter Tryd.func14, Tryd.ntmps14
 go_wp2_with (fail)
 (try simp only [Exit.jump])
 refine bodyPost_ret (results_tct rfl _ _ w.heap.size 35 #[.int .i64 1, .int .i64 1] (0, 0) _ rfl (Blk.new w _ _) Tryd.underlying35 rfl (by kernel_rfl)) rfl ?_
 refine ⟨.slice none 0 0, by rw [HV.out]; rfl, by rw [HE.out]; exact own_nil _ _ _ 5, ?_⟩
 exact (Below.refl _ w).alloc (Nat.le_refl _) _
end Go.Proofs.YtljfcdfdedkajaaDoor.Q
