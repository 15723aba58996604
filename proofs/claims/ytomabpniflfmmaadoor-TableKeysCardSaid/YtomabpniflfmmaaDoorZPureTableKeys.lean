/- TableKeys answers true for every input: plain part, over what the program's table.Locks computes. -/
import Derived.Test.YtomabpniflfmmaaDoorZPk
import Derived.Test.YtomabpniflfmmaaDoorZQ15
namespace Go.Proofs.YtomabpniflfmmaaDoor.Pure
open Go.RowKit Go.Proofs.YtomabpniflfmmaaDoor.Q Go.Proofs.YtomabpniflfmmaaDoorW.PrintWords Go.Proofs.YtomabpniflfmmaaDoorW.PrintLast
set_option maxRecDepth 1000000 in
set_option maxHeartbeats 4000000 in
theorem TableKeys : transhumancelaw6_TableKeys.Pure := by
  intro a0 a1 a2 _ _ _
  refine ⟨200, ?_⟩
  unfold transhumancelaw6_TableKeys.f
  simp only [known_true, within_f a0 5 (by decide) (by decide), within_f a1 5 (by decide) (by decide), within_f a2 3 (by decide) (by decide), Option.bind_some]
  obtain ⟨x, hx⟩ := win_fin a0 5 (by decide)
  obtain ⟨y, hy⟩ := win_fin a1 5 (by decide)
  obtain ⟨z, hz⟩ := win_fin a2 3 (by decide)
  have hx' : win a0 5 = (x.val : Int) := hx
  have hy' : win a1 5 = (y.val : Int) := hy
  have hz' : win a2 3 = (z.val : Int) := hz
  rw [hx', hy', hz']
  clear hx hy hz hx' hy' hz'
  revert x y z
  decide +kernel
end Go.Proofs.YtomabpniflfmmaaDoor.Pure
