import Derived.Test.YtjdjljgbfpkbdaaGreatDoorZR1g
import Derived.Test.YtjdjljgbfpkbdaaGreatDoorZW0
set_option linter.unusedVariables false
set_option linter.unusedSimpArgs false
namespace Go.Proofs.YtjdjljgbfpkbdaaGreatDoor.Q
open Go.RowKit Go.Proofs.YtjdjljgbfpkbdaaGreatDoorW.PrintWords Go.Proofs.YtjdjljgbfpkbdaaGreatDoorW.PrintLast Go.Proofs.YtjdjljgbfpkbdaaGreatDoorW.PrintMore
theorem Ev.pos {α:Type} {c:Prop} [Decidable c] {a b:Nat→Option α} {r:α} (h:c) (k:Ev a r):Ev (fun n => if c then a n else b n) r:=by
 simpa only [if_pos h] using k
theorem Ev.neg {α:Type} {c:Prop} [Decidable c] {a b:Nat→Option α} {r:α} (h:¬ c) (k:Ev b r):Ev (fun n => if c then a n else b n) r:=by
 simpa only [if_neg h] using k
theorem Ev.val {α β:Type} {o:Option α} {f:Nat→α→Option β} {a:α} {r:β} (h:o=some a) (k:Ev (fun n => f n a) r):Ev (fun n => o.bind (f n)) r:=by
 subst h
 exact k
theorem Ev.ret {α:Type} {o:Option α} {r:α} (h:o=some r):Ev (fun _ => o) r:=⟨0,fun _ _ => h⟩
theorem wrap_id {x:Int} (h1:-9223372036854775808≤x) (h2:x≤9223372036854775807):wrap64 x=x:=by unfold wrap64;omega
end Go.Proofs.YtjdjljgbfpkbdaaGreatDoor.Q
