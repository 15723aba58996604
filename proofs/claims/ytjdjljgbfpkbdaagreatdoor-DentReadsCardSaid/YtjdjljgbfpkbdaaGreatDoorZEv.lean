import Derived.Test.YtjdjljgbfpkbdaaGreatDoorZR1g
import Derived.Test.YtjdjljgbfpkbdaaGreatDoorZW0
set_option linter.unusedVariables false
set_option linter.unusedSimpArgs false
namespace Go.Proofs.YtjdjljgbfpkbdaaGreatDoor.Q
open Go.RowKit Go.Proofs.YtjdjljgbfpkbdaaGreatDoorW.PrintWords Go.Proofs.YtjdjljgbfpkbdaaGreatDoorW.PrintLast Go.Proofs.YtjdjljgbfpkbdaaGreatDoorW.PrintMore
theorem Ev.pos {α:Type} {c:Prop} [Decidable c] {a b:Nat→Option α} {r:α} (h:c) (k:Ev a r):Ev (fun n => if c then a n else b n) r:=by
 simpa only [if_pos h] using k
theorem Ev.neg {α:Type} {c:Prop} [Decidable c] {a b:Nat→Option α} {r:α} (h:¬ c) (k:Ev b r):Ev (fun n => if c then a n else b n) r:=by
 simpa only [if_neg h] using k
theorem Ev.val {α β:Type} {o:Option α} {f:Nat→α→Option β} {a:α} {r:β} (h:o=some a) (k:Ev (fun n => f n a) r):Ev (fun n => o.bind (f n)) r:=by
 subst h
 exact k
theorem Ev.ret {α:Type} {o:Option α} {r:α} (h:o=some r):Ev (fun _ => o) r:=⟨0,fun _ _ => h⟩
theorem wrap_id {x:Int} (h1:-9223372036854775808≤x) (h2:x≤9223372036854775807):wrap64 x=x:=by unfold wrap64;omega
theorem tdiv_bd {x:Int} (n:Int) (h0:0≤x) (hn:0<n):0≤Int.tdiv x n∧Int.tdiv x n≤x:=by
 rw [Int.tdiv_eq_ediv_of_nonneg h0]
 exact ⟨Int.ediv_nonneg h0 (by omega),Int.ediv_le_self n h0⟩
theorem tmod_bd {x:Int} (n:Int) (h0:0≤x) (hn:0<n):0≤Int.tmod x n∧Int.tmod x n<n :=
 ⟨Int.tmod_nonneg n h0,Int.tmod_lt_of_pos x hn⟩
def win (a n:Int):Int:=if Int.tmod a n<0 then Int.tmod a n+n else Int.tmod a n
theorem win_bd (a n:Int) (hn:0<n):0≤win a n∧win a n<n:=by
 unfold win
 have h1:=Int.tmod_lt_of_pos a hn
 have h2:-n<Int.tmod a n:=by
  have:=Int.tmod_lt_of_pos (-a) hn
  rw [Int.neg_tmod] at this
  omega
 split <;> omega
theorem win_fin (a:Int) (n:Nat) (hn:0<n):∃ j:Fin n,win a n=(j.val:Int):=by
 obtain ⟨h1,h2⟩:=win_bd a n (by omega)
 exact ⟨⟨(win a n).toNat,by omega⟩,by simp only;omega⟩
end Go.Proofs.YtjdjljgbfpkbdaaGreatDoor.Q
