import Derived.Test.YtoghoiecnciglaaDoorZLibg
import Derived.WalkLawsBesides
namespace Go.Proofs.YtoghoiecnciglaaDoor.R
open Go.RowKit Go.Proofs.YtoghoiecnciglaaDoorW.PrintWords
def cmpS (a b : ByteArray) : Int := if Op.bytesLess a.toList b.toList = true then -1 else if (a.toList == b.toList) = true then 0 else 1
def cmp_Compare_string.f (a0 : ByteArray) (a1 : ByteArray) : Option (Int) := some (cmpS a0 a1)
theorem nan_calls (a : ByteArray) (w : World) : Calls Tryd.prog 82 #[.string a] w fun e w' => e = .returned (.bool false) ∧ w = w' := by
  go_enter Tryd.func82, Tryd.ntmps82
  go_wp2_with (fail)
  go_ret
  exact ⟨by simp, rfl⟩
theorem cmp_Compare_string.calls (a0 : ByteArray) (a1 : ByteArray) (r : Int) (w : World) (h : cmp_Compare_string.f a0 a1 = some r) :
    Calls Tryd.prog 65 #[.string a0, .string a1] w fun e w' => e = .returned (.int .i64 r) ∧ Drawn0 w w' := by
  obtain rfl := Option.some.inj h
  unfold cmpS
  cases h1 : Op.bytesLess a0.toList a1.toList with
  | true =>
    go_enter Tryd.func65, Tryd.ntmps65
    go_wp2_with (fail)
    refine (nan_calls a0 _).mono ?_
    rintro e w1 ⟨rfl, rfl⟩
    go_wp2_with (fail)
    refine (nan_calls a1 _).mono ?_
    rintro e w1 ⟨rfl, rfl⟩
    go_wp2_with (fail)
    go_ret
    exact ⟨rfl, Drawn0.refl _⟩
  | false =>
    cases h2 : (a0.toList == a1.toList) with
    | true =>
      go_enter Tryd.func65, Tryd.ntmps65
      go_wp2_with (fail)
      refine (nan_calls a0 _).mono ?_
      rintro e w1 ⟨rfl, rfl⟩
      go_wp2_with (fail)
      refine (nan_calls a1 _).mono ?_
      rintro e w1 ⟨rfl, rfl⟩
      go_wp2_with (fail)
      go_ret
      exact ⟨rfl, Drawn0.refl _⟩
    | false =>
      go_enter Tryd.func65, Tryd.ntmps65
      go_wp2_with (fail)
      refine (nan_calls a0 _).mono ?_
      rintro e w1 ⟨rfl, rfl⟩
      go_wp2_with (fail)
      refine (nan_calls a1 _).mono ?_
      rintro e w1 ⟨rfl, rfl⟩
      go_wp2_with (fail)
      go_ret
      exact ⟨rfl, Drawn0.refl _⟩
end Go.Proofs.YtoghoiecnciglaaDoor.R
