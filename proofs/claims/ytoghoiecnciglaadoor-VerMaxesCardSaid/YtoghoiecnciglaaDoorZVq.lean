import Derived.Test.YtoghoiecnciglaaDoorZVp
namespace Go.Proofs.YtoghoiecnciglaaDoor.Q
open Go.RowKit Go.Proofs.YtoghoiecnciglaaDoorW.PrintWords
def verOut (o : Option Vr) : Int × Int × Int × ByteArray × Bool := match o with | some v => (v.a, v.b, v.c, bs v.p, true) | none => (0, 0, 0, ⟨#[]⟩, false)
def ver_Parse.f (a0 : ByteArray) : Option (Int × Int × Int × ByteArray × Bool) := if a0.size ≤ 900000 then some (verOut (parseV a0.data.toList)) else none
theorem ver_Parse.calls (a0 : ByteArray) (r1 : Int) (r2 : Int) (r3 : Int) (r4 : ByteArray) (r5 : Bool) (w : World) (hG : GL w) (h : ver_Parse.f a0 = some (r1, r2, r3, r4, r5)) :
    Calls Tryd.prog 8 #[.string a0] w fun e w' => e = .returned (.tuple #[.agg #[.int .i64 r1, .int .i64 r2, .int .i64 r3, .string r4], .bool r5]) ∧ Below w.heap.size w w' := by
  unfold ver_Parse.f at h
  split at h
  · next hs =>
    have he := Option.some.inj h
    refine (parse_calls w a0 hs hG).mono ?_
    rintro e w' ⟨rfl, hb⟩
    refine ⟨?_, hb⟩
    cases hp : parseV a0.data.toList with
    | none =>
      rw [hp] at he
      simp only [verOut, Prod.mk.injEq] at he
      obtain ⟨rfl, rfl, rfl, rfl, rfl⟩ := he
      rfl
    | some v =>
      rw [hp] at he
      simp only [verOut, Prod.mk.injEq] at he
      obtain ⟨rfl, rfl, rfl, rfl, rfl⟩ := he
      rfl
  · cases h
end Go.Proofs.YtoghoiecnciglaaDoor.Q
