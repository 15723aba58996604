import Derived.Test.YtghencpiejbecaaGreatDoorZDPl
import Derived.Test.YtghencpiejbecaaGreatDoorZQ15
set_option linter.unusedVariables false
set_option linter.unusedSimpArgs false
namespace Go.Proofs.YtghencpiejbecaaGreatDoor.Q
open Go.RowKit Go.Proofs.YtghencpiejbecaaGreatDoorW.PrintWords Go.Proofs.YtghencpiejbecaaGreatDoorW.PrintLast Go.Proofs.YtghencpiejbecaaGreatDoorW.PrintMore
theorem quote_plain {l : List UInt8} (h : l.all plainB = true) : (R.quoteL l).all plainB = true := by
  have one : ∀ b : UInt8, plainB b = true → (R.quoteB b).all plainB = true := by
    intro b hb
    have : ∀ n : Nat, n < 256 → plainB (UInt8.ofNat n) = true → (R.quoteB (UInt8.ofNat n)).all plainB = true := by decide +kernel
    have h2 := this b.toNat b.toNat_lt
    simp only [UInt8.ofNat_toNat] at h2
    exact h2 hb
  unfold R.quoteL
  rw [List.all_cons, List.all_append]
  have : (l.flatMap R.quoteB).all plainB = true := by
    rw [List.all_flatMap]
    exact List.all_eq_true.2 fun b hb => one b (List.all_eq_true.1 h b hb)
  rw [this]
  rfl
end Go.Proofs.YtghencpiejbecaaGreatDoor.Q
