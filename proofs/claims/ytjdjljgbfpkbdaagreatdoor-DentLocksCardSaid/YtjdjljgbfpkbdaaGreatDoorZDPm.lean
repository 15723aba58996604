import Derived.Test.YtjdjljgbfpkbdaaGreatDoorZEv
import Derived.Test.YtjdjljgbfpkbdaaGreatDoorZText
import Derived.Test.YtjdjljgbfpkbdaaGreatDoorZBs
import Derived.Test.YtjdjljgbfpkbdaaGreatDoorZQ3
set_option linter.unusedVariables false
set_option linter.unusedSimpArgs false
namespace Go.Proofs.YtjdjljgbfpkbdaaGreatDoor.Q
open Go.RowKit Go.Proofs.YtjdjljgbfpkbdaaGreatDoorW.PrintWords Go.Proofs.YtjdjljgbfpkbdaaGreatDoorW.PrintLast Go.Proofs.YtjdjljgbfpkbdaaGreatDoorW.PrintMore
theorem data_length (s : ByteArray) : s.data.toList.length = s.size := by simp
theorem bt_get (s : ByteArray) (i : Nat) (h : i < s.size) : bt s (i : Int) = (s[i].toNat : Int) := by
  simp [bt, h]
theorem byte_int {b : UInt8} {n : Nat} (hn : n < 256) : ((b.toNat : Int) = n) ↔ b = UInt8.ofNat n := by
  constructor
  · intro h
    have : b.toNat = n := by omega
    rw [← UInt8.toNat_inj]
    simp
    omega
  · rintro rfl
    simp
    omega
end Go.Proofs.YtjdjljgbfpkbdaaGreatDoor.Q
