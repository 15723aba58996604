import Derived.Test.YtoghoiecnciglaaGreatDoorZQ0
import Derived.Test.YtoghoiecnciglaaGreatDoorZVrd
namespace Go.Proofs.YtoghoiecnciglaaGreatDoor.Q
open Go.RowKit Go.Proofs.YtoghoiecnciglaaGreatDoorW.PrintWords Go.Proofs.YtoghoiecnciglaaGreatDoorW.PrintLast Go.Proofs.YtoghoiecnciglaaGreatDoorW.PrintMore
attribute [local go_sem] max2_int min2_int max_two min_two max_three min_three max_four min_four
set_option linter.unusedVariables false
set_option linter.unusedSimpArgs false
def transhumancelaw2_VerReads.Pure : Prop := True
theorem transhumancelaw2_VerReads.walk (P : transhumancelaw2_VerReads.Pure) (a0 : Int) (a1 : Int) (a2 : Int) (a3 : Int) (a4 : Int) (a5 : ByteArray) (a6 : ByteArray) (w : World) (w0 : (Lit.int .i64 a0).wf = true) (w1 : (Lit.int .i64 a1).wf = true) (w2 : (Lit.int .i64 a2).wf = true) (w3 : (Lit.int .u8 a3).wf = true) (w4 : (Lit.int .i64 a4).wf = true) (w5 : a5.size ≤ 140737488351232) (w6 : a6.size ≤ 140737488351232) (hG : GL w) :
    Calls Tryz.prog 3 #[.int .i64 a0, .int .i64 a1, .int .i64 a2, .int .u8 a3, .int .i64 a4, .string a5, .string a6] w fun e w' => e = .returned (.bool true) ∧ Below w.heap.size w w' := by
  exact transhumancelaw2_VerReads.walked a0 a1 a2 a3 a4 a5 a6 w w0 w1 w2 w3 w4 w5 w6 hG
end Go.Proofs.YtoghoiecnciglaaGreatDoor.Q
