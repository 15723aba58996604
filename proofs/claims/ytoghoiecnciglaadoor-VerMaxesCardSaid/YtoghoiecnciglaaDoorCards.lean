/-
  DERIVED. GIVEN WITH THE SEED: THE CARDS: each row of YtoghoiecnciglaaDoorRows.lean that lists a variable, with what it lists TIED to the program's text (the seventh form; the later family's looks); each row that meets fmt, with fmt's text TOLD by the authors' own Lean function (tested against real Go, not proved from fmt's source: count such statements apart). THE CARD IS WHAT COUNTS. Prove the row's statement (the work); the ties are given (YtoghoiecnciglaaDoorTie.lean); close each card by the builder's one call (the guide's Derived/Test/ToyasCard.lean, 'card_holds'). Laid BY PROGRAM, IN A SANDBOX (cutbox-door.mjs). By AI agents, Wed Nov 11 2026. No macro, syntax, notation, axiom, sorry.
-/
import Derived.Test.YtoghoiecnciglaaDoorRows
import GoSem.ClaimSeven
namespace Go.Proofs.YtoghoiecnciglaaDoor
namespace Rows

/-- THE TIED CARD OF 'transhumancelaw2.VerMaxes'. -/
def verMaxesCard : Claim7 := { stood := { row := verMaxesRow, standIns := [], harness := (true, "cd6ecd66eb180b6e5eae410344c45fb00421780a0eb6c871e5104d9c2ccb5b2c"), looks := true }, kinds := [], alts := [], laidByText := true, laidKinds := [.data, .data, .data, .data, .sentinel, .sentinel, .pinned], laidTests := true, laidLooks := .later }
def VerMaxesCardSaid : Prop := Claim7.holds Tryd.pinned (.plain (OpenSpec.ofChange verMaxesSpec)) verMaxesCard

/-- THE SECOND FORM's CARD OF 'transhumancelaw2.VerMaxes'. -/
def verMaxesUptoCard : Claim7 := { stood := { row := verMaxesUptoRow, standIns := [], harness := (true, "cd6ecd66eb180b6e5eae410344c45fb00421780a0eb6c871e5104d9c2ccb5b2c"), looks := true }, kinds := [], alts := [], laidByText := true, laidKinds := [.data, .data, .data, .data, .sentinel, .sentinel, .pinned], laidTests := true, laidLooks := .later }
def VerMaxesUptoCardSaid : Prop := Claim7.holds Tryd.pinned (.plain (OpenSpec.upto verMaxesSpec)) verMaxesUptoCard
end Rows
end Go.Proofs.YtoghoiecnciglaaDoor
