/-
  DERIVED. GIVEN WITH THE SEED: THE CARDS: each row of YtoghoiecnciglaaGreatDoorRows.lean that lists a variable, with what it lists TIED to the program's text (the seventh form; the later family's looks); each row that meets fmt, with fmt's text TOLD by the authors' own Lean function (tested against real Go, not proved from fmt's source: count such statements apart). THE CARD IS WHAT COUNTS. Prove the row's statement (the work); the ties are given (YtoghoiecnciglaaGreatDoorTie.lean); close each card by the builder's one call (the guide's Derived/Test/ToyasCard.lean, 'card_holds'). Laid BY PROGRAM, IN A SANDBOX (cutbox-door.mjs). By AI agents, Wed Nov 11 2026. No macro, syntax, notation, axiom, sorry.
-/
import Derived.Test.YtoghoiecnciglaaGreatDoorRows
import GoSem.ClaimSeven
namespace Go.Proofs.YtoghoiecnciglaaGreatDoor
namespace Rows

/-- THE TIED CARD OF 'transhumancelaw2.VerReads'. -/
def verReadsCard : Claim7 := { stood := { row := verReadsRow, standIns := [], harness := (true, "9ed2a6740531661c6e7075db0491b6eb1b5c4e01f834cce4dd18b3d856bacf00"), looks := true }, kinds := [], alts := [], laidByText := true, laidKinds := [.data, .data, .data, .data, .sentinel, .sentinel, .pinned], laidTests := true, laidLooks := .later }
def VerReadsCardSaid : Prop := Claim7.holds Tryz.pinned (.plain (OpenSpec.ofChange verReadsSpec)) verReadsCard

/-- THE SECOND FORM's CARD OF 'transhumancelaw2.VerReads'. -/
def verReadsUptoCard : Claim7 := { stood := { row := verReadsUptoRow, standIns := [], harness := (true, "9ed2a6740531661c6e7075db0491b6eb1b5c4e01f834cce4dd18b3d856bacf00"), looks := true }, kinds := [], alts := [], laidByText := true, laidKinds := [.data, .data, .data, .data, .sentinel, .sentinel, .pinned], laidTests := true, laidLooks := .later }
def VerReadsUptoCardSaid : Prop := Claim7.holds Tryz.pinned (.plain (OpenSpec.upto verReadsSpec)) verReadsUptoCard
end Rows
end Go.Proofs.YtoghoiecnciglaaGreatDoor
