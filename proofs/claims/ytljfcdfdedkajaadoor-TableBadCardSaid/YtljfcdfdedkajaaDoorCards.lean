/-
  DERIVED. GIVEN WITH THE SEED: THE CARDS: each row of YtljfcdfdedkajaaDoorRows.lean that lists a variable, with what it lists TIED to the program's text (the seventh form; the later family's looks); each row that meets fmt, with fmt's text TOLD by the authors' own Lean function (tested against real Go, not proved from fmt's source: count such statements apart). THE CARD IS WHAT COUNTS. Prove the row's statement (the work); the ties are given (YtljfcdfdedkajaaDoorTie.lean); close each card by the builder's one call (the guide's Derived/Test/ToyasCard.lean, 'card_holds'). Laid BY PROGRAM, IN A SANDBOX (cutbox-door.mjs). By AI agents, Wed Nov 11 2026. No macro, syntax, notation, axiom, sorry.
-/
import Derived.Test.YtljfcdfdedkajaaDoorRows
import GoSem.ClaimSeven
namespace Go.Proofs.YtljfcdfdedkajaaDoor
namespace Rows

/-- THE TIED CARD OF 'transhumancelaw6.TableLines'. -/
def tableLinesCard : Claim7 := { stood := { row := tableLinesRow, standIns := [], harness := (true, "f9160d212a33c5a9eeddd3e97768d53c5bd9cba16d8abfd6a504e59cb3b50769"), looks := false }, kinds := [], alts := [], laidByText := true, laidKinds := [.sentinel], laidTests := true, laidLooks := .later }
def TableLinesCardSaid : Prop := Claim7.holds Tryd.pinned (.plain (OpenSpec.ofChange tableLinesSpec)) tableLinesCard

/-- THE TIED CARD OF 'transhumancelaw6.TableBad'. -/
def tableBadCard : Claim7 := { stood := { row := tableBadRow, standIns := [], harness := (true, "f9160d212a33c5a9eeddd3e97768d53c5bd9cba16d8abfd6a504e59cb3b50769"), looks := false }, kinds := [], alts := [], laidByText := true, laidKinds := [.sentinel], laidTests := true, laidLooks := .later }
def TableBadCardSaid : Prop := Claim7.holds Tryd.pinned (.plain (OpenSpec.ofChange tableBadSpec)) tableBadCard

/-- THE TIED CARD OF 'transhumancelaw6.TablePaths'. -/
def tablePathsCard : Claim7 := { stood := { row := tablePathsRow, standIns := [], harness := (true, "f9160d212a33c5a9eeddd3e97768d53c5bd9cba16d8abfd6a504e59cb3b50769"), looks := false }, kinds := [], alts := [], laidByText := true, laidKinds := [.sentinel], laidTests := true, laidLooks := .later }
def TablePathsCardSaid : Prop := Claim7.holds Tryd.pinned (.plain (OpenSpec.ofChange tablePathsSpec)) tablePathsCard

/-- THE SECOND FORM's CARD OF 'transhumancelaw6.TableLines'. -/
def tableLinesUptoCard : Claim7 := { stood := { row := tableLinesUptoRow, standIns := [], harness := (true, "f9160d212a33c5a9eeddd3e97768d53c5bd9cba16d8abfd6a504e59cb3b50769"), looks := false }, kinds := [], alts := [], laidByText := true, laidKinds := [.sentinel], laidTests := true, laidLooks := .later }
def TableLinesUptoCardSaid : Prop := Claim7.holds Tryd.pinned (.plain (OpenSpec.upto tableLinesSpec)) tableLinesUptoCard

/-- THE SECOND FORM's CARD OF 'transhumancelaw6.TableBad'. -/
def tableBadUptoCard : Claim7 := { stood := { row := tableBadUptoRow, standIns := [], harness := (true, "f9160d212a33c5a9eeddd3e97768d53c5bd9cba16d8abfd6a504e59cb3b50769"), looks := false }, kinds := [], alts := [], laidByText := true, laidKinds := [.sentinel], laidTests := true, laidLooks := .later }
def TableBadUptoCardSaid : Prop := Claim7.holds Tryd.pinned (.plain (OpenSpec.upto tableBadSpec)) tableBadUptoCard

/-- THE SECOND FORM's CARD OF 'transhumancelaw6.TablePaths'. -/
def tablePathsUptoCard : Claim7 := { stood := { row := tablePathsUptoRow, standIns := [], harness := (true, "f9160d212a33c5a9eeddd3e97768d53c5bd9cba16d8abfd6a504e59cb3b50769"), looks := false }, kinds := [], alts := [], laidByText := true, laidKinds := [.sentinel], laidTests := true, laidLooks := .later }
def TablePathsUptoCardSaid : Prop := Claim7.holds Tryd.pinned (.plain (OpenSpec.upto tablePathsSpec)) tablePathsUptoCard
end Rows
end Go.Proofs.YtljfcdfdedkajaaDoor
