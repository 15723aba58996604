/-
  DERIVED. GIVEN WITH THE SEED: THE CARDS: each row of YtbdojilhmgfdcaaDoorRows.lean that lists a variable, with what it lists TIED to the program's text (the seventh form; the later family's looks); each row that meets fmt, with fmt's text TOLD by the authors' own Lean function (tested against real Go, not proved from fmt's source: count such statements apart). THE CARD IS WHAT COUNTS. Prove the row's statement (the work); the ties are given (YtbdojilhmgfdcaaDoorTie.lean); close each card by the builder's one call (the guide's Derived/Test/ToyasCard.lean, 'card_holds'). Laid BY PROGRAM, IN A SANDBOX (cutbox-door.mjs). By AI agents, Wed Nov 11 2026. No macro, syntax, notation, axiom, sorry.
-/
import Derived.Test.YtbdojilhmgfdcaaDoorRows
import GoSem.ClaimSeven
namespace Go.Proofs.YtbdojilhmgfdcaaDoor
namespace Rows

/-- THE TIED CARD OF 'transhumancelaw2.VerBack'. -/
def verBackCard : Claim7 := { stood := { row := verBackRow, standIns := [], harness := (true, "cc82447971434cb8df461559f06d4828aaa0165c7e14a4baec6c16621e4d4bdf"), looks := true }, kinds := [], alts := [], laidByText := true, laidKinds := [.data, .data, .data, .data, .sentinel, .sentinel, .pinned], laidTests := true, laidLooks := .later }
def VerBackCardSaid : Prop := Claim7.holds Tryd.pinned (.plain (OpenSpec.ofChange verBackSpec)) verBackCard

/-- THE TIED CARD OF 'transhumancelaw2.VerKnown'. -/
def verKnownCard : Claim7 := { stood := { row := verKnownRow, standIns := [], harness := (true, "cc82447971434cb8df461559f06d4828aaa0165c7e14a4baec6c16621e4d4bdf"), looks := true }, kinds := [], alts := [], laidByText := true, laidKinds := [.data, .data, .data, .data, .sentinel, .sentinel, .pinned], laidTests := true, laidLooks := .later }
def VerKnownCardSaid : Prop := Claim7.holds Tryd.pinned (.plain (OpenSpec.ofChange verKnownSpec)) verKnownCard

/-- THE TIED CARD OF 'transhumancelaw2.VerNumbers'. -/
def verNumbersCard : Claim7 := { stood := { row := verNumbersRow, standIns := [], harness := (true, "cc82447971434cb8df461559f06d4828aaa0165c7e14a4baec6c16621e4d4bdf"), looks := true }, kinds := [], alts := [], laidByText := true, laidKinds := [.data, .data, .data, .data, .sentinel, .sentinel, .pinned], laidTests := true, laidLooks := .later }
def VerNumbersCardSaid : Prop := Claim7.holds Tryd.pinned (.plain (OpenSpec.ofChange verNumbersSpec)) verNumbersCard

/-- THE TIED CARD OF 'transhumancelaw2.VerParts'. -/
def verPartsCard : Claim7 := { stood := { row := verPartsRow, standIns := [], harness := (true, "cc82447971434cb8df461559f06d4828aaa0165c7e14a4baec6c16621e4d4bdf"), looks := true }, kinds := [], alts := [], laidByText := true, laidKinds := [.data, .data, .data, .data, .sentinel, .sentinel, .pinned], laidTests := true, laidLooks := .later }
def VerPartsCardSaid : Prop := Claim7.holds Tryd.pinned (.plain (OpenSpec.ofChange verPartsSpec)) verPartsCard

/-- THE TIED CARD OF 'transhumancelaw2.VerMaxes'. -/
def verMaxesCard : Claim7 := { stood := { row := verMaxesRow, standIns := [], harness := (true, "cc82447971434cb8df461559f06d4828aaa0165c7e14a4baec6c16621e4d4bdf"), looks := true }, kinds := [], alts := [], laidByText := true, laidKinds := [.data, .data, .data, .data, .sentinel, .sentinel, .pinned], laidTests := true, laidLooks := .later }
def VerMaxesCardSaid : Prop := Claim7.holds Tryd.pinned (.plain (OpenSpec.ofChange verMaxesSpec)) verMaxesCard

/-- THE TIED CARD OF 'transhumancelaw2.VerTimes'. -/
def verTimesCard : Claim7 := { stood := { row := verTimesRow, standIns := [], harness := (true, "cc82447971434cb8df461559f06d4828aaa0165c7e14a4baec6c16621e4d4bdf"), looks := true }, kinds := [], alts := [], laidByText := true, laidKinds := [.data, .data, .data, .data, .sentinel, .sentinel, .pinned], laidTests := true, laidLooks := .later }
def VerTimesCardSaid : Prop := Claim7.holds Tryd.pinned (.plain (OpenSpec.ofChange verTimesSpec)) verTimesCard

/-- THE SECOND FORM's CARD OF 'transhumancelaw2.VerBack'. -/
def verBackUptoCard : Claim7 := { stood := { row := verBackUptoRow, standIns := [], harness := (true, "cc82447971434cb8df461559f06d4828aaa0165c7e14a4baec6c16621e4d4bdf"), looks := true }, kinds := [], alts := [], laidByText := true, laidKinds := [.data, .data, .data, .data, .sentinel, .sentinel, .pinned], laidTests := true, laidLooks := .later }
def VerBackUptoCardSaid : Prop := Claim7.holds Tryd.pinned (.plain (OpenSpec.upto verBackSpec)) verBackUptoCard

/-- THE SECOND FORM's CARD OF 'transhumancelaw2.VerKnown'. -/
def verKnownUptoCard : Claim7 := { stood := { row := verKnownUptoRow, standIns := [], harness := (true, "cc82447971434cb8df461559f06d4828aaa0165c7e14a4baec6c16621e4d4bdf"), looks := true }, kinds := [], alts := [], laidByText := true, laidKinds := [.data, .data, .data, .data, .sentinel, .sentinel, .pinned], laidTests := true, laidLooks := .later }
def VerKnownUptoCardSaid : Prop := Claim7.holds Tryd.pinned (.plain (OpenSpec.upto verKnownSpec)) verKnownUptoCard

/-- THE SECOND FORM's CARD OF 'transhumancelaw2.VerNumbers'. -/
def verNumbersUptoCard : Claim7 := { stood := { row := verNumbersUptoRow, standIns := [], harness := (true, "cc82447971434cb8df461559f06d4828aaa0165c7e14a4baec6c16621e4d4bdf"), looks := true }, kinds := [], alts := [], laidByText := true, laidKinds := [.data, .data, .data, .data, .sentinel, .sentinel, .pinned], laidTests := true, laidLooks := .later }
def VerNumbersUptoCardSaid : Prop := Claim7.holds Tryd.pinned (.plain (OpenSpec.upto verNumbersSpec)) verNumbersUptoCard

/-- THE SECOND FORM's CARD OF 'transhumancelaw2.VerParts'. -/
def verPartsUptoCard : Claim7 := { stood := { row := verPartsUptoRow, standIns := [], harness := (true, "cc82447971434cb8df461559f06d4828aaa0165c7e14a4baec6c16621e4d4bdf"), looks := true }, kinds := [], alts := [], laidByText := true, laidKinds := [.data, .data, .data, .data, .sentinel, .sentinel, .pinned], laidTests := true, laidLooks := .later }
def VerPartsUptoCardSaid : Prop := Claim7.holds Tryd.pinned (.plain (OpenSpec.upto verPartsSpec)) verPartsUptoCard

/-- THE SECOND FORM's CARD OF 'transhumancelaw2.VerMaxes'. -/
def verMaxesUptoCard : Claim7 := { stood := { row := verMaxesUptoRow, standIns := [], harness := (true, "cc82447971434cb8df461559f06d4828aaa0165c7e14a4baec6c16621e4d4bdf"), looks := true }, kinds := [], alts := [], laidByText := true, laidKinds := [.data, .data, .data, .data, .sentinel, .sentinel, .pinned], laidTests := true, laidLooks := .later }
def VerMaxesUptoCardSaid : Prop := Claim7.holds Tryd.pinned (.plain (OpenSpec.upto verMaxesSpec)) verMaxesUptoCard

/-- THE SECOND FORM's CARD OF 'transhumancelaw2.VerTimes'. -/
def verTimesUptoCard : Claim7 := { stood := { row := verTimesUptoRow, standIns := [], harness := (true, "cc82447971434cb8df461559f06d4828aaa0165c7e14a4baec6c16621e4d4bdf"), looks := true }, kinds := [], alts := [], laidByText := true, laidKinds := [.data, .data, .data, .data, .sentinel, .sentinel, .pinned], laidTests := true, laidLooks := .later }
def VerTimesUptoCardSaid : Prop := Claim7.holds Tryd.pinned (.plain (OpenSpec.upto verTimesSpec)) verTimesUptoCard
end Rows
end Go.Proofs.YtbdojilhmgfdcaaDoor
