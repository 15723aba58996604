/-
  DERIVED. GIVEN WITH THE SEED: THE CARDS: each row of YtghencpiejbecaaDoorRows.lean that lists a variable, with what it lists TIED to the program's text (the seventh form; the later family's looks); each row that meets fmt, with fmt's text TOLD by the authors' own Lean function (tested against real Go, not proved from fmt's source: count such statements apart). THE CARD IS WHAT COUNTS. Prove the row's statement (the work); the ties are given (YtghencpiejbecaaDoorTie.lean); close each card by the builder's one call (the guide's Derived/Test/ToyasCard.lean, 'card_holds'). Laid BY PROGRAM, IN A SANDBOX (cutbox-door.mjs). By AI agents, Wed Nov 11 2026. No macro, syntax, notation, axiom, sorry.
-/
import Derived.Test.YtghencpiejbecaaDoorRows
import GoSem.ClaimSeven
namespace Go.Proofs.YtghencpiejbecaaDoor
namespace Rows

/-- THE TIED CARD OF 'transhumancelaw7.DentLacks'. -/
def dentLacksCard : Claim7 := { stood := { row := dentLacksRow, standIns := [], harness := (true, "9ba9119066cf4282534b15322620dabb1ec517371321696c5dac3b8bbc68c77d"), looks := false }, kinds := [], alts := [], laidByText := true, laidKinds := [.data, .sentinel, .pinned], laidTests := true, laidLooks := .later }
def DentLacksCardSaid : Prop := Claim7.holds Tryd.pinned (.plain (OpenSpec.ofChange dentLacksSpec)) dentLacksCard

/-- THE TIED CARD OF 'transhumancelaw7.DentKnown'. -/
def dentKnownCard : Claim7 := { stood := { row := dentKnownRow, standIns := [], harness := (true, "9ba9119066cf4282534b15322620dabb1ec517371321696c5dac3b8bbc68c77d"), looks := false }, kinds := [], alts := [], laidByText := true, laidKinds := [.data, .sentinel, .pinned], laidTests := true, laidLooks := .later }
def DentKnownCardSaid : Prop := Claim7.holds Tryd.pinned (.plain (OpenSpec.ofChange dentKnownSpec)) dentKnownCard

/-- THE TIED CARD OF 'transhumancelaw7.DentMany'. -/
def dentManyCard : Claim7 := { stood := { row := dentManyRow, standIns := [], harness := (true, "9ba9119066cf4282534b15322620dabb1ec517371321696c5dac3b8bbc68c77d"), looks := false }, kinds := [], alts := [], laidByText := true, laidKinds := [.data, .sentinel, .pinned], laidTests := true, laidLooks := .later }
def DentManyCardSaid : Prop := Claim7.holds Tryd.pinned (.plain (OpenSpec.ofChange dentManySpec)) dentManyCard

/-- THE SECOND FORM's CARD OF 'transhumancelaw7.DentLacks'. -/
def dentLacksUptoCard : Claim7 := { stood := { row := dentLacksUptoRow, standIns := [], harness := (true, "9ba9119066cf4282534b15322620dabb1ec517371321696c5dac3b8bbc68c77d"), looks := false }, kinds := [], alts := [], laidByText := true, laidKinds := [.data, .sentinel, .pinned], laidTests := true, laidLooks := .later }
def DentLacksUptoCardSaid : Prop := Claim7.holds Tryd.pinned (.plain (OpenSpec.upto dentLacksSpec)) dentLacksUptoCard

/-- THE SECOND FORM's CARD OF 'transhumancelaw7.DentKnown'. -/
def dentKnownUptoCard : Claim7 := { stood := { row := dentKnownUptoRow, standIns := [], harness := (true, "9ba9119066cf4282534b15322620dabb1ec517371321696c5dac3b8bbc68c77d"), looks := false }, kinds := [], alts := [], laidByText := true, laidKinds := [.data, .sentinel, .pinned], laidTests := true, laidLooks := .later }
def DentKnownUptoCardSaid : Prop := Claim7.holds Tryd.pinned (.plain (OpenSpec.upto dentKnownSpec)) dentKnownUptoCard

/-- THE SECOND FORM's CARD OF 'transhumancelaw7.DentMany'. -/
def dentManyUptoCard : Claim7 := { stood := { row := dentManyUptoRow, standIns := [], harness := (true, "9ba9119066cf4282534b15322620dabb1ec517371321696c5dac3b8bbc68c77d"), looks := false }, kinds := [], alts := [], laidByText := true, laidKinds := [.data, .sentinel, .pinned], laidTests := true, laidLooks := .later }
def DentManyUptoCardSaid : Prop := Claim7.holds Tryd.pinned (.plain (OpenSpec.upto dentManySpec)) dentManyUptoCard
end Rows
end Go.Proofs.YtghencpiejbecaaDoor
