/-
  DERIVED. GIVEN WITH THE SEED: THE CARDS: each row of YtbdojilhmgfdcaaGreatDoorRows.lean that lists a variable, with what it lists TIED to the program's text (the seventh form; the later family's looks); each row that meets fmt, with fmt's text TOLD by the authors' own Lean function (tested against real Go, not proved from fmt's source: count such statements apart). THE CARD IS WHAT COUNTS. Prove the row's statement (the work); the ties are given (YtbdojilhmgfdcaaGreatDoorTie.lean); close each card by the builder's one call (the guide's Derived/Test/ToyasCard.lean, 'card_holds'). Laid BY PROGRAM, IN A SANDBOX (cutbox-door.mjs). By AI agents, Wed Nov 11 2026. No macro, syntax, notation, axiom, sorry.
-/
import Derived.Test.YtbdojilhmgfdcaaGreatDoorRows
import GoSem.ClaimSeven
namespace Go.Proofs.YtbdojilhmgfdcaaGreatDoor
namespace Rows

/-- THE TIED CARD OF 'transhumancelaw2.VerReads'. -/
def verReadsCard : Claim7 := { stood := { row := verReadsRow, standIns := [], harness := (true, "fbda8a018d6f1930f2c76f8f602a98b6dfa7235312ab14937c8947e70bef655a"), looks := true }, kinds := [], alts := [], laidByText := true, laidKinds := [.data, .data, .data, .data, .sentinel, .sentinel, .pinned], laidTests := true, laidLooks := .later }
def VerReadsCardSaid : Prop := Claim7.holds Tryz.pinned (.plain (OpenSpec.ofChange verReadsSpec)) verReadsCard

/-- THE TIED CARD OF 'transhumancelaw2.VerRight'. -/
def verRightCard : Claim7 := { stood := { row := verRightRow, standIns := [], harness := (true, "fbda8a018d6f1930f2c76f8f602a98b6dfa7235312ab14937c8947e70bef655a"), looks := true }, kinds := [], alts := [], laidByText := true, laidKinds := [.data, .data, .data, .data, .sentinel, .sentinel, .pinned], laidTests := true, laidLooks := .later }
def VerRightCardSaid : Prop := Claim7.holds Tryz.pinned (.plain (OpenSpec.ofChange verRightSpec)) verRightCard

/-- THE TIED CARD OF 'transhumancelaw2.VerOrder'. -/
def verOrderCard : Claim7 := { stood := { row := verOrderRow, standIns := [], harness := (true, "fbda8a018d6f1930f2c76f8f602a98b6dfa7235312ab14937c8947e70bef655a"), looks := true }, kinds := [], alts := [], laidByText := true, laidKinds := [.data, .data, .data, .data, .sentinel, .sentinel, .pinned], laidTests := true, laidLooks := .later }
def VerOrderCardSaid : Prop := Claim7.holds Tryz.pinned (.plain (OpenSpec.ofChange verOrderSpec)) verOrderCard

/-- THE TIED CARD OF 'transhumancelaw2.VerMax'. -/
def verMaxCard : Claim7 := { stood := { row := verMaxRow, standIns := [], harness := (true, "fbda8a018d6f1930f2c76f8f602a98b6dfa7235312ab14937c8947e70bef655a"), looks := true }, kinds := [], alts := [], laidByText := true, laidKinds := [.data, .data, .data, .data, .sentinel, .sentinel, .pinned], laidTests := true, laidLooks := .later }
def VerMaxCardSaid : Prop := Claim7.holds Tryz.pinned (.plain (OpenSpec.ofChange verMaxSpec)) verMaxCard

/-- THE TIED CARD OF 'transhumancelaw2.VerPseudos'. -/
def verPseudosCard : Claim7 := { stood := { row := verPseudosRow, standIns := [], harness := (true, "fbda8a018d6f1930f2c76f8f602a98b6dfa7235312ab14937c8947e70bef655a"), looks := true }, kinds := [], alts := [], laidByText := true, laidKinds := [.data, .data, .data, .data, .sentinel, .sentinel, .pinned], laidTests := true, laidLooks := .later }
def VerPseudosCardSaid : Prop := Claim7.holds Tryz.pinned (.plain (OpenSpec.ofChange verPseudosSpec)) verPseudosCard

/-- THE TIED CARD OF 'transhumancelaw2.VerBehind'. -/
def verBehindCard : Claim7 := { stood := { row := verBehindRow, standIns := [], harness := (true, "fbda8a018d6f1930f2c76f8f602a98b6dfa7235312ab14937c8947e70bef655a"), looks := true }, kinds := [], alts := [], laidByText := true, laidKinds := [.data, .data, .data, .data, .sentinel, .sentinel, .pinned], laidTests := true, laidLooks := .later }
def VerBehindCardSaid : Prop := Claim7.holds Tryz.pinned (.plain (OpenSpec.ofChange verBehindSpec)) verBehindCard

/-- THE TIED CARD OF 'transhumancelaw2.VerLonger'. -/
def verLongerCard : Claim7 := { stood := { row := verLongerRow, standIns := [], harness := (true, "fbda8a018d6f1930f2c76f8f602a98b6dfa7235312ab14937c8947e70bef655a"), looks := true }, kinds := [], alts := [], laidByText := true, laidKinds := [.data, .data, .data, .data, .sentinel, .sentinel, .pinned], laidTests := true, laidLooks := .later }
def VerLongerCardSaid : Prop := Claim7.holds Tryz.pinned (.plain (OpenSpec.ofChange verLongerSpec)) verLongerCard

/-- THE SECOND FORM's CARD OF 'transhumancelaw2.VerReads'. -/
def verReadsUptoCard : Claim7 := { stood := { row := verReadsUptoRow, standIns := [], harness := (true, "fbda8a018d6f1930f2c76f8f602a98b6dfa7235312ab14937c8947e70bef655a"), looks := true }, kinds := [], alts := [], laidByText := true, laidKinds := [.data, .data, .data, .data, .sentinel, .sentinel, .pinned], laidTests := true, laidLooks := .later }
def VerReadsUptoCardSaid : Prop := Claim7.holds Tryz.pinned (.plain (OpenSpec.upto verReadsSpec)) verReadsUptoCard

/-- THE SECOND FORM's CARD OF 'transhumancelaw2.VerRight'. -/
def verRightUptoCard : Claim7 := { stood := { row := verRightUptoRow, standIns := [], harness := (true, "fbda8a018d6f1930f2c76f8f602a98b6dfa7235312ab14937c8947e70bef655a"), looks := true }, kinds := [], alts := [], laidByText := true, laidKinds := [.data, .data, .data, .data, .sentinel, .sentinel, .pinned], laidTests := true, laidLooks := .later }
def VerRightUptoCardSaid : Prop := Claim7.holds Tryz.pinned (.plain (OpenSpec.upto verRightSpec)) verRightUptoCard

/-- THE SECOND FORM's CARD OF 'transhumancelaw2.VerOrder'. -/
def verOrderUptoCard : Claim7 := { stood := { row := verOrderUptoRow, standIns := [], harness := (true, "fbda8a018d6f1930f2c76f8f602a98b6dfa7235312ab14937c8947e70bef655a"), looks := true }, kinds := [], alts := [], laidByText := true, laidKinds := [.data, .data, .data, .data, .sentinel, .sentinel, .pinned], laidTests := true, laidLooks := .later }
def VerOrderUptoCardSaid : Prop := Claim7.holds Tryz.pinned (.plain (OpenSpec.upto verOrderSpec)) verOrderUptoCard

/-- THE SECOND FORM's CARD OF 'transhumancelaw2.VerMax'. -/
def verMaxUptoCard : Claim7 := { stood := { row := verMaxUptoRow, standIns := [], harness := (true, "fbda8a018d6f1930f2c76f8f602a98b6dfa7235312ab14937c8947e70bef655a"), looks := true }, kinds := [], alts := [], laidByText := true, laidKinds := [.data, .data, .data, .data, .sentinel, .sentinel, .pinned], laidTests := true, laidLooks := .later }
def VerMaxUptoCardSaid : Prop := Claim7.holds Tryz.pinned (.plain (OpenSpec.upto verMaxSpec)) verMaxUptoCard

/-- THE SECOND FORM's CARD OF 'transhumancelaw2.VerPseudos'. -/
def verPseudosUptoCard : Claim7 := { stood := { row := verPseudosUptoRow, standIns := [], harness := (true, "fbda8a018d6f1930f2c76f8f602a98b6dfa7235312ab14937c8947e70bef655a"), looks := true }, kinds := [], alts := [], laidByText := true, laidKinds := [.data, .data, .data, .data, .sentinel, .sentinel, .pinned], laidTests := true, laidLooks := .later }
def VerPseudosUptoCardSaid : Prop := Claim7.holds Tryz.pinned (.plain (OpenSpec.upto verPseudosSpec)) verPseudosUptoCard

/-- THE SECOND FORM's CARD OF 'transhumancelaw2.VerBehind'. -/
def verBehindUptoCard : Claim7 := { stood := { row := verBehindUptoRow, standIns := [], harness := (true, "fbda8a018d6f1930f2c76f8f602a98b6dfa7235312ab14937c8947e70bef655a"), looks := true }, kinds := [], alts := [], laidByText := true, laidKinds := [.data, .data, .data, .data, .sentinel, .sentinel, .pinned], laidTests := true, laidLooks := .later }
def VerBehindUptoCardSaid : Prop := Claim7.holds Tryz.pinned (.plain (OpenSpec.upto verBehindSpec)) verBehindUptoCard

/-- THE SECOND FORM's CARD OF 'transhumancelaw2.VerLonger'. -/
def verLongerUptoCard : Claim7 := { stood := { row := verLongerUptoRow, standIns := [], harness := (true, "fbda8a018d6f1930f2c76f8f602a98b6dfa7235312ab14937c8947e70bef655a"), looks := true }, kinds := [], alts := [], laidByText := true, laidKinds := [.data, .data, .data, .data, .sentinel, .sentinel, .pinned], laidTests := true, laidLooks := .later }
def VerLongerUptoCardSaid : Prop := Claim7.holds Tryz.pinned (.plain (OpenSpec.upto verLongerSpec)) verLongerUptoCard
end Rows
end Go.Proofs.YtbdojilhmgfdcaaGreatDoor
