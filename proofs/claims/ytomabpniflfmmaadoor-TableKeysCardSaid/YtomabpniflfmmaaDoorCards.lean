/-
  DERIVED. GIVEN WITH THE SEED: THE CARDS: each row of YtomabpniflfmmaaDoorRows.lean that lists a variable, with what it lists TIED to the program's text (the seventh form; the later family's looks); each row that meets fmt, with fmt's text TOLD by the authors' own Lean function (tested against real Go, not proved from fmt's source: count such statements apart). THE CARD IS WHAT COUNTS. Prove the row's statement (the work); the ties are given (YtomabpniflfmmaaDoorTie.lean); close each card by the builder's one call (the guide's Derived/Test/ToyasCard.lean, 'card_holds'). Laid BY PROGRAM, IN A SANDBOX (cutbox-door.mjs). By AI agents, Wed Nov 11 2026. No macro, syntax, notation, axiom, sorry.
-/
import Derived.Test.YtomabpniflfmmaaDoorRows
import GoSem.ClaimSeven
namespace Go.Proofs.YtomabpniflfmmaaDoor
namespace Rows

/-- THE TIED CARD OF 'transhumancelaw6.TableLocks'. -/
def tableLocksCard : Claim7 := { stood := { row := tableLocksRow, standIns := [], harness := (true, "0fa456b8f6bbeeed92011a26223628c7ea4e1fe216fd99512336102a6174e2a0"), looks := false }, kinds := [], alts := [], laidByText := true, laidKinds := [.sentinel], laidTests := true, laidLooks := .later }
def TableLocksCardSaid : Prop := Claim7.holds Tryd.pinned (.plain (OpenSpec.ofChange tableLocksSpec)) tableLocksCard

/-- THE TIED CARD OF 'transhumancelaw6.TableLines'. -/
def tableLinesCard : Claim7 := { stood := { row := tableLinesRow, standIns := [], harness := (true, "0fa456b8f6bbeeed92011a26223628c7ea4e1fe216fd99512336102a6174e2a0"), looks := false }, kinds := [], alts := [], laidByText := true, laidKinds := [.sentinel], laidTests := true, laidLooks := .later }
def TableLinesCardSaid : Prop := Claim7.holds Tryd.pinned (.plain (OpenSpec.ofChange tableLinesSpec)) tableLinesCard

/-- THE TIED CARD OF 'transhumancelaw6.TableLacks'. -/
def tableLacksCard : Claim7 := { stood := { row := tableLacksRow, standIns := [], harness := (true, "0fa456b8f6bbeeed92011a26223628c7ea4e1fe216fd99512336102a6174e2a0"), looks := false }, kinds := [], alts := [], laidByText := true, laidKinds := [.sentinel], laidTests := true, laidLooks := .later }
def TableLacksCardSaid : Prop := Claim7.holds Tryd.pinned (.plain (OpenSpec.ofChange tableLacksSpec)) tableLacksCard

/-- THE TIED CARD OF 'transhumancelaw6.TableMany'. -/
def tableManyCard : Claim7 := { stood := { row := tableManyRow, standIns := [], harness := (true, "0fa456b8f6bbeeed92011a26223628c7ea4e1fe216fd99512336102a6174e2a0"), looks := false }, kinds := [], alts := [], laidByText := true, laidKinds := [.sentinel], laidTests := true, laidLooks := .later }
def TableManyCardSaid : Prop := Claim7.holds Tryd.pinned (.plain (OpenSpec.ofChange tableManySpec)) tableManyCard

/-- THE TIED CARD OF 'transhumancelaw6.TableBad'. -/
def tableBadCard : Claim7 := { stood := { row := tableBadRow, standIns := [], harness := (true, "0fa456b8f6bbeeed92011a26223628c7ea4e1fe216fd99512336102a6174e2a0"), looks := false }, kinds := [], alts := [], laidByText := true, laidKinds := [.sentinel], laidTests := true, laidLooks := .later }
def TableBadCardSaid : Prop := Claim7.holds Tryd.pinned (.plain (OpenSpec.ofChange tableBadSpec)) tableBadCard

/-- THE TIED CARD OF 'transhumancelaw6.TableKeys'. -/
def tableKeysCard : Claim7 := { stood := { row := tableKeysRow, standIns := [], harness := (true, "0fa456b8f6bbeeed92011a26223628c7ea4e1fe216fd99512336102a6174e2a0"), looks := false }, kinds := [], alts := [], laidByText := true, laidKinds := [.sentinel], laidTests := true, laidLooks := .later }
def TableKeysCardSaid : Prop := Claim7.holds Tryd.pinned (.plain (OpenSpec.ofChange tableKeysSpec)) tableKeysCard

/-- THE TIED CARD OF 'transhumancelaw6.TablePaths'. -/
def tablePathsCard : Claim7 := { stood := { row := tablePathsRow, standIns := [], harness := (true, "0fa456b8f6bbeeed92011a26223628c7ea4e1fe216fd99512336102a6174e2a0"), looks := false }, kinds := [], alts := [], laidByText := true, laidKinds := [.sentinel], laidTests := true, laidLooks := .later }
def TablePathsCardSaid : Prop := Claim7.holds Tryd.pinned (.plain (OpenSpec.ofChange tablePathsSpec)) tablePathsCard

/-- THE TIED CARD OF 'transhumancelaw6.TableEnds'. -/
def tableEndsCard : Claim7 := { stood := { row := tableEndsRow, standIns := [], harness := (true, "0fa456b8f6bbeeed92011a26223628c7ea4e1fe216fd99512336102a6174e2a0"), looks := false }, kinds := [], alts := [], laidByText := true, laidKinds := [.sentinel], laidTests := true, laidLooks := .later }
def TableEndsCardSaid : Prop := Claim7.holds Tryd.pinned (.plain (OpenSpec.ofChange tableEndsSpec)) tableEndsCard

/-- THE TIED CARD OF 'transhumancelaw6.TableLong'. -/
def tableLongCard : Claim7 := { stood := { row := tableLongRow, standIns := [], harness := (true, "0fa456b8f6bbeeed92011a26223628c7ea4e1fe216fd99512336102a6174e2a0"), looks := false }, kinds := [], alts := [], laidByText := true, laidKinds := [.sentinel], laidTests := true, laidLooks := .later }
def TableLongCardSaid : Prop := Claim7.holds Tryd.pinned (.plain (OpenSpec.ofChange tableLongSpec)) tableLongCard

/-- THE SECOND FORM's CARD OF 'transhumancelaw6.TableLocks'. -/
def tableLocksUptoCard : Claim7 := { stood := { row := tableLocksUptoRow, standIns := [], harness := (true, "0fa456b8f6bbeeed92011a26223628c7ea4e1fe216fd99512336102a6174e2a0"), looks := false }, kinds := [], alts := [], laidByText := true, laidKinds := [.sentinel], laidTests := true, laidLooks := .later }
def TableLocksUptoCardSaid : Prop := Claim7.holds Tryd.pinned (.plain (OpenSpec.upto tableLocksSpec)) tableLocksUptoCard

/-- THE SECOND FORM's CARD OF 'transhumancelaw6.TableLines'. -/
def tableLinesUptoCard : Claim7 := { stood := { row := tableLinesUptoRow, standIns := [], harness := (true, "0fa456b8f6bbeeed92011a26223628c7ea4e1fe216fd99512336102a6174e2a0"), looks := false }, kinds := [], alts := [], laidByText := true, laidKinds := [.sentinel], laidTests := true, laidLooks := .later }
def TableLinesUptoCardSaid : Prop := Claim7.holds Tryd.pinned (.plain (OpenSpec.upto tableLinesSpec)) tableLinesUptoCard

/-- THE SECOND FORM's CARD OF 'transhumancelaw6.TableLacks'. -/
def tableLacksUptoCard : Claim7 := { stood := { row := tableLacksUptoRow, standIns := [], harness := (true, "0fa456b8f6bbeeed92011a26223628c7ea4e1fe216fd99512336102a6174e2a0"), looks := false }, kinds := [], alts := [], laidByText := true, laidKinds := [.sentinel], laidTests := true, laidLooks := .later }
def TableLacksUptoCardSaid : Prop := Claim7.holds Tryd.pinned (.plain (OpenSpec.upto tableLacksSpec)) tableLacksUptoCard

/-- THE SECOND FORM's CARD OF 'transhumancelaw6.TableMany'. -/
def tableManyUptoCard : Claim7 := { stood := { row := tableManyUptoRow, standIns := [], harness := (true, "0fa456b8f6bbeeed92011a26223628c7ea4e1fe216fd99512336102a6174e2a0"), looks := false }, kinds := [], alts := [], laidByText := true, laidKinds := [.sentinel], laidTests := true, laidLooks := .later }
def TableManyUptoCardSaid : Prop := Claim7.holds Tryd.pinned (.plain (OpenSpec.upto tableManySpec)) tableManyUptoCard

/-- THE SECOND FORM's CARD OF 'transhumancelaw6.TableBad'. -/
def tableBadUptoCard : Claim7 := { stood := { row := tableBadUptoRow, standIns := [], harness := (true, "0fa456b8f6bbeeed92011a26223628c7ea4e1fe216fd99512336102a6174e2a0"), looks := false }, kinds := [], alts := [], laidByText := true, laidKinds := [.sentinel], laidTests := true, laidLooks := .later }
def TableBadUptoCardSaid : Prop := Claim7.holds Tryd.pinned (.plain (OpenSpec.upto tableBadSpec)) tableBadUptoCard

/-- THE SECOND FORM's CARD OF 'transhumancelaw6.TableKeys'. -/
def tableKeysUptoCard : Claim7 := { stood := { row := tableKeysUptoRow, standIns := [], harness := (true, "0fa456b8f6bbeeed92011a26223628c7ea4e1fe216fd99512336102a6174e2a0"), looks := false }, kinds := [], alts := [], laidByText := true, laidKinds := [.sentinel], laidTests := true, laidLooks := .later }
def TableKeysUptoCardSaid : Prop := Claim7.holds Tryd.pinned (.plain (OpenSpec.upto tableKeysSpec)) tableKeysUptoCard

/-- THE SECOND FORM's CARD OF 'transhumancelaw6.TablePaths'. -/
def tablePathsUptoCard : Claim7 := { stood := { row := tablePathsUptoRow, standIns := [], harness := (true, "0fa456b8f6bbeeed92011a26223628c7ea4e1fe216fd99512336102a6174e2a0"), looks := false }, kinds := [], alts := [], laidByText := true, laidKinds := [.sentinel], laidTests := true, laidLooks := .later }
def TablePathsUptoCardSaid : Prop := Claim7.holds Tryd.pinned (.plain (OpenSpec.upto tablePathsSpec)) tablePathsUptoCard

/-- THE SECOND FORM's CARD OF 'transhumancelaw6.TableEnds'. -/
def tableEndsUptoCard : Claim7 := { stood := { row := tableEndsUptoRow, standIns := [], harness := (true, "0fa456b8f6bbeeed92011a26223628c7ea4e1fe216fd99512336102a6174e2a0"), looks := false }, kinds := [], alts := [], laidByText := true, laidKinds := [.sentinel], laidTests := true, laidLooks := .later }
def TableEndsUptoCardSaid : Prop := Claim7.holds Tryd.pinned (.plain (OpenSpec.upto tableEndsSpec)) tableEndsUptoCard

/-- THE SECOND FORM's CARD OF 'transhumancelaw6.TableLong'. -/
def tableLongUptoCard : Claim7 := { stood := { row := tableLongUptoRow, standIns := [], harness := (true, "0fa456b8f6bbeeed92011a26223628c7ea4e1fe216fd99512336102a6174e2a0"), looks := false }, kinds := [], alts := [], laidByText := true, laidKinds := [.sentinel], laidTests := true, laidLooks := .later }
def TableLongUptoCardSaid : Prop := Claim7.holds Tryd.pinned (.plain (OpenSpec.upto tableLongSpec)) tableLongUptoCard
end Rows
end Go.Proofs.YtomabpniflfmmaaDoor
