/-
  DERIVED. GIVEN WITH THE SEED: THE CARDS: each row of YtjiidlkkkednoaaGreatDoorRows.lean that lists a variable, with what it lists TIED to the program's text (the seventh form; the later family's looks); each row that meets fmt, with fmt's text TOLD by the authors' own Lean function (tested against real Go, not proved from fmt's source: count such statements apart). THE CARD IS WHAT COUNTS. Prove the row's statement (the work); the ties are given (YtjiidlkkkednoaaGreatDoorTie.lean); close each card by the builder's one call (the guide's Derived/Test/ToyasCard.lean, 'card_holds'). Laid BY PROGRAM, IN A SANDBOX (cutbox-door.mjs). By AI agents, Wed Nov 11 2026. No macro, syntax, notation, axiom, sorry.
-/
import Derived.Test.YtjiidlkkkednoaaGreatDoorRows
import GoSem.ClaimSeven
namespace Go.Proofs.YtjiidlkkkednoaaGreatDoor
namespace Rows

/-- THE TIED CARD OF 'transhumancelaw9.ManiBack'. -/
def maniBackCard : Claim7 := { stood := { row := maniBackRow, standIns := [], harness := (true, "97fb5320168a45226bebfab5b6c216cdd8635eb1482a9393f7eb0e2f3d9644b3"), looks := false }, kinds := [], alts := [], laidByText := true, laidKinds := [.data, .data, .data, .data, .pinned], laidTests := true, laidLooks := .later }
def ManiBackCardSaid : Prop := Claim7.holds Tryz.pinned (.plain (OpenSpec.ofChange maniBackSpec)) maniBackCard

/-- THE TIED CARD OF 'transhumancelaw9.ManiNorms'. -/
def maniNormsCard : Claim7 := { stood := { row := maniNormsRow, standIns := [], harness := (true, "97fb5320168a45226bebfab5b6c216cdd8635eb1482a9393f7eb0e2f3d9644b3"), looks := false }, kinds := [], alts := [], laidByText := true, laidKinds := [.data, .data, .data, .data, .pinned], laidTests := true, laidLooks := .later }
def ManiNormsCardSaid : Prop := Claim7.holds Tryz.pinned (.plain (OpenSpec.ofChange maniNormsSpec)) maniNormsCard

/-- THE TIED CARD OF 'transhumancelaw9.ManiRight'. -/
def maniRightCard : Claim7 := { stood := { row := maniRightRow, standIns := [], harness := (true, "97fb5320168a45226bebfab5b6c216cdd8635eb1482a9393f7eb0e2f3d9644b3"), looks := false }, kinds := [], alts := [], laidByText := true, laidKinds := [.data, .data, .data, .data, .pinned], laidTests := true, laidLooks := .later }
def ManiRightCardSaid : Prop := Claim7.holds Tryz.pinned (.plain (OpenSpec.ofChange maniRightSpec)) maniRightCard

/-- THE TIED CARD OF 'transhumancelaw9.ManiApart'. -/
def maniApartCard : Claim7 := { stood := { row := maniApartRow, standIns := [], harness := (true, "97fb5320168a45226bebfab5b6c216cdd8635eb1482a9393f7eb0e2f3d9644b3"), looks := false }, kinds := [], alts := [], laidByText := true, laidKinds := [.data, .data, .data, .data, .pinned], laidTests := true, laidLooks := .later }
def ManiApartCardSaid : Prop := Claim7.holds Tryz.pinned (.plain (OpenSpec.ofChange maniApartSpec)) maniApartCard

/-- THE TIED CARD OF 'transhumancelaw9.ManiTwice'. -/
def maniTwiceCard : Claim7 := { stood := { row := maniTwiceRow, standIns := [], harness := (true, "97fb5320168a45226bebfab5b6c216cdd8635eb1482a9393f7eb0e2f3d9644b3"), looks := false }, kinds := [], alts := [], laidByText := true, laidKinds := [.data, .data, .data, .data, .pinned], laidTests := true, laidLooks := .later }
def ManiTwiceCardSaid : Prop := Claim7.holds Tryz.pinned (.plain (OpenSpec.ofChange maniTwiceSpec)) maniTwiceCard

/-- THE TIED CARD OF 'transhumancelaw9.ManiOrders'. -/
def maniOrdersCard : Claim7 := { stood := { row := maniOrdersRow, standIns := [], harness := (true, "97fb5320168a45226bebfab5b6c216cdd8635eb1482a9393f7eb0e2f3d9644b3"), looks := false }, kinds := [], alts := [], laidByText := true, laidKinds := [.data, .data, .data, .data, .pinned], laidTests := true, laidLooks := .later }
def ManiOrdersCardSaid : Prop := Claim7.holds Tryz.pinned (.plain (OpenSpec.ofChange maniOrdersSpec)) maniOrdersCard

/-- THE TIED CARD OF 'transhumancelaw9.ManiOwn'. -/
def maniOwnCard : Claim7 := { stood := { row := maniOwnRow, standIns := [], harness := (true, "97fb5320168a45226bebfab5b6c216cdd8635eb1482a9393f7eb0e2f3d9644b3"), looks := false }, kinds := [], alts := [], laidByText := true, laidKinds := [.data, .data, .data, .data, .pinned], laidTests := true, laidLooks := .later }
def ManiOwnCardSaid : Prop := Claim7.holds Tryz.pinned (.plain (OpenSpec.ofChange maniOwnSpec)) maniOwnCard

/-- THE SECOND FORM's CARD OF 'transhumancelaw9.ManiBack'. -/
def maniBackUptoCard : Claim7 := { stood := { row := maniBackUptoRow, standIns := [], harness := (true, "97fb5320168a45226bebfab5b6c216cdd8635eb1482a9393f7eb0e2f3d9644b3"), looks := false }, kinds := [], alts := [], laidByText := true, laidKinds := [.data, .data, .data, .data, .pinned], laidTests := true, laidLooks := .later }
def ManiBackUptoCardSaid : Prop := Claim7.holds Tryz.pinned (.plain (OpenSpec.upto maniBackSpec)) maniBackUptoCard

/-- THE SECOND FORM's CARD OF 'transhumancelaw9.ManiNorms'. -/
def maniNormsUptoCard : Claim7 := { stood := { row := maniNormsUptoRow, standIns := [], harness := (true, "97fb5320168a45226bebfab5b6c216cdd8635eb1482a9393f7eb0e2f3d9644b3"), looks := false }, kinds := [], alts := [], laidByText := true, laidKinds := [.data, .data, .data, .data, .pinned], laidTests := true, laidLooks := .later }
def ManiNormsUptoCardSaid : Prop := Claim7.holds Tryz.pinned (.plain (OpenSpec.upto maniNormsSpec)) maniNormsUptoCard

/-- THE SECOND FORM's CARD OF 'transhumancelaw9.ManiRight'. -/
def maniRightUptoCard : Claim7 := { stood := { row := maniRightUptoRow, standIns := [], harness := (true, "97fb5320168a45226bebfab5b6c216cdd8635eb1482a9393f7eb0e2f3d9644b3"), looks := false }, kinds := [], alts := [], laidByText := true, laidKinds := [.data, .data, .data, .data, .pinned], laidTests := true, laidLooks := .later }
def ManiRightUptoCardSaid : Prop := Claim7.holds Tryz.pinned (.plain (OpenSpec.upto maniRightSpec)) maniRightUptoCard

/-- THE SECOND FORM's CARD OF 'transhumancelaw9.ManiApart'. -/
def maniApartUptoCard : Claim7 := { stood := { row := maniApartUptoRow, standIns := [], harness := (true, "97fb5320168a45226bebfab5b6c216cdd8635eb1482a9393f7eb0e2f3d9644b3"), looks := false }, kinds := [], alts := [], laidByText := true, laidKinds := [.data, .data, .data, .data, .pinned], laidTests := true, laidLooks := .later }
def ManiApartUptoCardSaid : Prop := Claim7.holds Tryz.pinned (.plain (OpenSpec.upto maniApartSpec)) maniApartUptoCard

/-- THE SECOND FORM's CARD OF 'transhumancelaw9.ManiTwice'. -/
def maniTwiceUptoCard : Claim7 := { stood := { row := maniTwiceUptoRow, standIns := [], harness := (true, "97fb5320168a45226bebfab5b6c216cdd8635eb1482a9393f7eb0e2f3d9644b3"), looks := false }, kinds := [], alts := [], laidByText := true, laidKinds := [.data, .data, .data, .data, .pinned], laidTests := true, laidLooks := .later }
def ManiTwiceUptoCardSaid : Prop := Claim7.holds Tryz.pinned (.plain (OpenSpec.upto maniTwiceSpec)) maniTwiceUptoCard

/-- THE SECOND FORM's CARD OF 'transhumancelaw9.ManiOrders'. -/
def maniOrdersUptoCard : Claim7 := { stood := { row := maniOrdersUptoRow, standIns := [], harness := (true, "97fb5320168a45226bebfab5b6c216cdd8635eb1482a9393f7eb0e2f3d9644b3"), looks := false }, kinds := [], alts := [], laidByText := true, laidKinds := [.data, .data, .data, .data, .pinned], laidTests := true, laidLooks := .later }
def ManiOrdersUptoCardSaid : Prop := Claim7.holds Tryz.pinned (.plain (OpenSpec.upto maniOrdersSpec)) maniOrdersUptoCard

/-- THE SECOND FORM's CARD OF 'transhumancelaw9.ManiOwn'. -/
def maniOwnUptoCard : Claim7 := { stood := { row := maniOwnUptoRow, standIns := [], harness := (true, "97fb5320168a45226bebfab5b6c216cdd8635eb1482a9393f7eb0e2f3d9644b3"), looks := false }, kinds := [], alts := [], laidByText := true, laidKinds := [.data, .data, .data, .data, .pinned], laidTests := true, laidLooks := .later }
def ManiOwnUptoCardSaid : Prop := Claim7.holds Tryz.pinned (.plain (OpenSpec.upto maniOwnSpec)) maniOwnUptoCard
end Rows
end Go.Proofs.YtjiidlkkkednoaaGreatDoor
