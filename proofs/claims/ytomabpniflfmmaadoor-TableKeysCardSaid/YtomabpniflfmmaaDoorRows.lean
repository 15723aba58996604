/-
  NARROWER THAN 'FOR EVERY INPUT', by the rows' own cells (each row's printed sentence says how): TableLocks: laid · TableLines: laid · TableLacks: laid · TableMany: laid · TableBad: laid · TableKeys: laid · TablePaths: laid · TableEnds: laid · TableLong: laid.
  DERIVED. THE GIVEN ROWS OF THIS SEAT. 9 by the template 'for every input the law returns true; each argument reads behind the call as it read before'; 0 by the template 'total and deterministic' (their statements: YtomabpniflfmmaaDoorTotals.lean).
  GIVEN WITH THE SEED: the statements are not yours to turn. If you find one false, say at which input.
  Laid BY PROGRAM, IN A SANDBOX (cutbox-rows.mjs): the forced cells as the released guide's own fill.sh prints them over the translation a426ac8c2066684e… (all of the seat's roots in one cut). By AI agents, Wed Nov 11 2026. No macro, syntax, notation, axiom, sorry.
-/
import Derived.Test.YtomabpniflfmmaaDoorChecked
import GoSem.Claim
import GoSem.ClaimJoined
import GoSem.ClaimMapViews
import Derived.JoinedTies
import Derived.KernelRfl
namespace Go.Proofs.YtomabpniflfmmaaDoor
/- THE CELL 'sum', in the pinned program and in every row, IS THE sha256 OF THE DUMP (.gsa) THAT YtomabpniflfmmaaDoorProg.lean LOADS. Nothing in Lean hashes anything: it is a label: what it is worth is what the hold of that sum in a sandbox is worth. -/
noncomputable def Tryd.pinned : Pinned := { name := "ytomabpniflfmmaadoor", sum := "a426ac8c2066684eef8bfadcd8acbeb4c3588346c941e78b8b5408545666bf4d", checked := Tryd.checked }
namespace Rows
def none {H : Type} : Left H := { results := [], args := [] }

/- WHAT THE LISTED PACKAGE-LEVEL VARIABLES READ AS WHEN THE CALL BEGINS. Each datum BY PROGRAM (the guide's laid-datum.mjs) off the statement by which the dump's own 'gosem.cut.vars' lays the variable. In a bare row this is a premise. The card (YtomabpniflfmmaaDoorCards.lean) ties it to the program's text. -/
def laid_bytes_ErrTooLarge {H : Type} : DataW H := .iface "*errors.errorString" (.ptr (.agg [.lit (.string [98, 121, 116, 101, 115, 46, 66, 117, 102, 102, 101, 114, 58, 32, 116, 111, 111, 32, 108, 97, 114, 103, 101])]))

/-- 'transhumancelaw6.TableLocks': WHATEVER THE INPUT: true; the input reads as it did. -/
def tableLocksSpec : ChangeSpec := { name := "tableLocks", fn := fun _ => fun
  | [d1, d2] => { results := [.lit (.bool true)], args := [d1, d2] }
  | _ => none }
def tableLocksRow : OpenClaim := { program := "ytomabpniflfmmaadoor", sum := "a426ac8c2066684eef8bfadcd8acbeb4c3588346c941e78b8b5408545666bf4d", func := "transhumance/transhumancelaw6.TableLocks", spec := "tableLocks", inPlace := ["internal/bytealg.CountString", "internal/bytealg.IndexByteString", "internal/bytealg.IndexString", "internal/abi.NoEscape"], unfollowed := true, recurses := true, named := ["internal/bytealg.MaxLen", "bytes.ErrTooLarge"], apart := false, laid := [("bytes.ErrTooLarge", laid_bytes_ErrTooLarge)] }
def TableLocksSaid : Prop := tableLocksRow.holds Tryd.pinned (OpenSpec.ofChange tableLocksSpec)

/-- ITS FALSE NEIGHBOUR: 'it returns false'. Refute it at one input. -/
def tableLocksWrong : ChangeSpec := { name := "tableLocks", fn := fun _ => fun
  | [d1, d2] => { results := [.lit (.bool false)], args := [d1, d2] }
  | _ => none }
def TableLocksWrongFalsely : Prop := tableLocksRow.holds Tryd.pinned (OpenSpec.ofChange tableLocksWrong)

/-- 'transhumancelaw6.TableLines': WHATEVER THE INPUT: true; the input reads as it did. -/
def tableLinesSpec : ChangeSpec := { name := "tableLines", fn := fun _ => fun
  | [d1, d2, d3, d4] => { results := [.lit (.bool true)], args := [d1, d2, d3, d4] }
  | _ => none }
def tableLinesRow : OpenClaim := { program := "ytomabpniflfmmaadoor", sum := "a426ac8c2066684eef8bfadcd8acbeb4c3588346c941e78b8b5408545666bf4d", func := "transhumance/transhumancelaw6.TableLines", spec := "tableLines", inPlace := ["internal/bytealg.CountString", "internal/bytealg.IndexByteString", "internal/bytealg.IndexString", "internal/abi.NoEscape"], unfollowed := true, recurses := true, named := ["internal/bytealg.MaxLen", "bytes.ErrTooLarge"], apart := false, laid := [("bytes.ErrTooLarge", laid_bytes_ErrTooLarge)] }
def TableLinesSaid : Prop := tableLinesRow.holds Tryd.pinned (OpenSpec.ofChange tableLinesSpec)

/-- ITS FALSE NEIGHBOUR: 'it returns false'. Refute it at one input. -/
def tableLinesWrong : ChangeSpec := { name := "tableLines", fn := fun _ => fun
  | [d1, d2, d3, d4] => { results := [.lit (.bool false)], args := [d1, d2, d3, d4] }
  | _ => none }
def TableLinesWrongFalsely : Prop := tableLinesRow.holds Tryd.pinned (OpenSpec.ofChange tableLinesWrong)

/-- 'transhumancelaw6.TableLacks': WHATEVER THE INPUT: true; the input reads as it did. -/
def tableLacksSpec : ChangeSpec := { name := "tableLacks", fn := fun _ => fun
  | [d1, d2, d3] => { results := [.lit (.bool true)], args := [d1, d2, d3] }
  | _ => none }
def tableLacksRow : OpenClaim := { program := "ytomabpniflfmmaadoor", sum := "a426ac8c2066684eef8bfadcd8acbeb4c3588346c941e78b8b5408545666bf4d", func := "transhumance/transhumancelaw6.TableLacks", spec := "tableLacks", inPlace := ["internal/bytealg.CountString", "internal/bytealg.IndexByteString", "internal/bytealg.IndexString", "internal/abi.NoEscape"], unfollowed := true, recurses := true, named := ["internal/bytealg.MaxLen", "bytes.ErrTooLarge"], apart := false, laid := [("bytes.ErrTooLarge", laid_bytes_ErrTooLarge)] }
def TableLacksSaid : Prop := tableLacksRow.holds Tryd.pinned (OpenSpec.ofChange tableLacksSpec)

/-- ITS FALSE NEIGHBOUR: 'it returns false'. Refute it at one input. -/
def tableLacksWrong : ChangeSpec := { name := "tableLacks", fn := fun _ => fun
  | [d1, d2, d3] => { results := [.lit (.bool false)], args := [d1, d2, d3] }
  | _ => none }
def TableLacksWrongFalsely : Prop := tableLacksRow.holds Tryd.pinned (OpenSpec.ofChange tableLacksWrong)

/-- 'transhumancelaw6.TableMany': WHATEVER THE INPUT: true; the input reads as it did. -/
def tableManySpec : ChangeSpec := { name := "tableMany", fn := fun _ => fun
  | [d] => { results := [.lit (.bool true)], args := [d] }
  | _ => none }
def tableManyRow : OpenClaim := { program := "ytomabpniflfmmaadoor", sum := "a426ac8c2066684eef8bfadcd8acbeb4c3588346c941e78b8b5408545666bf4d", func := "transhumance/transhumancelaw6.TableMany", spec := "tableMany", inPlace := ["internal/bytealg.CountString", "internal/bytealg.IndexByteString", "internal/bytealg.IndexString", "internal/abi.NoEscape"], unfollowed := true, recurses := true, named := ["internal/bytealg.MaxLen", "bytes.ErrTooLarge"], apart := false, laid := [("bytes.ErrTooLarge", laid_bytes_ErrTooLarge)] }
def TableManySaid : Prop := tableManyRow.holds Tryd.pinned (OpenSpec.ofChange tableManySpec)

/-- ITS FALSE NEIGHBOUR: 'it returns false'. Refute it at one input. -/
def tableManyWrong : ChangeSpec := { name := "tableMany", fn := fun _ => fun
  | [d] => { results := [.lit (.bool false)], args := [d] }
  | _ => none }
def TableManyWrongFalsely : Prop := tableManyRow.holds Tryd.pinned (OpenSpec.ofChange tableManyWrong)

/-- 'transhumancelaw6.TableBad': WHATEVER THE INPUT: true; the input reads as it did. -/
def tableBadSpec : ChangeSpec := { name := "tableBad", fn := fun _ => fun
  | [d1, d2, d3, d4] => { results := [.lit (.bool true)], args := [d1, d2, d3, d4] }
  | _ => none }
def tableBadRow : OpenClaim := { program := "ytomabpniflfmmaadoor", sum := "a426ac8c2066684eef8bfadcd8acbeb4c3588346c941e78b8b5408545666bf4d", func := "transhumance/transhumancelaw6.TableBad", spec := "tableBad", inPlace := ["internal/bytealg.CountString", "internal/bytealg.IndexByteString", "internal/bytealg.IndexString", "internal/abi.NoEscape"], unfollowed := true, recurses := true, named := ["internal/bytealg.MaxLen", "bytes.ErrTooLarge"], apart := false, laid := [("bytes.ErrTooLarge", laid_bytes_ErrTooLarge)] }
def TableBadSaid : Prop := tableBadRow.holds Tryd.pinned (OpenSpec.ofChange tableBadSpec)

/-- ITS FALSE NEIGHBOUR: 'it returns false'. Refute it at one input. -/
def tableBadWrong : ChangeSpec := { name := "tableBad", fn := fun _ => fun
  | [d1, d2, d3, d4] => { results := [.lit (.bool false)], args := [d1, d2, d3, d4] }
  | _ => none }
def TableBadWrongFalsely : Prop := tableBadRow.holds Tryd.pinned (OpenSpec.ofChange tableBadWrong)

/-- 'transhumancelaw6.TableKeys': WHATEVER THE INPUT: true; the input reads as it did. -/
def tableKeysSpec : ChangeSpec := { name := "tableKeys", fn := fun _ => fun
  | [d1, d2, d3] => { results := [.lit (.bool true)], args := [d1, d2, d3] }
  | _ => none }
def tableKeysRow : OpenClaim := { program := "ytomabpniflfmmaadoor", sum := "a426ac8c2066684eef8bfadcd8acbeb4c3588346c941e78b8b5408545666bf4d", func := "transhumance/transhumancelaw6.TableKeys", spec := "tableKeys", inPlace := ["internal/bytealg.CountString", "internal/bytealg.IndexByteString", "internal/bytealg.IndexString", "internal/abi.NoEscape"], unfollowed := true, recurses := true, named := ["internal/bytealg.MaxLen", "bytes.ErrTooLarge"], apart := false, laid := [("bytes.ErrTooLarge", laid_bytes_ErrTooLarge)] }
def TableKeysSaid : Prop := tableKeysRow.holds Tryd.pinned (OpenSpec.ofChange tableKeysSpec)

/-- ITS FALSE NEIGHBOUR: 'it returns false'. Refute it at one input. -/
def tableKeysWrong : ChangeSpec := { name := "tableKeys", fn := fun _ => fun
  | [d1, d2, d3] => { results := [.lit (.bool false)], args := [d1, d2, d3] }
  | _ => none }
def TableKeysWrongFalsely : Prop := tableKeysRow.holds Tryd.pinned (OpenSpec.ofChange tableKeysWrong)

/-- 'transhumancelaw6.TablePaths': WHATEVER THE INPUT: true; the input reads as it did. -/
def tablePathsSpec : ChangeSpec := { name := "tablePaths", fn := fun _ => fun
  | [d1, d2, d3] => { results := [.lit (.bool true)], args := [d1, d2, d3] }
  | _ => none }
def tablePathsRow : OpenClaim := { program := "ytomabpniflfmmaadoor", sum := "a426ac8c2066684eef8bfadcd8acbeb4c3588346c941e78b8b5408545666bf4d", func := "transhumance/transhumancelaw6.TablePaths", spec := "tablePaths", inPlace := ["internal/bytealg.CountString", "internal/bytealg.IndexByteString", "internal/bytealg.IndexString", "internal/abi.NoEscape"], unfollowed := true, recurses := true, named := ["internal/bytealg.MaxLen", "bytes.ErrTooLarge"], apart := false, laid := [("bytes.ErrTooLarge", laid_bytes_ErrTooLarge)] }
def TablePathsSaid : Prop := tablePathsRow.holds Tryd.pinned (OpenSpec.ofChange tablePathsSpec)

/-- ITS FALSE NEIGHBOUR: 'it returns false'. Refute it at one input. -/
def tablePathsWrong : ChangeSpec := { name := "tablePaths", fn := fun _ => fun
  | [d1, d2, d3] => { results := [.lit (.bool false)], args := [d1, d2, d3] }
  | _ => none }
def TablePathsWrongFalsely : Prop := tablePathsRow.holds Tryd.pinned (OpenSpec.ofChange tablePathsWrong)

/-- 'transhumancelaw6.TableEnds': WHATEVER THE INPUT: true; the input reads as it did. -/
def tableEndsSpec : ChangeSpec := { name := "tableEnds", fn := fun _ => fun
  | [d1, d2, d3] => { results := [.lit (.bool true)], args := [d1, d2, d3] }
  | _ => none }
def tableEndsRow : OpenClaim := { program := "ytomabpniflfmmaadoor", sum := "a426ac8c2066684eef8bfadcd8acbeb4c3588346c941e78b8b5408545666bf4d", func := "transhumance/transhumancelaw6.TableEnds", spec := "tableEnds", inPlace := ["internal/bytealg.CountString", "internal/bytealg.IndexByteString", "internal/bytealg.IndexString", "internal/abi.NoEscape"], unfollowed := true, recurses := true, named := ["internal/bytealg.MaxLen", "bytes.ErrTooLarge"], apart := false, laid := [("bytes.ErrTooLarge", laid_bytes_ErrTooLarge)] }
def TableEndsSaid : Prop := tableEndsRow.holds Tryd.pinned (OpenSpec.ofChange tableEndsSpec)

/-- ITS FALSE NEIGHBOUR: 'it returns false'. Refute it at one input. -/
def tableEndsWrong : ChangeSpec := { name := "tableEnds", fn := fun _ => fun
  | [d1, d2, d3] => { results := [.lit (.bool false)], args := [d1, d2, d3] }
  | _ => none }
def TableEndsWrongFalsely : Prop := tableEndsRow.holds Tryd.pinned (OpenSpec.ofChange tableEndsWrong)

/-- 'transhumancelaw6.TableLong': WHATEVER THE INPUT: true; the input reads as it did. -/
def tableLongSpec : ChangeSpec := { name := "tableLong", fn := fun _ => fun
  | [d] => { results := [.lit (.bool true)], args := [d] }
  | _ => none }
def tableLongRow : OpenClaim := { program := "ytomabpniflfmmaadoor", sum := "a426ac8c2066684eef8bfadcd8acbeb4c3588346c941e78b8b5408545666bf4d", func := "transhumance/transhumancelaw6.TableLong", spec := "tableLong", inPlace := ["internal/bytealg.CountString", "internal/bytealg.IndexByteString", "internal/bytealg.IndexString", "internal/abi.NoEscape"], unfollowed := true, recurses := true, named := ["internal/bytealg.MaxLen", "bytes.ErrTooLarge"], apart := false, laid := [("bytes.ErrTooLarge", laid_bytes_ErrTooLarge)] }
def TableLongSaid : Prop := tableLongRow.holds Tryd.pinned (OpenSpec.ofChange tableLongSpec)

/-- ITS FALSE NEIGHBOUR: 'it returns false'. Refute it at one input. -/
def tableLongWrong : ChangeSpec := { name := "tableLong", fn := fun _ => fun
  | [d] => { results := [.lit (.bool false)], args := [d] }
  | _ => none }
def TableLongWrongFalsely : Prop := tableLongRow.holds Tryd.pinned (OpenSpec.ofChange tableLongWrong)

/- THE SECOND FORM. 'bulk': how many values and letters a reading holds, each counted each time it is reached (what is shared counts as often as it is met; a slice's spare places count too). A statement '..UptoSaid' is the law's where the arguments, and the package variables that the reading takes, are together of bulk at most 1048576: NARROWER than '..Said'. Prove '..Said' where nothing that the law and all that it calls make is longer than what came in: it says more and counts as full. Else prove '..UptoSaid'. A law counts once. -/
mutual
def uptoBulk {H : Type} : DataW H → Nat
  | .lit (.string bytes) => bytes.length + 1
  | .lit _ => 1
  | .nil => 1
  | .ptr d => uptoBulk d + 1
  | .slice elems spare => uptoBulkAll elems + uptoBulkAll spare + 1
  | .agg parts => uptoBulkAll parts + 1
  | .iface _ d => uptoBulk d + 1
  | .map entries => uptoBulkEntries entries + 1
  | .held _ => 1
def uptoBulkAll {H : Type} : List (DataW H) → Nat
  | [] => 0
  | d :: r => uptoBulk d + uptoBulkAll r
def uptoBulkEntries {H : Type} : List (Lit × DataW H) → Nat
  | [] => 0
  | x :: r => uptoBulkEntry x + uptoBulkEntries r
def uptoBulkEntry {H : Type} : Lit × DataW H → Nat
  | (.string bytes, d) => bytes.length + uptoBulk d + 1
  | (_, d) => uptoBulk d + 1
 end
def uptoSmall : (H : Type) → List (DataW H) → Bool := fun _ ds => decide (uptoBulkAll ds ≤ 1048576)
def OpenSpec.upto (s : _root_.Go.ChangeSpec) : _root_.Go.OpenSpec := { _root_.Go.OpenSpec.ofChange s with cond := some uptoSmall }

/-- 'transhumancelaw6.TableLocks', WHERE WHAT IT READS IS OF BULK AT MOST 1048576: true; the input reads as it did. -/
def tableLocksUptoRow : OpenClaim := { program := "ytomabpniflfmmaadoor", sum := "a426ac8c2066684eef8bfadcd8acbeb4c3588346c941e78b8b5408545666bf4d", func := "transhumance/transhumancelaw6.TableLocks", spec := "tableLocks", inPlace := ["internal/bytealg.CountString", "internal/bytealg.IndexByteString", "internal/bytealg.IndexString", "internal/abi.NoEscape"], unfollowed := true, recurses := true, named := ["internal/bytealg.MaxLen", "bytes.ErrTooLarge"], apart := false, laid := [("bytes.ErrTooLarge", laid_bytes_ErrTooLarge)], narrowed := true }
def TableLocksUptoSaid : Prop := tableLocksUptoRow.holds Tryd.pinned (OpenSpec.upto tableLocksSpec)

/-- 'transhumancelaw6.TableLines', WHERE WHAT IT READS IS OF BULK AT MOST 1048576: true; the input reads as it did. -/
def tableLinesUptoRow : OpenClaim := { program := "ytomabpniflfmmaadoor", sum := "a426ac8c2066684eef8bfadcd8acbeb4c3588346c941e78b8b5408545666bf4d", func := "transhumance/transhumancelaw6.TableLines", spec := "tableLines", inPlace := ["internal/bytealg.CountString", "internal/bytealg.IndexByteString", "internal/bytealg.IndexString", "internal/abi.NoEscape"], unfollowed := true, recurses := true, named := ["internal/bytealg.MaxLen", "bytes.ErrTooLarge"], apart := false, laid := [("bytes.ErrTooLarge", laid_bytes_ErrTooLarge)], narrowed := true }
def TableLinesUptoSaid : Prop := tableLinesUptoRow.holds Tryd.pinned (OpenSpec.upto tableLinesSpec)

/-- 'transhumancelaw6.TableLacks', WHERE WHAT IT READS IS OF BULK AT MOST 1048576: true; the input reads as it did. -/
def tableLacksUptoRow : OpenClaim := { program := "ytomabpniflfmmaadoor", sum := "a426ac8c2066684eef8bfadcd8acbeb4c3588346c941e78b8b5408545666bf4d", func := "transhumance/transhumancelaw6.TableLacks", spec := "tableLacks", inPlace := ["internal/bytealg.CountString", "internal/bytealg.IndexByteString", "internal/bytealg.IndexString", "internal/abi.NoEscape"], unfollowed := true, recurses := true, named := ["internal/bytealg.MaxLen", "bytes.ErrTooLarge"], apart := false, laid := [("bytes.ErrTooLarge", laid_bytes_ErrTooLarge)], narrowed := true }
def TableLacksUptoSaid : Prop := tableLacksUptoRow.holds Tryd.pinned (OpenSpec.upto tableLacksSpec)

/-- 'transhumancelaw6.TableMany', WHERE WHAT IT READS IS OF BULK AT MOST 1048576: true; the input reads as it did. -/
def tableManyUptoRow : OpenClaim := { program := "ytomabpniflfmmaadoor", sum := "a426ac8c2066684eef8bfadcd8acbeb4c3588346c941e78b8b5408545666bf4d", func := "transhumance/transhumancelaw6.TableMany", spec := "tableMany", inPlace := ["internal/bytealg.CountString", "internal/bytealg.IndexByteString", "internal/bytealg.IndexString", "internal/abi.NoEscape"], unfollowed := true, recurses := true, named := ["internal/bytealg.MaxLen", "bytes.ErrTooLarge"], apart := false, laid := [("bytes.ErrTooLarge", laid_bytes_ErrTooLarge)], narrowed := true }
def TableManyUptoSaid : Prop := tableManyUptoRow.holds Tryd.pinned (OpenSpec.upto tableManySpec)

/-- 'transhumancelaw6.TableBad', WHERE WHAT IT READS IS OF BULK AT MOST 1048576: true; the input reads as it did. -/
def tableBadUptoRow : OpenClaim := { program := "ytomabpniflfmmaadoor", sum := "a426ac8c2066684eef8bfadcd8acbeb4c3588346c941e78b8b5408545666bf4d", func := "transhumance/transhumancelaw6.TableBad", spec := "tableBad", inPlace := ["internal/bytealg.CountString", "internal/bytealg.IndexByteString", "internal/bytealg.IndexString", "internal/abi.NoEscape"], unfollowed := true, recurses := true, named := ["internal/bytealg.MaxLen", "bytes.ErrTooLarge"], apart := false, laid := [("bytes.ErrTooLarge", laid_bytes_ErrTooLarge)], narrowed := true }
def TableBadUptoSaid : Prop := tableBadUptoRow.holds Tryd.pinned (OpenSpec.upto tableBadSpec)

/-- 'transhumancelaw6.TableKeys', WHERE WHAT IT READS IS OF BULK AT MOST 1048576: true; the input reads as it did. -/
def tableKeysUptoRow : OpenClaim := { program := "ytomabpniflfmmaadoor", sum := "a426ac8c2066684eef8bfadcd8acbeb4c3588346c941e78b8b5408545666bf4d", func := "transhumance/transhumancelaw6.TableKeys", spec := "tableKeys", inPlace := ["internal/bytealg.CountString", "internal/bytealg.IndexByteString", "internal/bytealg.IndexString", "internal/abi.NoEscape"], unfollowed := true, recurses := true, named := ["internal/bytealg.MaxLen", "bytes.ErrTooLarge"], apart := false, laid := [("bytes.ErrTooLarge", laid_bytes_ErrTooLarge)], narrowed := true }
def TableKeysUptoSaid : Prop := tableKeysUptoRow.holds Tryd.pinned (OpenSpec.upto tableKeysSpec)

/-- 'transhumancelaw6.TablePaths', WHERE WHAT IT READS IS OF BULK AT MOST 1048576: true; the input reads as it did. -/
def tablePathsUptoRow : OpenClaim := { program := "ytomabpniflfmmaadoor", sum := "a426ac8c2066684eef8bfadcd8acbeb4c3588346c941e78b8b5408545666bf4d", func := "transhumance/transhumancelaw6.TablePaths", spec := "tablePaths", inPlace := ["internal/bytealg.CountString", "internal/bytealg.IndexByteString", "internal/bytealg.IndexString", "internal/abi.NoEscape"], unfollowed := true, recurses := true, named := ["internal/bytealg.MaxLen", "bytes.ErrTooLarge"], apart := false, laid := [("bytes.ErrTooLarge", laid_bytes_ErrTooLarge)], narrowed := true }
def TablePathsUptoSaid : Prop := tablePathsUptoRow.holds Tryd.pinned (OpenSpec.upto tablePathsSpec)

/-- 'transhumancelaw6.TableEnds', WHERE WHAT IT READS IS OF BULK AT MOST 1048576: true; the input reads as it did. -/
def tableEndsUptoRow : OpenClaim := { program := "ytomabpniflfmmaadoor", sum := "a426ac8c2066684eef8bfadcd8acbeb4c3588346c941e78b8b5408545666bf4d", func := "transhumance/transhumancelaw6.TableEnds", spec := "tableEnds", inPlace := ["internal/bytealg.CountString", "internal/bytealg.IndexByteString", "internal/bytealg.IndexString", "internal/abi.NoEscape"], unfollowed := true, recurses := true, named := ["internal/bytealg.MaxLen", "bytes.ErrTooLarge"], apart := false, laid := [("bytes.ErrTooLarge", laid_bytes_ErrTooLarge)], narrowed := true }
def TableEndsUptoSaid : Prop := tableEndsUptoRow.holds Tryd.pinned (OpenSpec.upto tableEndsSpec)

/-- 'transhumancelaw6.TableLong', WHERE WHAT IT READS IS OF BULK AT MOST 1048576: true; the input reads as it did. -/
def tableLongUptoRow : OpenClaim := { program := "ytomabpniflfmmaadoor", sum := "a426ac8c2066684eef8bfadcd8acbeb4c3588346c941e78b8b5408545666bf4d", func := "transhumance/transhumancelaw6.TableLong", spec := "tableLong", inPlace := ["internal/bytealg.CountString", "internal/bytealg.IndexByteString", "internal/bytealg.IndexString", "internal/abi.NoEscape"], unfollowed := true, recurses := true, named := ["internal/bytealg.MaxLen", "bytes.ErrTooLarge"], apart := false, laid := [("bytes.ErrTooLarge", laid_bytes_ErrTooLarge)], narrowed := true }
def TableLongUptoSaid : Prop := tableLongUptoRow.holds Tryd.pinned (OpenSpec.upto tableLongSpec)

end Rows
end Go.Proofs.YtomabpniflfmmaaDoor
