/-
  NARROWER THAN 'FOR EVERY INPUT', by the rows' own cells (each row's printed sentence says how): TableLines: laid · TableBad: laid · TablePaths: laid.
  DERIVED. THE GIVEN ROWS OF THIS SEAT. 3 by the template 'for every input the law returns true; each argument reads behind the call as it read before'; 0 by the template 'total and deterministic' (their statements: YtljfcdfdedkajaaDoorTotals.lean).
  GIVEN WITH THE SEED: the statements are not yours to turn. If you find one false, say at which input.
  Laid BY PROGRAM, IN A SANDBOX (cutbox-rows.mjs): the forced cells as the released guide's own fill.sh prints them over the translation f1e23905f7aefa76… (all of the seat's roots in one cut). By AI agents, Wed Nov 11 2026. No macro, syntax, notation, axiom, sorry.
-/
import Derived.Test.YtljfcdfdedkajaaDoorChecked
import GoSem.Claim
import GoSem.ClaimJoined
import GoSem.ClaimMapViews
import Derived.JoinedTies
import Derived.KernelRfl
namespace Go.Proofs.YtljfcdfdedkajaaDoor
/- THE CELL 'sum', in the pinned program and in every row, IS THE sha256 OF THE DUMP (.gsa) THAT YtljfcdfdedkajaaDoorProg.lean LOADS. Nothing in Lean hashes anything: it is a label: what it is worth is what the hold of that sum in a sandbox is worth. -/
noncomputable def Tryd.pinned : Pinned := { name := "ytljfcdfdedkajaadoor", sum := "f1e23905f7aefa76e8e8b0f268f98a47da987e345dd2b6cd49fa24973326b63e", checked := Tryd.checked }
namespace Rows
def none {H : Type} : Left H := { results := [], args := [] }

/- WHAT THE LISTED PACKAGE-LEVEL VARIABLES READ AS WHEN THE CALL BEGINS. Each datum BY PROGRAM (the guide's laid-datum.mjs) off the statement by which the dump's own 'gosem.cut.vars' lays the variable. In a bare row this is a premise. The card (YtljfcdfdedkajaaDoorCards.lean) ties it to the program's text. -/
def laid_bytes_ErrTooLarge {H : Type} : DataW H := .iface "*errors.errorString" (.ptr (.agg [.lit (.string [98, 121, 116, 101, 115, 46, 66, 117, 102, 102, 101, 114, 58, 32, 116, 111, 111, 32, 108, 97, 114, 103, 101])]))

/-- 'transhumancelaw6.TableLines': WHATEVER THE INPUT: true; the input reads as it did. -/
def tableLinesSpec : ChangeSpec := { name := "tableLines", fn := fun _ => fun
  | [d1, d2, d3, d4] => { results := [.lit (.bool true)], args := [d1, d2, d3, d4] }
  | _ => none }
def tableLinesRow : OpenClaim := { program := "ytljfcdfdedkajaadoor", sum := "f1e23905f7aefa76e8e8b0f268f98a47da987e345dd2b6cd49fa24973326b63e", func := "transhumance/transhumancelaw6.TableLines", spec := "tableLines", inPlace := ["internal/bytealg.CountString", "internal/bytealg.IndexByteString", "internal/bytealg.IndexString", "internal/abi.NoEscape"], unfollowed := true, recurses := true, named := ["internal/bytealg.MaxLen", "bytes.ErrTooLarge"], apart := false, laid := [("bytes.ErrTooLarge", laid_bytes_ErrTooLarge)] }
def TableLinesSaid : Prop := tableLinesRow.holds Tryd.pinned (OpenSpec.ofChange tableLinesSpec)

/-- ITS FALSE NEIGHBOUR: 'it returns false'. Refute it at one input. -/
def tableLinesWrong : ChangeSpec := { name := "tableLines", fn := fun _ => fun
  | [d1, d2, d3, d4] => { results := [.lit (.bool false)], args := [d1, d2, d3, d4] }
  | _ => none }
def TableLinesWrongFalsely : Prop := tableLinesRow.holds Tryd.pinned (OpenSpec.ofChange tableLinesWrong)

/-- 'transhumancelaw6.TableBad': WHATEVER THE INPUT: true; the input reads as it did. -/
def tableBadSpec : ChangeSpec := { name := "tableBad", fn := fun _ => fun
  | [d1, d2, d3, d4] => { results := [.lit (.bool true)], args := [d1, d2, d3, d4] }
  | _ => none }
def tableBadRow : OpenClaim := { program := "ytljfcdfdedkajaadoor", sum := "f1e23905f7aefa76e8e8b0f268f98a47da987e345dd2b6cd49fa24973326b63e", func := "transhumance/transhumancelaw6.TableBad", spec := "tableBad", inPlace := ["internal/bytealg.CountString", "internal/bytealg.IndexByteString", "internal/bytealg.IndexString", "internal/abi.NoEscape"], unfollowed := true, recurses := true, named := ["internal/bytealg.MaxLen", "bytes.ErrTooLarge"], apart := false, laid := [("bytes.ErrTooLarge", laid_bytes_ErrTooLarge)] }
def TableBadSaid : Prop := tableBadRow.holds Tryd.pinned (OpenSpec.ofChange tableBadSpec)

/-- ITS FALSE NEIGHBOUR: 'it returns false'. Refute it at one input. -/
def tableBadWrong : ChangeSpec := { name := "tableBad", fn := fun _ => fun
  | [d1, d2, d3, d4] => { results := [.lit (.bool false)], args := [d1, d2, d3, d4] }
  | _ => none }
def TableBadWrongFalsely : Prop := tableBadRow.holds Tryd.pinned (OpenSpec.ofChange tableBadWrong)

/-- 'transhumancelaw6.TablePaths': WHATEVER THE INPUT: true; the input reads as it did. -/
def tablePathsSpec : ChangeSpec := { name := "tablePaths", fn := fun _ => fun
  | [d1, d2, d3] => { results := [.lit (.bool true)], args := [d1, d2, d3] }
  | _ => none }
def tablePathsRow : OpenClaim := { program := "ytljfcdfdedkajaadoor", sum := "f1e23905f7aefa76e8e8b0f268f98a47da987e345dd2b6cd49fa24973326b63e", func := "transhumance/transhumancelaw6.TablePaths", spec := "tablePaths", inPlace := ["internal/bytealg.CountString", "internal/bytealg.IndexByteString", "internal/bytealg.IndexString", "internal/abi.NoEscape"], unfollowed := true, recurses := true, named := ["internal/bytealg.MaxLen", "bytes.ErrTooLarge"], apart := false, laid := [("bytes.ErrTooLarge", laid_bytes_ErrTooLarge)] }
def TablePathsSaid : Prop := tablePathsRow.holds Tryd.pinned (OpenSpec.ofChange tablePathsSpec)

/-- ITS FALSE NEIGHBOUR: 'it returns false'. Refute it at one input. -/
def tablePathsWrong : ChangeSpec := { name := "tablePaths", fn := fun _ => fun
  | [d1, d2, d3] => { results := [.lit (.bool false)], args := [d1, d2, d3] }
  | _ => none }
def TablePathsWrongFalsely : Prop := tablePathsRow.holds Tryd.pinned (OpenSpec.ofChange tablePathsWrong)

/- THE SECOND FORM. 'bulk': how many values and letters a reading holds, each counted each time it is reached (what is shared counts as often as it is met; a slice's spare places count too). A statement '..UptoSaid' is the law's where the arguments, and the package variables that the reading takes, are together of bulk at most 1048576: NARROWER than '..Said'. Prove '..Said' where nothing that the law and all that it calls make is longer than what came in: it says more and counts as full. Else prove '..UptoSaid'. A law counts once. -/
mutual
def uptoBulk {H : Type} : DataW H → Nat
  | .lit (.string bytes) => bytes.length + 1
  | .lit _ => 1
  | .nil => 1
  | .ptr d => uptoBulk d + 1
  | .slice elems spare => uptoBulkAll elems + uptoBulkAll spare + 1
  | .agg parts => uptoBulkAll parts + 1
  | .iface _ d => uptoBulk d + 1
  | .map entries => uptoBulkEntries entries + 1
  | .held _ => 1
def uptoBulkAll {H : Type} : List (DataW H) → Nat
  | [] => 0
  | d :: r => uptoBulk d + uptoBulkAll r
def uptoBulkEntries {H : Type} : List (Lit × DataW H) → Nat
  | [] => 0
  | x :: r => uptoBulkEntry x + uptoBulkEntries r
def uptoBulkEntry {H : Type} : Lit × DataW H → Nat
  | (.string bytes, d) => bytes.length + uptoBulk d + 1
  | (_, d) => uptoBulk d + 1
 end
def uptoSmall : (H : Type) → List (DataW H) → Bool := fun _ ds => decide (uptoBulkAll ds ≤ 1048576)
def OpenSpec.upto (s : _root_.Go.ChangeSpec) : _root_.Go.OpenSpec := { _root_.Go.OpenSpec.ofChange s with cond := some uptoSmall }

/-- 'transhumancelaw6.TableLines', WHERE WHAT IT READS IS OF BULK AT MOST 1048576: true; the input reads as it did. -/
def tableLinesUptoRow : OpenClaim := { program := "ytljfcdfdedkajaadoor", sum := "f1e23905f7aefa76e8e8b0f268f98a47da987e345dd2b6cd49fa24973326b63e", func := "transhumance/transhumancelaw6.TableLines", spec := "tableLines", inPlace := ["internal/bytealg.CountString", "internal/bytealg.IndexByteString", "internal/bytealg.IndexString", "internal/abi.NoEscape"], unfollowed := true, recurses := true, named := ["internal/bytealg.MaxLen", "bytes.ErrTooLarge"], apart := false, laid := [("bytes.ErrTooLarge", laid_bytes_ErrTooLarge)], narrowed := true }
def TableLinesUptoSaid : Prop := tableLinesUptoRow.holds Tryd.pinned (OpenSpec.upto tableLinesSpec)

/-- 'transhumancelaw6.TableBad', WHERE WHAT IT READS IS OF BULK AT MOST 1048576: true; the input reads as it did. -/
def tableBadUptoRow : OpenClaim := { program := "ytljfcdfdedkajaadoor", sum := "f1e23905f7aefa76e8e8b0f268f98a47da987e345dd2b6cd49fa24973326b63e", func := "transhumance/transhumancelaw6.TableBad", spec := "tableBad", inPlace := ["internal/bytealg.CountString", "internal/bytealg.IndexByteString", "internal/bytealg.IndexString", "internal/abi.NoEscape"], unfollowed := true, recurses := true, named := ["internal/bytealg.MaxLen", "bytes.ErrTooLarge"], apart := false, laid := [("bytes.ErrTooLarge", laid_bytes_ErrTooLarge)], narrowed := true }
def TableBadUptoSaid : Prop := tableBadUptoRow.holds Tryd.pinned (OpenSpec.upto tableBadSpec)

/-- 'transhumancelaw6.TablePaths', WHERE WHAT IT READS IS OF BULK AT MOST 1048576: true; the input reads as it did. -/
def tablePathsUptoRow : OpenClaim := { program := "ytljfcdfdedkajaadoor", sum := "f1e23905f7aefa76e8e8b0f268f98a47da987e345dd2b6cd49fa24973326b63e", func := "transhumance/transhumancelaw6.TablePaths", spec := "tablePaths", inPlace := ["internal/bytealg.CountString", "internal/bytealg.IndexByteString", "internal/bytealg.IndexString", "internal/abi.NoEscape"], unfollowed := true, recurses := true, named := ["internal/bytealg.MaxLen", "bytes.ErrTooLarge"], apart := false, laid := [("bytes.ErrTooLarge", laid_bytes_ErrTooLarge)], narrowed := true }
def TablePathsUptoSaid : Prop := tablePathsUptoRow.holds Tryd.pinned (OpenSpec.upto tablePathsSpec)

end Rows
end Go.Proofs.YtljfcdfdedkajaaDoor
