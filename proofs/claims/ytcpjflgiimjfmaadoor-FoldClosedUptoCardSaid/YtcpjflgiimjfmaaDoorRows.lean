/-
  NARROWER THAN 'FOR EVERY INPUT', by the rows' own cells (each row's printed sentence says how): FoldSets: laid · FoldClosed: laid.
  DERIVED. THE GIVEN ROWS OF THIS SEAT. 2 by the template 'for every input the law returns true; each argument reads behind the call as it read before'; 0 by the template 'total and deterministic' (their statements: YtcpjflgiimjfmaaDoorTotals.lean).
  GIVEN WITH THE SEED: the statements are not yours to turn. If you find one false, say at which input.
  Laid BY PROGRAM, IN A SANDBOX (cutbox-rows.mjs): the forced cells as the released guide's own fill.sh prints them over the translation d74d710f51c0106c… (all of the seat's roots in one cut). By AI agents, Wed Nov 11 2026. No macro, syntax, notation, axiom, sorry.
-/
import Derived.Test.YtcpjflgiimjfmaaDoorChecked
import GoSem.Claim
import GoSem.ClaimJoined
import GoSem.ClaimMapViews
import Derived.JoinedTies
import Derived.KernelRfl
namespace Go.Proofs.YtcpjflgiimjfmaaDoor
/- THE CELL 'sum', in the pinned program and in every row, IS THE sha256 OF THE DUMP (.gsa) THAT YtcpjflgiimjfmaaDoorProg.lean LOADS. Nothing in Lean hashes anything: it is a label: what it is worth is what the hold of that sum in a sandbox is worth. -/
noncomputable def Tryd.pinned : Pinned := { name := "ytcpjflgiimjfmaadoor", sum := "d74d710f51c0106c9fc90c2f34d64aacf86ae5308ba8268f5f5f22da5d0d2c48", checked := Tryd.checked }
namespace Rows
def none {H : Type} : Left H := { results := [], args := [] }

/- WHAT THE LISTED PACKAGE-LEVEL VARIABLES READ AS WHEN THE CALL BEGINS. Each datum BY PROGRAM (the guide's laid-datum.mjs) off the statement by which the dump's own 'gosem.cut.vars' lays the variable. In a bare row this is a premise. The card (YtcpjflgiimjfmaaDoorCards.lean) ties it to the program's text. -/
def laid_thistle_sets_bands {H : Type} : DataW H := .agg [.agg [.lit (.int .i32 0), .lit (.int .i32 55295)], .agg [.lit (.int .i32 57344), .lit (.int .i32 1114111)], .agg [.lit (.int .i32 1114240), .lit (.int .i32 1114367)]]

/-- 'thistlelaw03.FoldSets': WHATEVER THE INPUT: true; the input reads as it did. -/
def foldSetsSpec : ChangeSpec := { name := "foldSets", fn := fun _ => fun
  | [d] => { results := [.lit (.bool true)], args := [d] }
  | _ => none }
def foldSetsRow : OpenClaim := { program := "ytcpjflgiimjfmaadoor", sum := "d74d710f51c0106c9fc90c2f34d64aacf86ae5308ba8268f5f5f22da5d0d2c48", func := "thistle/thistlelaw03.FoldSets", spec := "foldSets", inPlace := ["internal/abi.NoEscape"], unfollowed := true, recurses := true, named := ["thistle/sets.bands"], apart := false, laid := [("thistle/sets.bands", laid_thistle_sets_bands)] }
def FoldSetsSaid : Prop := foldSetsRow.holds Tryd.pinned (OpenSpec.ofChange foldSetsSpec)

/-- ITS FALSE NEIGHBOUR: 'it returns false'. Refute it at one input. -/
def foldSetsWrong : ChangeSpec := { name := "foldSets", fn := fun _ => fun
  | [d] => { results := [.lit (.bool false)], args := [d] }
  | _ => none }
def FoldSetsWrongFalsely : Prop := foldSetsRow.holds Tryd.pinned (OpenSpec.ofChange foldSetsWrong)

/-- 'thistlelaw03.FoldClosed': WHATEVER THE INPUT: true; the input reads as it did. -/
def foldClosedSpec : ChangeSpec := { name := "foldClosed", fn := fun _ => fun
  | [d1, d2, d3] => { results := [.lit (.bool true)], args := [d1, d2, d3] }
  | _ => none }
def foldClosedRow : OpenClaim := { program := "ytcpjflgiimjfmaadoor", sum := "d74d710f51c0106c9fc90c2f34d64aacf86ae5308ba8268f5f5f22da5d0d2c48", func := "thistle/thistlelaw03.FoldClosed", spec := "foldClosed", inPlace := ["internal/abi.NoEscape"], unfollowed := true, recurses := true, named := ["thistle/sets.bands"], apart := false, laid := [("thistle/sets.bands", laid_thistle_sets_bands)] }
def FoldClosedSaid : Prop := foldClosedRow.holds Tryd.pinned (OpenSpec.ofChange foldClosedSpec)

/-- ITS FALSE NEIGHBOUR: 'it returns false'. Refute it at one input. -/
def foldClosedWrong : ChangeSpec := { name := "foldClosed", fn := fun _ => fun
  | [d1, d2, d3] => { results := [.lit (.bool false)], args := [d1, d2, d3] }
  | _ => none }
def FoldClosedWrongFalsely : Prop := foldClosedRow.holds Tryd.pinned (OpenSpec.ofChange foldClosedWrong)

/- THE SECOND FORM. 'bulk': how many values and letters a reading holds, each counted each time it is reached (what is shared counts as often as it is met; a slice's spare places count too). A statement '..UptoSaid' is the law's where the arguments, and the package variables that the reading takes, are together of bulk at most 1048576: NARROWER than '..Said'. Prove '..Said' where nothing that the law and all that it calls make is longer than what came in: it says more and counts as full. Else prove '..UptoSaid'. A law counts once. -/
mutual
def uptoBulk {H : Type} : DataW H → Nat
  | .lit (.string bytes) => bytes.length + 1
  | .lit _ => 1
  | .nil => 1
  | .ptr d => uptoBulk d + 1
  | .slice elems spare => uptoBulkAll elems + uptoBulkAll spare + 1
  | .agg parts => uptoBulkAll parts + 1
  | .iface _ d => uptoBulk d + 1
  | .map entries => uptoBulkEntries entries + 1
  | .held _ => 1
def uptoBulkAll {H : Type} : List (DataW H) → Nat
  | [] => 0
  | d :: r => uptoBulk d + uptoBulkAll r
def uptoBulkEntries {H : Type} : List (Lit × DataW H) → Nat
  | [] => 0
  | x :: r => uptoBulkEntry x + uptoBulkEntries r
def uptoBulkEntry {H : Type} : Lit × DataW H → Nat
  | (.string bytes, d) => bytes.length + uptoBulk d + 1
  | (_, d) => uptoBulk d + 1
 end
def uptoSmall : (H : Type) → List (DataW H) → Bool := fun _ ds => decide (uptoBulkAll ds ≤ 1048576)
def OpenSpec.upto (s : _root_.Go.ChangeSpec) : _root_.Go.OpenSpec := { _root_.Go.OpenSpec.ofChange s with cond := some uptoSmall }

/-- 'thistlelaw03.FoldSets', WHERE WHAT IT READS IS OF BULK AT MOST 1048576: true; the input reads as it did. -/
def foldSetsUptoRow : OpenClaim := { program := "ytcpjflgiimjfmaadoor", sum := "d74d710f51c0106c9fc90c2f34d64aacf86ae5308ba8268f5f5f22da5d0d2c48", func := "thistle/thistlelaw03.FoldSets", spec := "foldSets", inPlace := ["internal/abi.NoEscape"], unfollowed := true, recurses := true, named := ["thistle/sets.bands"], apart := false, laid := [("thistle/sets.bands", laid_thistle_sets_bands)], narrowed := true }
def FoldSetsUptoSaid : Prop := foldSetsUptoRow.holds Tryd.pinned (OpenSpec.upto foldSetsSpec)

/-- 'thistlelaw03.FoldClosed', WHERE WHAT IT READS IS OF BULK AT MOST 1048576: true; the input reads as it did. -/
def foldClosedUptoRow : OpenClaim := { program := "ytcpjflgiimjfmaadoor", sum := "d74d710f51c0106c9fc90c2f34d64aacf86ae5308ba8268f5f5f22da5d0d2c48", func := "thistle/thistlelaw03.FoldClosed", spec := "foldClosed", inPlace := ["internal/abi.NoEscape"], unfollowed := true, recurses := true, named := ["thistle/sets.bands"], apart := false, laid := [("thistle/sets.bands", laid_thistle_sets_bands)], narrowed := true }
def FoldClosedUptoSaid : Prop := foldClosedUptoRow.holds Tryd.pinned (OpenSpec.upto foldClosedSpec)

end Rows
end Go.Proofs.YtcpjflgiimjfmaaDoor
