/-
  No cell of these rows narrows 'for every input' (looked for: loops, veiled, ifaces, maps, wideKeys, modest, calm, conditions, laid).
  DERIVED. THE GIVEN ROWS OF THIS SEAT. 4 by the template 'for every input the law returns true; each argument reads behind the call as it read before'; 0 by the template 'total and deterministic' (their statements: YtpfhppgklklhcaaTotals.lean).
  GIVEN WITH THE SEED: the statements are not yours to turn. If you find one false, say at which input.
  Laid BY PROGRAM, IN A SANDBOX (cutbox-rows.mjs): the forced cells as the released guide's own fill.sh prints them over the translation f7157a7f087741f7… (all of the seat's roots in one cut). By AI agents, Wed Nov 11 2026. No macro, syntax, notation, axiom, sorry.
-/
import Derived.Test.YtpfhppgklklhcaaChecked
import GoSem.Claim
import GoSem.ClaimJoined
import GoSem.ClaimMapViews
import Derived.JoinedTies
import Derived.KernelRfl
namespace Go.Proofs.Ytpfhppgklklhcaa
/- THE CELL 'sum', in the pinned program and in every row, IS THE sha256 OF THE DUMP (.gsa) THAT YtpfhppgklklhcaaProg.lean LOADS. Nothing in Lean hashes anything: it is a label: what it is worth is what the hold of that sum in a sandbox is worth. -/
noncomputable def Try.pinned : Pinned := { name := "ytpfhppgklklhcaa", sum := "f7157a7f087741f765fe8cce142db7f3931d7226b2096d54ef4c010c62ac760c", checked := Try.checked }
namespace Rows
def none {H : Type} : Left H := { results := [], args := [] }

/-- 'thistlelaw03.FoldUnits': WHATEVER THE INPUT: true; the input reads as it did. -/
def foldUnitsSpec : ChangeSpec := { name := "foldUnits", fn := fun _ => fun
  | [d] => { results := [.lit (.bool true)], args := [d] }
  | _ => none }
def foldUnitsRow : OpenClaim := { program := "ytpfhppgklklhcaa", sum := "f7157a7f087741f765fe8cce142db7f3931d7226b2096d54ef4c010c62ac760c", func := "thistle/thistlelaw03.FoldUnits", spec := "foldUnits", inPlace := ["internal/abi.NoEscape"], recurses := true, apart := false }
def FoldUnitsSaid : Prop := foldUnitsRow.holds Try.pinned (OpenSpec.ofChange foldUnitsSpec)

/-- ITS FALSE NEIGHBOUR: 'it returns false'. Refute it at one input. -/
def foldUnitsWrong : ChangeSpec := { name := "foldUnits", fn := fun _ => fun
  | [d] => { results := [.lit (.bool false)], args := [d] }
  | _ => none }
def FoldUnitsWrongFalsely : Prop := foldUnitsRow.holds Try.pinned (OpenSpec.ofChange foldUnitsWrong)

/-- 'thistlelaw03.FoldRings': WHATEVER THE INPUT: true; the input reads as it did. -/
def foldRingsSpec : ChangeSpec := { name := "foldRings", fn := fun _ => fun
  | [d] => { results := [.lit (.bool true)], args := [d] }
  | _ => none }
def foldRingsRow : OpenClaim := { program := "ytpfhppgklklhcaa", sum := "f7157a7f087741f765fe8cce142db7f3931d7226b2096d54ef4c010c62ac760c", func := "thistle/thistlelaw03.FoldRings", spec := "foldRings", inPlace := ["internal/abi.NoEscape"], recurses := true, apart := false }
def FoldRingsSaid : Prop := foldRingsRow.holds Try.pinned (OpenSpec.ofChange foldRingsSpec)

/-- ITS FALSE NEIGHBOUR: 'it returns false'. Refute it at one input. -/
def foldRingsWrong : ChangeSpec := { name := "foldRings", fn := fun _ => fun
  | [d] => { results := [.lit (.bool false)], args := [d] }
  | _ => none }
def FoldRingsWrongFalsely : Prop := foldRingsRow.holds Try.pinned (OpenSpec.ofChange foldRingsWrong)

/-- 'thistlelaw03.FoldRules': WHATEVER THE INPUT: true; the input reads as it did. -/
def foldRulesSpec : ChangeSpec := { name := "foldRules", fn := fun _ => fun
  | [] => { results := [.lit (.bool true)], args := [] }
  | _ => none }
def foldRulesRow : OpenClaim := { program := "ytpfhppgklklhcaa", sum := "f7157a7f087741f765fe8cce142db7f3931d7226b2096d54ef4c010c62ac760c", func := "thistle/thistlelaw03.FoldRules", spec := "foldRules", inPlace := ["internal/abi.NoEscape"], recurses := true, apart := false }
def FoldRulesSaid : Prop := foldRulesRow.holds Try.pinned (OpenSpec.ofChange foldRulesSpec)

/-- ITS FALSE NEIGHBOUR: 'it returns false'. Refute it at one input. -/
def foldRulesWrong : ChangeSpec := { name := "foldRules", fn := fun _ => fun
  | [] => { results := [.lit (.bool false)], args := [] }
  | _ => none }
def FoldRulesWrongFalsely : Prop := foldRulesRow.holds Try.pinned (OpenSpec.ofChange foldRulesWrong)

/-- 'thistlelaw03.FoldTexts': WHATEVER THE INPUT: true; the input reads as it did. -/
def foldTextsSpec : ChangeSpec := { name := "foldTexts", fn := fun _ => fun
  | [d1, d2] => { results := [.lit (.bool true)], args := [d1, d2] }
  | _ => none }
def foldTextsRow : OpenClaim := { program := "ytpfhppgklklhcaa", sum := "f7157a7f087741f765fe8cce142db7f3931d7226b2096d54ef4c010c62ac760c", func := "thistle/thistlelaw03.FoldTexts", spec := "foldTexts", inPlace := ["internal/abi.NoEscape"], unfollowed := true, recurses := true, apart := false }
def FoldTextsSaid : Prop := foldTextsRow.holds Try.pinned (OpenSpec.ofChange foldTextsSpec)

/-- ITS FALSE NEIGHBOUR: 'it returns false'. Refute it at one input. -/
def foldTextsWrong : ChangeSpec := { name := "foldTexts", fn := fun _ => fun
  | [d1, d2] => { results := [.lit (.bool false)], args := [d1, d2] }
  | _ => none }
def FoldTextsWrongFalsely : Prop := foldTextsRow.holds Try.pinned (OpenSpec.ofChange foldTextsWrong)

/- THE SECOND FORM. 'bulk': how many values and letters a reading holds, each counted each time it is reached (what is shared counts as often as it is met; a slice's spare places count too). A statement '..UptoSaid' is the law's where the arguments, and the package variables that the reading takes, are together of bulk at most 1048576: NARROWER than '..Said'. Prove '..Said' where nothing that the law and all that it calls make is longer than what came in: it says more and counts as full. Else prove '..UptoSaid'. A law counts once. -/
mutual
def uptoBulk {H : Type} : DataW H → Nat
  | .lit (.string bytes) => bytes.length + 1
  | .lit _ => 1
  | .nil => 1
  | .ptr d => uptoBulk d + 1
  | .slice elems spare => uptoBulkAll elems + uptoBulkAll spare + 1
  | .agg parts => uptoBulkAll parts + 1
  | .iface _ d => uptoBulk d + 1
  | .map entries => uptoBulkEntries entries + 1
  | .held _ => 1
def uptoBulkAll {H : Type} : List (DataW H) → Nat
  | [] => 0
  | d :: r => uptoBulk d + uptoBulkAll r
def uptoBulkEntries {H : Type} : List (Lit × DataW H) → Nat
  | [] => 0
  | x :: r => uptoBulkEntry x + uptoBulkEntries r
def uptoBulkEntry {H : Type} : Lit × DataW H → Nat
  | (.string bytes, d) => bytes.length + uptoBulk d + 1
  | (_, d) => uptoBulk d + 1
 end
def uptoSmall : (H : Type) → List (DataW H) → Bool := fun _ ds => decide (uptoBulkAll ds ≤ 1048576)
def OpenSpec.upto (s : _root_.Go.ChangeSpec) : _root_.Go.OpenSpec := { _root_.Go.OpenSpec.ofChange s with cond := some uptoSmall }

/-- 'thistlelaw03.FoldUnits', WHERE WHAT IT READS IS OF BULK AT MOST 1048576: true; the input reads as it did. -/
def foldUnitsUptoRow : OpenClaim := { program := "ytpfhppgklklhcaa", sum := "f7157a7f087741f765fe8cce142db7f3931d7226b2096d54ef4c010c62ac760c", func := "thistle/thistlelaw03.FoldUnits", spec := "foldUnits", inPlace := ["internal/abi.NoEscape"], recurses := true, apart := false, narrowed := true }
def FoldUnitsUptoSaid : Prop := foldUnitsUptoRow.holds Try.pinned (OpenSpec.upto foldUnitsSpec)

/-- 'thistlelaw03.FoldRings', WHERE WHAT IT READS IS OF BULK AT MOST 1048576: true; the input reads as it did. -/
def foldRingsUptoRow : OpenClaim := { program := "ytpfhppgklklhcaa", sum := "f7157a7f087741f765fe8cce142db7f3931d7226b2096d54ef4c010c62ac760c", func := "thistle/thistlelaw03.FoldRings", spec := "foldRings", inPlace := ["internal/abi.NoEscape"], recurses := true, apart := false, narrowed := true }
def FoldRingsUptoSaid : Prop := foldRingsUptoRow.holds Try.pinned (OpenSpec.upto foldRingsSpec)

/-- 'thistlelaw03.FoldRules', WHERE WHAT IT READS IS OF BULK AT MOST 1048576: true; the input reads as it did. -/
def foldRulesUptoRow : OpenClaim := { program := "ytpfhppgklklhcaa", sum := "f7157a7f087741f765fe8cce142db7f3931d7226b2096d54ef4c010c62ac760c", func := "thistle/thistlelaw03.FoldRules", spec := "foldRules", inPlace := ["internal/abi.NoEscape"], recurses := true, apart := false, narrowed := true }
def FoldRulesUptoSaid : Prop := foldRulesUptoRow.holds Try.pinned (OpenSpec.upto foldRulesSpec)

/-- 'thistlelaw03.FoldTexts', WHERE WHAT IT READS IS OF BULK AT MOST 1048576: true; the input reads as it did. -/
def foldTextsUptoRow : OpenClaim := { program := "ytpfhppgklklhcaa", sum := "f7157a7f087741f765fe8cce142db7f3931d7226b2096d54ef4c010c62ac760c", func := "thistle/thistlelaw03.FoldTexts", spec := "foldTexts", inPlace := ["internal/abi.NoEscape"], unfollowed := true, recurses := true, apart := false, narrowed := true }
def FoldTextsUptoSaid : Prop := foldTextsUptoRow.holds Try.pinned (OpenSpec.upto foldTextsSpec)

end Rows
end Go.Proofs.Ytpfhppgklklhcaa
