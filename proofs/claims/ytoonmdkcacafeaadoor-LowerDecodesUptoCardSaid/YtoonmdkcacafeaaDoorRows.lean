/-
  NARROWER THAN 'FOR EVERY INPUT', by the rows' own cells (each row's printed sentence says how): SeqsRising: laid · LowerDecodes: laid · LowerNil: laid · LowerUnits: laid · NamedOf: laid · NamedPlays: laid.
  DERIVED. THE GIVEN ROWS OF THIS SEAT. 6 by the template 'for every input the law returns true; each argument reads behind the call as it read before'; 0 by the template 'total and deterministic' (their statements: YtoonmdkcacafeaaDoorTotals.lean).
  GIVEN WITH THE SEED: the statements are not yours to turn. If you find one false, say at which input.
  Laid BY PROGRAM, IN A SANDBOX (cutbox-rows.mjs): the forced cells as the released guide's own fill.sh prints them over the translation d5e02c2cdd17de66… (all of the seat's roots in one cut). By AI agents, Wed Nov 11 2026. No macro, syntax, notation, axiom, sorry.
-/
import Derived.Test.YtoonmdkcacafeaaDoorChecked
import GoSem.PinnedTables
import GoSem.Claim
import GoSem.ClaimJoined
import GoSem.ClaimMapViews
import Derived.JoinedTies
import Derived.KernelRfl
namespace Go.Proofs.YtoonmdkcacafeaaDoor
/- THE CELL 'sum', in the pinned program and in every row, IS THE sha256 OF THE DUMP (.gsa) THAT YtoonmdkcacafeaaDoorProg.lean LOADS. Nothing in Lean hashes anything: it is a label: what it is worth is what the hold of that sum in a sandbox is worth. -/
noncomputable def Tryd.pinned : Pinned := { name := "ytoonmdkcacafeaadoor", sum := "d5e02c2cdd17de6652585755444918427798db5257ef8215a93bb3ad8b350307", checked := Tryd.checked }
namespace Rows
def none {H : Type} : Left H := { results := [], args := [] }

/- WHAT THE LISTED PACKAGE-LEVEL VARIABLES READ AS WHEN THE CALL BEGINS. Each datum BY PROGRAM (the guide's laid-datum.mjs) off the statement by which the dump's own 'gosem.cut.vars' lays the variable. In a bare row this is a premise. The card (YtoonmdkcacafeaaDoorCards.lean) ties it to the program's text. -/
def laid_thistle_sets_bands {H : Type} : DataW H := .agg [.agg [.lit (.int .i32 0), .lit (.int .i32 55295)], .agg [.lit (.int .i32 57344), .lit (.int .i32 1114111)], .agg [.lit (.int .i32 1114240), .lit (.int .i32 1114367)]]
def laid_thistle_seqs_tops {H : Type} : DataW H := .agg [.lit (.int .i32 127), .lit (.int .i32 2047), .lit (.int .i32 65535), .lit (.int .i32 1114111)]
def laid_thistle_seqs_heads {H : Type} : DataW H := .agg [.lit (.int .i32 0), .lit (.int .i32 192), .lit (.int .i32 224), .lit (.int .i32 240)]
def laid_unicode_utf8_acceptRanges {H : Type} : DataW H := .agg [.agg [.lit (.int .u8 128), .lit (.int .u8 191)], .agg [.lit (.int .u8 160), .lit (.int .u8 191)], .agg [.lit (.int .u8 128), .lit (.int .u8 159)], .agg [.lit (.int .u8 144), .lit (.int .u8 191)], .agg [.lit (.int .u8 128), .lit (.int .u8 143)], .agg [.lit (.int .u8 0), .lit (.int .u8 0)], .agg [.lit (.int .u8 0), .lit (.int .u8 0)], .agg [.lit (.int .u8 0), .lit (.int .u8 0)], .agg [.lit (.int .u8 0), .lit (.int .u8 0)], .agg [.lit (.int .u8 0), .lit (.int .u8 0)], .agg [.lit (.int .u8 0), .lit (.int .u8 0)], .agg [.lit (.int .u8 0), .lit (.int .u8 0)], .agg [.lit (.int .u8 0), .lit (.int .u8 0)], .agg [.lit (.int .u8 0), .lit (.int .u8 0)], .agg [.lit (.int .u8 0), .lit (.int .u8 0)], .agg [.lit (.int .u8 0), .lit (.int .u8 0)]]
/-- One of Go's own tables, pinned by name: the form's constant. -/
def laid_unicode_utf8_first : DataW Unit := Go.Pinned.utf8First

/-- 'thistlelaw05.SeqsRising': WHATEVER THE INPUT: true; the input reads as it did. -/
def seqsRisingSpec : ChangeSpec := { name := "seqsRising", fn := fun _ => fun
  | [d] => { results := [.lit (.bool true)], args := [d] }
  | _ => none }
def seqsRisingRow : OpenClaim := { program := "ytoonmdkcacafeaadoor", sum := "d5e02c2cdd17de6652585755444918427798db5257ef8215a93bb3ad8b350307", func := "thistle/thistlelaw05.SeqsRising", spec := "seqsRising", unfollowed := true, recurses := true, named := ["thistle/seqs.tops", "thistle/seqs.heads", "thistle/sets.bands"], apart := false, laid := [("thistle/sets.bands", laid_thistle_sets_bands), ("thistle/seqs.tops", laid_thistle_seqs_tops), ("thistle/seqs.heads", laid_thistle_seqs_heads)] }
def SeqsRisingSaid : Prop := seqsRisingRow.holds Tryd.pinned (OpenSpec.ofChange seqsRisingSpec)

/-- ITS FALSE NEIGHBOUR: 'it returns false'. Refute it at one input. -/
def seqsRisingWrong : ChangeSpec := { name := "seqsRising", fn := fun _ => fun
  | [d] => { results := [.lit (.bool false)], args := [d] }
  | _ => none }
def SeqsRisingWrongFalsely : Prop := seqsRisingRow.holds Tryd.pinned (OpenSpec.ofChange seqsRisingWrong)

/-- 'thistlelaw16.LowerDecodes': WHATEVER THE INPUT: true; the input reads as it did. -/
def lowerDecodesSpec : ChangeSpec := { name := "lowerDecodes", fn := fun _ => fun
  | [d] => { results := [.lit (.bool true)], args := [d] }
  | _ => none }
def lowerDecodesRow : OpenClaim := { program := "ytoonmdkcacafeaadoor", sum := "d5e02c2cdd17de6652585755444918427798db5257ef8215a93bb3ad8b350307", func := "thistle/thistlelaw16.LowerDecodes", spec := "lowerDecodes", named := ["unicode/utf8.first", "unicode/utf8.acceptRanges"], apart := false, laid := [("unicode/utf8.acceptRanges", laid_unicode_utf8_acceptRanges), ("unicode/utf8.first", laid_unicode_utf8_first)] }
def LowerDecodesSaid : Prop := lowerDecodesRow.holds Tryd.pinned (OpenSpec.ofChange lowerDecodesSpec)

/-- ITS FALSE NEIGHBOUR: 'it returns false'. Refute it at one input. -/
def lowerDecodesWrong : ChangeSpec := { name := "lowerDecodes", fn := fun _ => fun
  | [d] => { results := [.lit (.bool false)], args := [d] }
  | _ => none }
def LowerDecodesWrongFalsely : Prop := lowerDecodesRow.holds Tryd.pinned (OpenSpec.ofChange lowerDecodesWrong)

/-- 'thistlelaw16.LowerNil': WHATEVER THE INPUT: true; the input reads as it did. -/
def lowerNilSpec : ChangeSpec := { name := "lowerNil", fn := fun _ => fun
  | [] => { results := [.lit (.bool true)], args := [] }
  | _ => none }
def lowerNilRow : OpenClaim := { program := "ytoonmdkcacafeaadoor", sum := "d5e02c2cdd17de6652585755444918427798db5257ef8215a93bb3ad8b350307", func := "thistle/thistlelaw16.LowerNil", spec := "lowerNil", named := ["unicode/utf8.first", "unicode/utf8.acceptRanges"], apart := false, laid := [("unicode/utf8.acceptRanges", laid_unicode_utf8_acceptRanges), ("unicode/utf8.first", laid_unicode_utf8_first)] }
def LowerNilSaid : Prop := lowerNilRow.holds Tryd.pinned (OpenSpec.ofChange lowerNilSpec)

/-- ITS FALSE NEIGHBOUR: 'it returns false'. Refute it at one input. -/
def lowerNilWrong : ChangeSpec := { name := "lowerNil", fn := fun _ => fun
  | [] => { results := [.lit (.bool false)], args := [] }
  | _ => none }
def LowerNilWrongFalsely : Prop := lowerNilRow.holds Tryd.pinned (OpenSpec.ofChange lowerNilWrong)

/-- 'thistlelaw16.LowerUnits': WHATEVER THE INPUT: true; the input reads as it did. -/
def lowerUnitsSpec : ChangeSpec := { name := "lowerUnits", fn := fun _ => fun
  | [d1, d2] => { results := [.lit (.bool true)], args := [d1, d2] }
  | _ => none }
def lowerUnitsRow : OpenClaim := { program := "ytoonmdkcacafeaadoor", sum := "d5e02c2cdd17de6652585755444918427798db5257ef8215a93bb3ad8b350307", func := "thistle/thistlelaw16.LowerUnits", spec := "lowerUnits", inPlace := ["internal/abi.NoEscape"], named := ["unicode/utf8.first", "unicode/utf8.acceptRanges"], apart := false, laid := [("unicode/utf8.acceptRanges", laid_unicode_utf8_acceptRanges), ("unicode/utf8.first", laid_unicode_utf8_first)] }
def LowerUnitsSaid : Prop := lowerUnitsRow.holds Tryd.pinned (OpenSpec.ofChange lowerUnitsSpec)

/-- ITS FALSE NEIGHBOUR: 'it returns false'. Refute it at one input. -/
def lowerUnitsWrong : ChangeSpec := { name := "lowerUnits", fn := fun _ => fun
  | [d1, d2] => { results := [.lit (.bool false)], args := [d1, d2] }
  | _ => none }
def LowerUnitsWrongFalsely : Prop := lowerUnitsRow.holds Tryd.pinned (OpenSpec.ofChange lowerUnitsWrong)

/-- 'thistlelaw04.NamedOf': WHATEVER THE INPUT: true; the input reads as it did. -/
def namedOfSpec : ChangeSpec := { name := "namedOf", fn := fun _ => fun
  | [d] => { results := [.lit (.bool true)], args := [d] }
  | _ => none }
def namedOfRow : OpenClaim := { program := "ytoonmdkcacafeaadoor", sum := "d5e02c2cdd17de6652585755444918427798db5257ef8215a93bb3ad8b350307", func := "thistle/thistlelaw04.NamedOf", spec := "namedOf", unfollowed := true, recurses := true, named := ["thistle/sets.bands"], apart := false, laid := [("thistle/sets.bands", laid_thistle_sets_bands)] }
def NamedOfSaid : Prop := namedOfRow.holds Tryd.pinned (OpenSpec.ofChange namedOfSpec)

/-- ITS FALSE NEIGHBOUR: 'it returns false'. Refute it at one input. -/
def namedOfWrong : ChangeSpec := { name := "namedOf", fn := fun _ => fun
  | [d] => { results := [.lit (.bool false)], args := [d] }
  | _ => none }
def NamedOfWrongFalsely : Prop := namedOfRow.holds Tryd.pinned (OpenSpec.ofChange namedOfWrong)

/-- 'thistlelaw04.NamedPlays': WHATEVER THE INPUT: true; the input reads as it did. -/
def namedPlaysSpec : ChangeSpec := { name := "namedPlays", fn := fun _ => fun
  | [d1, d2, d3] => { results := [.lit (.bool true)], args := [d1, d2, d3] }
  | _ => none }
def namedPlaysRow : OpenClaim := { program := "ytoonmdkcacafeaadoor", sum := "d5e02c2cdd17de6652585755444918427798db5257ef8215a93bb3ad8b350307", func := "thistle/thistlelaw04.NamedPlays", spec := "namedPlays", unfollowed := true, recurses := true, named := ["thistle/sets.bands"], apart := false, laid := [("thistle/sets.bands", laid_thistle_sets_bands)] }
def NamedPlaysSaid : Prop := namedPlaysRow.holds Tryd.pinned (OpenSpec.ofChange namedPlaysSpec)

/-- ITS FALSE NEIGHBOUR: 'it returns false'. Refute it at one input. -/
def namedPlaysWrong : ChangeSpec := { name := "namedPlays", fn := fun _ => fun
  | [d1, d2, d3] => { results := [.lit (.bool false)], args := [d1, d2, d3] }
  | _ => none }
def NamedPlaysWrongFalsely : Prop := namedPlaysRow.holds Tryd.pinned (OpenSpec.ofChange namedPlaysWrong)

/- THE SECOND FORM. 'bulk': how many values and letters a reading holds, each counted each time it is reached (what is shared counts as often as it is met; a slice's spare places count too). A statement '..UptoSaid' is the law's where the arguments, and the package variables that the reading takes, are together of bulk at most 1048576: NARROWER than '..Said'. Prove '..Said' where nothing that the law and all that it calls make is longer than what came in: it says more and counts as full. Else prove '..UptoSaid'. A law counts once. -/
mutual
def uptoBulk {H : Type} : DataW H → Nat
  | .lit (.string bytes) => bytes.length + 1
  | .lit _ => 1
  | .nil => 1
  | .ptr d => uptoBulk d + 1
  | .slice elems spare => uptoBulkAll elems + uptoBulkAll spare + 1
  | .agg parts => uptoBulkAll parts + 1
  | .iface _ d => uptoBulk d + 1
  | .map entries => uptoBulkEntries entries + 1
  | .held _ => 1
def uptoBulkAll {H : Type} : List (DataW H) → Nat
  | [] => 0
  | d :: r => uptoBulk d + uptoBulkAll r
def uptoBulkEntries {H : Type} : List (Lit × DataW H) → Nat
  | [] => 0
  | x :: r => uptoBulkEntry x + uptoBulkEntries r
def uptoBulkEntry {H : Type} : Lit × DataW H → Nat
  | (.string bytes, d) => bytes.length + uptoBulk d + 1
  | (_, d) => uptoBulk d + 1
 end
def uptoSmall : (H : Type) → List (DataW H) → Bool := fun _ ds => decide (uptoBulkAll ds ≤ 1048576)
def OpenSpec.upto (s : _root_.Go.ChangeSpec) : _root_.Go.OpenSpec := { _root_.Go.OpenSpec.ofChange s with cond := some uptoSmall }

/-- 'thistlelaw05.SeqsRising', WHERE WHAT IT READS IS OF BULK AT MOST 1048576: true; the input reads as it did. -/
def seqsRisingUptoRow : OpenClaim := { program := "ytoonmdkcacafeaadoor", sum := "d5e02c2cdd17de6652585755444918427798db5257ef8215a93bb3ad8b350307", func := "thistle/thistlelaw05.SeqsRising", spec := "seqsRising", unfollowed := true, recurses := true, named := ["thistle/seqs.tops", "thistle/seqs.heads", "thistle/sets.bands"], apart := false, laid := [("thistle/sets.bands", laid_thistle_sets_bands), ("thistle/seqs.tops", laid_thistle_seqs_tops), ("thistle/seqs.heads", laid_thistle_seqs_heads)], narrowed := true }
def SeqsRisingUptoSaid : Prop := seqsRisingUptoRow.holds Tryd.pinned (OpenSpec.upto seqsRisingSpec)

/-- 'thistlelaw16.LowerDecodes', WHERE WHAT IT READS IS OF BULK AT MOST 1048576: true; the input reads as it did. -/
def lowerDecodesUptoRow : OpenClaim := { program := "ytoonmdkcacafeaadoor", sum := "d5e02c2cdd17de6652585755444918427798db5257ef8215a93bb3ad8b350307", func := "thistle/thistlelaw16.LowerDecodes", spec := "lowerDecodes", named := ["unicode/utf8.first", "unicode/utf8.acceptRanges"], apart := false, laid := [("unicode/utf8.acceptRanges", laid_unicode_utf8_acceptRanges), ("unicode/utf8.first", laid_unicode_utf8_first)], narrowed := true }
def LowerDecodesUptoSaid : Prop := lowerDecodesUptoRow.holds Tryd.pinned (OpenSpec.upto lowerDecodesSpec)

/-- 'thistlelaw16.LowerNil', WHERE WHAT IT READS IS OF BULK AT MOST 1048576: true; the input reads as it did. -/
def lowerNilUptoRow : OpenClaim := { program := "ytoonmdkcacafeaadoor", sum := "d5e02c2cdd17de6652585755444918427798db5257ef8215a93bb3ad8b350307", func := "thistle/thistlelaw16.LowerNil", spec := "lowerNil", named := ["unicode/utf8.first", "unicode/utf8.acceptRanges"], apart := false, laid := [("unicode/utf8.acceptRanges", laid_unicode_utf8_acceptRanges), ("unicode/utf8.first", laid_unicode_utf8_first)], narrowed := true }
def LowerNilUptoSaid : Prop := lowerNilUptoRow.holds Tryd.pinned (OpenSpec.upto lowerNilSpec)

/-- 'thistlelaw16.LowerUnits', WHERE WHAT IT READS IS OF BULK AT MOST 1048576: true; the input reads as it did. -/
def lowerUnitsUptoRow : OpenClaim := { program := "ytoonmdkcacafeaadoor", sum := "d5e02c2cdd17de6652585755444918427798db5257ef8215a93bb3ad8b350307", func := "thistle/thistlelaw16.LowerUnits", spec := "lowerUnits", inPlace := ["internal/abi.NoEscape"], named := ["unicode/utf8.first", "unicode/utf8.acceptRanges"], apart := false, laid := [("unicode/utf8.acceptRanges", laid_unicode_utf8_acceptRanges), ("unicode/utf8.first", laid_unicode_utf8_first)], narrowed := true }
def LowerUnitsUptoSaid : Prop := lowerUnitsUptoRow.holds Tryd.pinned (OpenSpec.upto lowerUnitsSpec)

/-- 'thistlelaw04.NamedOf', WHERE WHAT IT READS IS OF BULK AT MOST 1048576: true; the input reads as it did. -/
def namedOfUptoRow : OpenClaim := { program := "ytoonmdkcacafeaadoor", sum := "d5e02c2cdd17de6652585755444918427798db5257ef8215a93bb3ad8b350307", func := "thistle/thistlelaw04.NamedOf", spec := "namedOf", unfollowed := true, recurses := true, named := ["thistle/sets.bands"], apart := false, laid := [("thistle/sets.bands", laid_thistle_sets_bands)], narrowed := true }
def NamedOfUptoSaid : Prop := namedOfUptoRow.holds Tryd.pinned (OpenSpec.upto namedOfSpec)

/-- 'thistlelaw04.NamedPlays', WHERE WHAT IT READS IS OF BULK AT MOST 1048576: true; the input reads as it did. -/
def namedPlaysUptoRow : OpenClaim := { program := "ytoonmdkcacafeaadoor", sum := "d5e02c2cdd17de6652585755444918427798db5257ef8215a93bb3ad8b350307", func := "thistle/thistlelaw04.NamedPlays", spec := "namedPlays", unfollowed := true, recurses := true, named := ["thistle/sets.bands"], apart := false, laid := [("thistle/sets.bands", laid_thistle_sets_bands)], narrowed := true }
def NamedPlaysUptoSaid : Prop := namedPlaysUptoRow.holds Tryd.pinned (OpenSpec.upto namedPlaysSpec)

end Rows
end Go.Proofs.YtoonmdkcacafeaaDoor
