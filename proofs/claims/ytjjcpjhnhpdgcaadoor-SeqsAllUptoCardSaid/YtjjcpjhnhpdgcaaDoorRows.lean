/-
  NARROWER THAN 'FOR EVERY INPUT', by the rows' own cells (each row's printed sentence says how): SeqsAll: laid · SeqsUnsound: laid.
  DERIVED. THE GIVEN ROWS OF THIS SEAT. 2 by the template 'for every input the law returns true; each argument reads behind the call as it read before'; 0 by the template 'total and deterministic' (their statements: YtjjcpjhnhpdgcaaDoorTotals.lean).
  GIVEN WITH THE SEED: the statements are not yours to turn. If you find one false, say at which input.
  Laid BY PROGRAM, IN A SANDBOX (cutbox-rows.mjs): the forced cells as the released guide's own fill.sh prints them over the translation bd2aea8b325c8fff… (all of the seat's roots in one cut). By AI agents, Wed Nov 11 2026. No macro, syntax, notation, axiom, sorry.
-/
import Derived.Test.YtjjcpjhnhpdgcaaDoorChecked
import GoSem.PinnedTables
import GoSem.Claim
import GoSem.ClaimJoined
import GoSem.ClaimMapViews
import Derived.JoinedTies
import Derived.KernelRfl
namespace Go.Proofs.YtjjcpjhnhpdgcaaDoor
/- THE CELL 'sum', in the pinned program and in every row, IS THE sha256 OF THE DUMP (.gsa) THAT YtjjcpjhnhpdgcaaDoorProg.lean LOADS. Nothing in Lean hashes anything: it is a label: what it is worth is what the hold of that sum in a sandbox is worth. -/
noncomputable def Tryd.pinned : Pinned := { name := "ytjjcpjhnhpdgcaadoor", sum := "bd2aea8b325c8fff4043ad1191e2aecd28ea6c755615a94ada5714e4befc7f14", checked := Tryd.checked }
namespace Rows
def none {H : Type} : Left H := { results := [], args := [] }

/- WHAT THE LISTED PACKAGE-LEVEL VARIABLES READ AS WHEN THE CALL BEGINS. Each datum BY PROGRAM (the guide's laid-datum.mjs) off the statement by which the dump's own 'gosem.cut.vars' lays the variable. In a bare row this is a premise. The card (YtjjcpjhnhpdgcaaDoorCards.lean) ties it to the program's text. -/
def laid_unicode_utf8_acceptRanges {H : Type} : DataW H := .agg [.agg [.lit (.int .u8 128), .lit (.int .u8 191)], .agg [.lit (.int .u8 160), .lit (.int .u8 191)], .agg [.lit (.int .u8 128), .lit (.int .u8 159)], .agg [.lit (.int .u8 144), .lit (.int .u8 191)], .agg [.lit (.int .u8 128), .lit (.int .u8 143)], .agg [.lit (.int .u8 0), .lit (.int .u8 0)], .agg [.lit (.int .u8 0), .lit (.int .u8 0)], .agg [.lit (.int .u8 0), .lit (.int .u8 0)], .agg [.lit (.int .u8 0), .lit (.int .u8 0)], .agg [.lit (.int .u8 0), .lit (.int .u8 0)], .agg [.lit (.int .u8 0), .lit (.int .u8 0)], .agg [.lit (.int .u8 0), .lit (.int .u8 0)], .agg [.lit (.int .u8 0), .lit (.int .u8 0)], .agg [.lit (.int .u8 0), .lit (.int .u8 0)], .agg [.lit (.int .u8 0), .lit (.int .u8 0)], .agg [.lit (.int .u8 0), .lit (.int .u8 0)]]
def laid_thistle_sets_bands {H : Type} : DataW H := .agg [.agg [.lit (.int .i32 0), .lit (.int .i32 55295)], .agg [.lit (.int .i32 57344), .lit (.int .i32 1114111)], .agg [.lit (.int .i32 1114240), .lit (.int .i32 1114367)]]
def laid_thistle_seqs_tops {H : Type} : DataW H := .agg [.lit (.int .i32 127), .lit (.int .i32 2047), .lit (.int .i32 65535), .lit (.int .i32 1114111)]
def laid_thistle_seqs_heads {H : Type} : DataW H := .agg [.lit (.int .i32 0), .lit (.int .i32 192), .lit (.int .i32 224), .lit (.int .i32 240)]
/-- One of Go's own tables, pinned by name: the form's constant. -/
def laid_unicode_utf8_first : DataW Unit := Go.Pinned.utf8First

/-- 'thistlelaw05.SeqsAll': WHATEVER THE INPUT: true; the input reads as it did. -/
def seqsAllSpec : ChangeSpec := { name := "seqsAll", fn := fun _ => fun
  | [d] => { results := [.lit (.bool true)], args := [d] }
  | _ => none }
def seqsAllRow : OpenClaim := { program := "ytjjcpjhnhpdgcaadoor", sum := "bd2aea8b325c8fff4043ad1191e2aecd28ea6c755615a94ada5714e4befc7f14", func := "thistle/thistlelaw05.SeqsAll", spec := "seqsAll", unfollowed := true, recurses := true, named := ["thistle/seqs.tops", "thistle/seqs.heads", "thistle/sets.bands", "unicode/utf8.first", "unicode/utf8.acceptRanges"], apart := false, laid := [("unicode/utf8.acceptRanges", laid_unicode_utf8_acceptRanges), ("thistle/sets.bands", laid_thistle_sets_bands), ("thistle/seqs.tops", laid_thistle_seqs_tops), ("thistle/seqs.heads", laid_thistle_seqs_heads), ("unicode/utf8.first", laid_unicode_utf8_first)] }
def SeqsAllSaid : Prop := seqsAllRow.holds Tryd.pinned (OpenSpec.ofChange seqsAllSpec)

/-- ITS FALSE NEIGHBOUR: 'it returns false'. Refute it at one input. -/
def seqsAllWrong : ChangeSpec := { name := "seqsAll", fn := fun _ => fun
  | [d] => { results := [.lit (.bool false)], args := [d] }
  | _ => none }
def SeqsAllWrongFalsely : Prop := seqsAllRow.holds Tryd.pinned (OpenSpec.ofChange seqsAllWrong)

/-- 'thistlelaw05.SeqsUnsound': WHATEVER THE INPUT: true; the input reads as it did. -/
def seqsUnsoundSpec : ChangeSpec := { name := "seqsUnsound", fn := fun _ => fun
  | [d1, d2, d3] => { results := [.lit (.bool true)], args := [d1, d2, d3] }
  | _ => none }
def seqsUnsoundRow : OpenClaim := { program := "ytjjcpjhnhpdgcaadoor", sum := "bd2aea8b325c8fff4043ad1191e2aecd28ea6c755615a94ada5714e4befc7f14", func := "thistle/thistlelaw05.SeqsUnsound", spec := "seqsUnsound", unfollowed := true, recurses := true, named := ["thistle/seqs.tops", "thistle/seqs.heads", "thistle/sets.bands", "unicode/utf8.first", "unicode/utf8.acceptRanges"], apart := false, laid := [("unicode/utf8.acceptRanges", laid_unicode_utf8_acceptRanges), ("thistle/sets.bands", laid_thistle_sets_bands), ("thistle/seqs.tops", laid_thistle_seqs_tops), ("thistle/seqs.heads", laid_thistle_seqs_heads), ("unicode/utf8.first", laid_unicode_utf8_first)] }
def SeqsUnsoundSaid : Prop := seqsUnsoundRow.holds Tryd.pinned (OpenSpec.ofChange seqsUnsoundSpec)

/-- ITS FALSE NEIGHBOUR: 'it returns false'. Refute it at one input. -/
def seqsUnsoundWrong : ChangeSpec := { name := "seqsUnsound", fn := fun _ => fun
  | [d1, d2, d3] => { results := [.lit (.bool false)], args := [d1, d2, d3] }
  | _ => none }
def SeqsUnsoundWrongFalsely : Prop := seqsUnsoundRow.holds Tryd.pinned (OpenSpec.ofChange seqsUnsoundWrong)

/- THE SECOND FORM. 'bulk': how many values and letters a reading holds, each counted each time it is reached (what is shared counts as often as it is met; a slice's spare places count too). A statement '..UptoSaid' is the law's where the arguments, and the package variables that the reading takes, are together of bulk at most 1048576: NARROWER than '..Said'. Prove '..Said' where nothing that the law and all that it calls make is longer than what came in: it says more and counts as full. Else prove '..UptoSaid'. A law counts once. -/
mutual
def uptoBulk {H : Type} : DataW H → Nat
  | .lit (.string bytes) => bytes.length + 1
  | .lit _ => 1
  | .nil => 1
  | .ptr d => uptoBulk d + 1
  | .slice elems spare => uptoBulkAll elems + uptoBulkAll spare + 1
  | .agg parts => uptoBulkAll parts + 1
  | .iface _ d => uptoBulk d + 1
  | .map entries => uptoBulkEntries entries + 1
  | .held _ => 1
def uptoBulkAll {H : Type} : List (DataW H) → Nat
  | [] => 0
  | d :: r => uptoBulk d + uptoBulkAll r
def uptoBulkEntries {H : Type} : List (Lit × DataW H) → Nat
  | [] => 0
  | x :: r => uptoBulkEntry x + uptoBulkEntries r
def uptoBulkEntry {H : Type} : Lit × DataW H → Nat
  | (.string bytes, d) => bytes.length + uptoBulk d + 1
  | (_, d) => uptoBulk d + 1
 end
def uptoSmall : (H : Type) → List (DataW H) → Bool := fun _ ds => decide (uptoBulkAll ds ≤ 1048576)
def OpenSpec.upto (s : _root_.Go.ChangeSpec) : _root_.Go.OpenSpec := { _root_.Go.OpenSpec.ofChange s with cond := some uptoSmall }

/-- 'thistlelaw05.SeqsAll', WHERE WHAT IT READS IS OF BULK AT MOST 1048576: true; the input reads as it did. -/
def seqsAllUptoRow : OpenClaim := { program := "ytjjcpjhnhpdgcaadoor", sum := "bd2aea8b325c8fff4043ad1191e2aecd28ea6c755615a94ada5714e4befc7f14", func := "thistle/thistlelaw05.SeqsAll", spec := "seqsAll", unfollowed := true, recurses := true, named := ["thistle/seqs.tops", "thistle/seqs.heads", "thistle/sets.bands", "unicode/utf8.first", "unicode/utf8.acceptRanges"], apart := false, laid := [("unicode/utf8.acceptRanges", laid_unicode_utf8_acceptRanges), ("thistle/sets.bands", laid_thistle_sets_bands), ("thistle/seqs.tops", laid_thistle_seqs_tops), ("thistle/seqs.heads", laid_thistle_seqs_heads), ("unicode/utf8.first", laid_unicode_utf8_first)], narrowed := true }
def SeqsAllUptoSaid : Prop := seqsAllUptoRow.holds Tryd.pinned (OpenSpec.upto seqsAllSpec)

/-- 'thistlelaw05.SeqsUnsound', WHERE WHAT IT READS IS OF BULK AT MOST 1048576: true; the input reads as it did. -/
def seqsUnsoundUptoRow : OpenClaim := { program := "ytjjcpjhnhpdgcaadoor", sum := "bd2aea8b325c8fff4043ad1191e2aecd28ea6c755615a94ada5714e4befc7f14", func := "thistle/thistlelaw05.SeqsUnsound", spec := "seqsUnsound", unfollowed := true, recurses := true, named := ["thistle/seqs.tops", "thistle/seqs.heads", "thistle/sets.bands", "unicode/utf8.first", "unicode/utf8.acceptRanges"], apart := false, laid := [("unicode/utf8.acceptRanges", laid_unicode_utf8_acceptRanges), ("thistle/sets.bands", laid_thistle_sets_bands), ("thistle/seqs.tops", laid_thistle_seqs_tops), ("thistle/seqs.heads", laid_thistle_seqs_heads), ("unicode/utf8.first", laid_unicode_utf8_first)], narrowed := true }
def SeqsUnsoundUptoSaid : Prop := seqsUnsoundUptoRow.holds Tryd.pinned (OpenSpec.upto seqsUnsoundSpec)

end Rows
end Go.Proofs.YtjjcpjhnhpdgcaaDoor
