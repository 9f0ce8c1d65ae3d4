/-
  NARROWER THAN 'FOR EVERY INPUT', by the rows' own cells (each row's printed sentence says how): NormBack: laid · BackLarge: laid · BackBorders: laid · LoadSames: laid · NormWays: laid · NamedKeeps: laid · PikeNil: laid.
  DERIVED. THE GIVEN ROWS OF THIS SEAT. 7 by the template 'for every input the law returns true; each argument reads behind the call as it read before'; 0 by the template 'total and deterministic' (their statements: YtpobhkniekcciaaDoorTotals.lean).
  GIVEN WITH THE SEED: the statements are not yours to turn. If you find one false, say at which input.
  Laid BY PROGRAM, IN A SANDBOX (cutbox-rows.mjs): the forced cells as the released guide's own fill.sh prints them over the translation 472550b587010bce… (all of the seat's roots in one cut). By AI agents, Wed Nov 11 2026. No macro, syntax, notation, axiom, sorry.
-/
import Derived.Test.YtpobhkniekcciaaDoorChecked
import GoSem.PinnedTables
import GoSem.Claim
import GoSem.ClaimJoined
import GoSem.ClaimMapViews
import Derived.JoinedTies
import Derived.KernelRfl
namespace Go.Proofs.YtpobhkniekcciaaDoor
/- THE CELL 'sum', in the pinned program and in every row, IS THE sha256 OF THE DUMP (.gsa) THAT YtpobhkniekcciaaDoorProg.lean LOADS. Nothing in Lean hashes anything: it is a label: what it is worth is what the hold of that sum in a sandbox is worth. -/
noncomputable def Tryd.pinned : Pinned := { name := "ytpobhkniekcciaadoor", sum := "472550b587010bce9c867eeb3e36eb439baecb36b0d29dc7f5a524883e49d233", checked := Tryd.checked }
namespace Rows
def none {H : Type} : Left H := { results := [], args := [] }

/- WHAT THE LISTED PACKAGE-LEVEL VARIABLES READ AS WHEN THE CALL BEGINS. Each datum BY PROGRAM (the guide's laid-datum.mjs) off the statement by which the dump's own 'gosem.cut.vars' lays the variable. In a bare row this is a premise. The card (YtpobhkniekcciaaDoorCards.lean) ties it to the program's text. -/
def laid_thistle_sets_bands {H : Type} : DataW H := .agg [.agg [.lit (.int .i32 0), .lit (.int .i32 55295)], .agg [.lit (.int .i32 57344), .lit (.int .i32 1114111)], .agg [.lit (.int .i32 1114240), .lit (.int .i32 1114367)]]
def laid_unicode_utf8_acceptRanges {H : Type} : DataW H := .agg [.agg [.lit (.int .u8 128), .lit (.int .u8 191)], .agg [.lit (.int .u8 160), .lit (.int .u8 191)], .agg [.lit (.int .u8 128), .lit (.int .u8 159)], .agg [.lit (.int .u8 144), .lit (.int .u8 191)], .agg [.lit (.int .u8 128), .lit (.int .u8 143)], .agg [.lit (.int .u8 0), .lit (.int .u8 0)], .agg [.lit (.int .u8 0), .lit (.int .u8 0)], .agg [.lit (.int .u8 0), .lit (.int .u8 0)], .agg [.lit (.int .u8 0), .lit (.int .u8 0)], .agg [.lit (.int .u8 0), .lit (.int .u8 0)], .agg [.lit (.int .u8 0), .lit (.int .u8 0)], .agg [.lit (.int .u8 0), .lit (.int .u8 0)], .agg [.lit (.int .u8 0), .lit (.int .u8 0)], .agg [.lit (.int .u8 0), .lit (.int .u8 0)], .agg [.lit (.int .u8 0), .lit (.int .u8 0)], .agg [.lit (.int .u8 0), .lit (.int .u8 0)]]
/-- One of Go's own tables, pinned by name: the form's constant. -/
def laid_unicode_utf8_first : DataW Unit := Go.Pinned.utf8First
def laid_math_bits_deBruijn32tab {H : Type} : DataW H := .agg [.lit (.int .u8 0), .lit (.int .u8 1), .lit (.int .u8 28), .lit (.int .u8 2), .lit (.int .u8 29), .lit (.int .u8 14), .lit (.int .u8 24), .lit (.int .u8 3), .lit (.int .u8 30), .lit (.int .u8 22), .lit (.int .u8 20), .lit (.int .u8 15), .lit (.int .u8 25), .lit (.int .u8 17), .lit (.int .u8 4), .lit (.int .u8 8), .lit (.int .u8 31), .lit (.int .u8 27), .lit (.int .u8 13), .lit (.int .u8 23), .lit (.int .u8 21), .lit (.int .u8 19), .lit (.int .u8 16), .lit (.int .u8 7), .lit (.int .u8 26), .lit (.int .u8 12), .lit (.int .u8 18), .lit (.int .u8 6), .lit (.int .u8 11), .lit (.int .u8 5), .lit (.int .u8 10), .lit (.int .u8 9)]
def laid_math_bits_deBruijn64tab {H : Type} : DataW H := .agg [.lit (.int .u8 0), .lit (.int .u8 1), .lit (.int .u8 56), .lit (.int .u8 2), .lit (.int .u8 57), .lit (.int .u8 49), .lit (.int .u8 28), .lit (.int .u8 3), .lit (.int .u8 61), .lit (.int .u8 58), .lit (.int .u8 42), .lit (.int .u8 50), .lit (.int .u8 38), .lit (.int .u8 29), .lit (.int .u8 17), .lit (.int .u8 4), .lit (.int .u8 62), .lit (.int .u8 47), .lit (.int .u8 59), .lit (.int .u8 36), .lit (.int .u8 45), .lit (.int .u8 43), .lit (.int .u8 51), .lit (.int .u8 22), .lit (.int .u8 53), .lit (.int .u8 39), .lit (.int .u8 33), .lit (.int .u8 30), .lit (.int .u8 24), .lit (.int .u8 18), .lit (.int .u8 12), .lit (.int .u8 5), .lit (.int .u8 63), .lit (.int .u8 55), .lit (.int .u8 48), .lit (.int .u8 27), .lit (.int .u8 60), .lit (.int .u8 41), .lit (.int .u8 37), .lit (.int .u8 16), .lit (.int .u8 46), .lit (.int .u8 35), .lit (.int .u8 44), .lit (.int .u8 21), .lit (.int .u8 52), .lit (.int .u8 32), .lit (.int .u8 23), .lit (.int .u8 11), .lit (.int .u8 54), .lit (.int .u8 26), .lit (.int .u8 40), .lit (.int .u8 15), .lit (.int .u8 34), .lit (.int .u8 20), .lit (.int .u8 31), .lit (.int .u8 10), .lit (.int .u8 25), .lit (.int .u8 14), .lit (.int .u8 19), .lit (.int .u8 9), .lit (.int .u8 13), .lit (.int .u8 8), .lit (.int .u8 7), .lit (.int .u8 6)]
def laid_internal_strconv_uint64pow10 {H : Type} : DataW H := .agg [.lit (.int .u64 1), .lit (.int .u64 10), .lit (.int .u64 100), .lit (.int .u64 1000), .lit (.int .u64 10000), .lit (.int .u64 100000), .lit (.int .u64 1000000), .lit (.int .u64 10000000), .lit (.int .u64 100000000), .lit (.int .u64 1000000000), .lit (.int .u64 10000000000), .lit (.int .u64 100000000000), .lit (.int .u64 1000000000000), .lit (.int .u64 10000000000000), .lit (.int .u64 100000000000000), .lit (.int .u64 1000000000000000), .lit (.int .u64 10000000000000000), .lit (.int .u64 100000000000000000), .lit (.int .u64 1000000000000000000), .lit (.int .u64 10000000000000000000)]

/-- 'thistlelaw09.NormBack': WHATEVER THE INPUT: true; the input reads as it did. -/
def normBackSpec : ChangeSpec := { name := "normBack", fn := fun _ => fun
  | [d] => { results := [.lit (.bool true)], args := [d] }
  | _ => none }
def normBackRow : OpenClaim := { program := "ytpobhkniekcciaadoor", sum := "472550b587010bce9c867eeb3e36eb439baecb36b0d29dc7f5a524883e49d233", func := "thistle/thistlelaw09.NormBack", spec := "normBack", unfollowed := true, recurses := true, named := ["thistle/sets.bands"], apart := false, laid := [("thistle/sets.bands", laid_thistle_sets_bands)] }
def NormBackSaid : Prop := normBackRow.holds Tryd.pinned (OpenSpec.ofChange normBackSpec)

/-- ITS FALSE NEIGHBOUR: 'it returns false'. Refute it at one input. -/
def normBackWrong : ChangeSpec := { name := "normBack", fn := fun _ => fun
  | [d] => { results := [.lit (.bool false)], args := [d] }
  | _ => none }
def NormBackWrongFalsely : Prop := normBackRow.holds Tryd.pinned (OpenSpec.ofChange normBackWrong)

/-- 'thistlelaw14.BackLarge': WHATEVER THE INPUT: true; the input reads as it did. -/
def backLargeSpec : ChangeSpec := { name := "backLarge", fn := fun _ => fun
  | [d] => { results := [.lit (.bool true)], args := [d] }
  | _ => none }
def backLargeRow : OpenClaim := { program := "ytpobhkniekcciaadoor", sum := "472550b587010bce9c867eeb3e36eb439baecb36b0d29dc7f5a524883e49d233", func := "thistle/thistlelaw14.BackLarge", spec := "backLarge", unfollowed := true, recurses := true, named := ["thistle/sets.bands", "unicode/utf8.first", "unicode/utf8.acceptRanges"], apart := false, laid := [("unicode/utf8.acceptRanges", laid_unicode_utf8_acceptRanges), ("thistle/sets.bands", laid_thistle_sets_bands), ("unicode/utf8.first", laid_unicode_utf8_first)] }
def BackLargeSaid : Prop := backLargeRow.holds Tryd.pinned (OpenSpec.ofChange backLargeSpec)

/-- ITS FALSE NEIGHBOUR: 'it returns false'. Refute it at one input. -/
def backLargeWrong : ChangeSpec := { name := "backLarge", fn := fun _ => fun
  | [d] => { results := [.lit (.bool false)], args := [d] }
  | _ => none }
def BackLargeWrongFalsely : Prop := backLargeRow.holds Tryd.pinned (OpenSpec.ofChange backLargeWrong)

/-- 'thistlelaw14.BackBorders': WHATEVER THE INPUT: true; the input reads as it did. -/
def backBordersSpec : ChangeSpec := { name := "backBorders", fn := fun _ => fun
  | [d1, d2, d3] => { results := [.lit (.bool true)], args := [d1, d2, d3] }
  | _ => none }
def backBordersRow : OpenClaim := { program := "ytpobhkniekcciaadoor", sum := "472550b587010bce9c867eeb3e36eb439baecb36b0d29dc7f5a524883e49d233", func := "thistle/thistlelaw14.BackBorders", spec := "backBorders", unfollowed := true, recurses := true, named := ["thistle/sets.bands", "unicode/utf8.first", "unicode/utf8.acceptRanges"], apart := false, laid := [("unicode/utf8.acceptRanges", laid_unicode_utf8_acceptRanges), ("thistle/sets.bands", laid_thistle_sets_bands), ("unicode/utf8.first", laid_unicode_utf8_first)] }
def BackBordersSaid : Prop := backBordersRow.holds Tryd.pinned (OpenSpec.ofChange backBordersSpec)

/-- ITS FALSE NEIGHBOUR: 'it returns false'. Refute it at one input. -/
def backBordersWrong : ChangeSpec := { name := "backBorders", fn := fun _ => fun
  | [d1, d2, d3] => { results := [.lit (.bool false)], args := [d1, d2, d3] }
  | _ => none }
def BackBordersWrongFalsely : Prop := backBordersRow.holds Tryd.pinned (OpenSpec.ofChange backBordersWrong)

/-- 'thistlelaw13.LoadSames': WHATEVER THE INPUT: true; the input reads as it did. -/
def loadSamesSpec : ChangeSpec := { name := "loadSames", fn := fun _ => fun
  | [d1, d2] => { results := [.lit (.bool true)], args := [d1, d2] }
  | _ => none }
def loadSamesRow : OpenClaim := { program := "ytpobhkniekcciaadoor", sum := "472550b587010bce9c867eeb3e36eb439baecb36b0d29dc7f5a524883e49d233", func := "thistle/thistlelaw13.LoadSames", spec := "loadSames", inPlace := ["internal/abi.NoEscape", "internal/bytealg.MakeNoZero"], unfollowed := true, recurses := true, named := ["thistle/sets.bands", "internal/strconv.uint64pow10", "math/bits.deBruijn32tab", "math/bits.deBruijn64tab"], apart := false, laid := [("math/bits.deBruijn32tab", laid_math_bits_deBruijn32tab), ("math/bits.deBruijn64tab", laid_math_bits_deBruijn64tab), ("internal/strconv.uint64pow10", laid_internal_strconv_uint64pow10), ("thistle/sets.bands", laid_thistle_sets_bands)] }
def LoadSamesSaid : Prop := loadSamesRow.holds Tryd.pinned (OpenSpec.ofChange loadSamesSpec)

/-- ITS FALSE NEIGHBOUR: 'it returns false'. Refute it at one input. -/
def loadSamesWrong : ChangeSpec := { name := "loadSames", fn := fun _ => fun
  | [d1, d2] => { results := [.lit (.bool false)], args := [d1, d2] }
  | _ => none }
def LoadSamesWrongFalsely : Prop := loadSamesRow.holds Tryd.pinned (OpenSpec.ofChange loadSamesWrong)

/-- 'thistlelaw09.NormWays': WHATEVER THE INPUT: true; the input reads as it did. -/
def normWaysSpec : ChangeSpec := { name := "normWays", fn := fun _ => fun
  | [d1, d2, d3] => { results := [.lit (.bool true)], args := [d1, d2, d3] }
  | _ => none }
def normWaysRow : OpenClaim := { program := "ytpobhkniekcciaadoor", sum := "472550b587010bce9c867eeb3e36eb439baecb36b0d29dc7f5a524883e49d233", func := "thistle/thistlelaw09.NormWays", spec := "normWays", unfollowed := true, recurses := true, named := ["thistle/sets.bands", "unicode/utf8.first", "unicode/utf8.acceptRanges"], apart := false, laid := [("unicode/utf8.acceptRanges", laid_unicode_utf8_acceptRanges), ("thistle/sets.bands", laid_thistle_sets_bands), ("unicode/utf8.first", laid_unicode_utf8_first)] }
def NormWaysSaid : Prop := normWaysRow.holds Tryd.pinned (OpenSpec.ofChange normWaysSpec)

/-- ITS FALSE NEIGHBOUR: 'it returns false'. Refute it at one input. -/
def normWaysWrong : ChangeSpec := { name := "normWays", fn := fun _ => fun
  | [d1, d2, d3] => { results := [.lit (.bool false)], args := [d1, d2, d3] }
  | _ => none }
def NormWaysWrongFalsely : Prop := normWaysRow.holds Tryd.pinned (OpenSpec.ofChange normWaysWrong)

/-- 'thistlelaw04.NamedKeeps': WHATEVER THE INPUT: true; the input reads as it did. -/
def namedKeepsSpec : ChangeSpec := { name := "namedKeeps", fn := fun _ => fun
  | [d1, d2, d3] => { results := [.lit (.bool true)], args := [d1, d2, d3] }
  | _ => none }
def namedKeepsRow : OpenClaim := { program := "ytpobhkniekcciaadoor", sum := "472550b587010bce9c867eeb3e36eb439baecb36b0d29dc7f5a524883e49d233", func := "thistle/thistlelaw04.NamedKeeps", spec := "namedKeeps", unfollowed := true, recurses := true, named := ["thistle/sets.bands"], apart := false, laid := [("thistle/sets.bands", laid_thistle_sets_bands)] }
def NamedKeepsSaid : Prop := namedKeepsRow.holds Tryd.pinned (OpenSpec.ofChange namedKeepsSpec)

/-- ITS FALSE NEIGHBOUR: 'it returns false'. Refute it at one input. -/
def namedKeepsWrong : ChangeSpec := { name := "namedKeeps", fn := fun _ => fun
  | [d1, d2, d3] => { results := [.lit (.bool false)], args := [d1, d2, d3] }
  | _ => none }
def NamedKeepsWrongFalsely : Prop := namedKeepsRow.holds Tryd.pinned (OpenSpec.ofChange namedKeepsWrong)

/-- 'thistlelaw15.PikeNil': WHATEVER THE INPUT: true; the input reads as it did. -/
def pikeNilSpec : ChangeSpec := { name := "pikeNil", fn := fun _ => fun
  | [] => { results := [.lit (.bool true)], args := [] }
  | _ => none }
def pikeNilRow : OpenClaim := { program := "ytpobhkniekcciaadoor", sum := "472550b587010bce9c867eeb3e36eb439baecb36b0d29dc7f5a524883e49d233", func := "thistle/thistlelaw15.PikeNil", spec := "pikeNil", inPlace := ["internal/abi.NoEscape"], unfollowed := true, recurses := true, named := ["thistle/sets.bands", "unicode/utf8.first", "unicode/utf8.acceptRanges"], apart := false, laid := [("unicode/utf8.acceptRanges", laid_unicode_utf8_acceptRanges), ("thistle/sets.bands", laid_thistle_sets_bands), ("unicode/utf8.first", laid_unicode_utf8_first)] }
def PikeNilSaid : Prop := pikeNilRow.holds Tryd.pinned (OpenSpec.ofChange pikeNilSpec)

/-- ITS FALSE NEIGHBOUR: 'it returns false'. Refute it at one input. -/
def pikeNilWrong : ChangeSpec := { name := "pikeNil", fn := fun _ => fun
  | [] => { results := [.lit (.bool false)], args := [] }
  | _ => none }
def PikeNilWrongFalsely : Prop := pikeNilRow.holds Tryd.pinned (OpenSpec.ofChange pikeNilWrong)

/- THE SECOND FORM. 'bulk': how many values and letters a reading holds, each counted each time it is reached (what is shared counts as often as it is met; a slice's spare places count too). A statement '..UptoSaid' is the law's where the arguments, and the package variables that the reading takes, are together of bulk at most 1048576: NARROWER than '..Said'. Prove '..Said' where nothing that the law and all that it calls make is longer than what came in: it says more and counts as full. Else prove '..UptoSaid'. A law counts once. -/
mutual
def uptoBulk {H : Type} : DataW H → Nat
  | .lit (.string bytes) => bytes.length + 1
  | .lit _ => 1
  | .nil => 1
  | .ptr d => uptoBulk d + 1
  | .slice elems spare => uptoBulkAll elems + uptoBulkAll spare + 1
  | .agg parts => uptoBulkAll parts + 1
  | .iface _ d => uptoBulk d + 1
  | .map entries => uptoBulkEntries entries + 1
  | .held _ => 1
def uptoBulkAll {H : Type} : List (DataW H) → Nat
  | [] => 0
  | d :: r => uptoBulk d + uptoBulkAll r
def uptoBulkEntries {H : Type} : List (Lit × DataW H) → Nat
  | [] => 0
  | x :: r => uptoBulkEntry x + uptoBulkEntries r
def uptoBulkEntry {H : Type} : Lit × DataW H → Nat
  | (.string bytes, d) => bytes.length + uptoBulk d + 1
  | (_, d) => uptoBulk d + 1
 end
def uptoSmall : (H : Type) → List (DataW H) → Bool := fun _ ds => decide (uptoBulkAll ds ≤ 1048576)
def OpenSpec.upto (s : _root_.Go.ChangeSpec) : _root_.Go.OpenSpec := { _root_.Go.OpenSpec.ofChange s with cond := some uptoSmall }

/-- 'thistlelaw09.NormBack', WHERE WHAT IT READS IS OF BULK AT MOST 1048576: true; the input reads as it did. -/
def normBackUptoRow : OpenClaim := { program := "ytpobhkniekcciaadoor", sum := "472550b587010bce9c867eeb3e36eb439baecb36b0d29dc7f5a524883e49d233", func := "thistle/thistlelaw09.NormBack", spec := "normBack", unfollowed := true, recurses := true, named := ["thistle/sets.bands"], apart := false, laid := [("thistle/sets.bands", laid_thistle_sets_bands)], narrowed := true }
def NormBackUptoSaid : Prop := normBackUptoRow.holds Tryd.pinned (OpenSpec.upto normBackSpec)

/-- 'thistlelaw14.BackLarge', WHERE WHAT IT READS IS OF BULK AT MOST 1048576: true; the input reads as it did. -/
def backLargeUptoRow : OpenClaim := { program := "ytpobhkniekcciaadoor", sum := "472550b587010bce9c867eeb3e36eb439baecb36b0d29dc7f5a524883e49d233", func := "thistle/thistlelaw14.BackLarge", spec := "backLarge", unfollowed := true, recurses := true, named := ["thistle/sets.bands", "unicode/utf8.first", "unicode/utf8.acceptRanges"], apart := false, laid := [("unicode/utf8.acceptRanges", laid_unicode_utf8_acceptRanges), ("thistle/sets.bands", laid_thistle_sets_bands), ("unicode/utf8.first", laid_unicode_utf8_first)], narrowed := true }
def BackLargeUptoSaid : Prop := backLargeUptoRow.holds Tryd.pinned (OpenSpec.upto backLargeSpec)

/-- 'thistlelaw14.BackBorders', WHERE WHAT IT READS IS OF BULK AT MOST 1048576: true; the input reads as it did. -/
def backBordersUptoRow : OpenClaim := { program := "ytpobhkniekcciaadoor", sum := "472550b587010bce9c867eeb3e36eb439baecb36b0d29dc7f5a524883e49d233", func := "thistle/thistlelaw14.BackBorders", spec := "backBorders", unfollowed := true, recurses := true, named := ["thistle/sets.bands", "unicode/utf8.first", "unicode/utf8.acceptRanges"], apart := false, laid := [("unicode/utf8.acceptRanges", laid_unicode_utf8_acceptRanges), ("thistle/sets.bands", laid_thistle_sets_bands), ("unicode/utf8.first", laid_unicode_utf8_first)], narrowed := true }
def BackBordersUptoSaid : Prop := backBordersUptoRow.holds Tryd.pinned (OpenSpec.upto backBordersSpec)

/-- 'thistlelaw13.LoadSames', WHERE WHAT IT READS IS OF BULK AT MOST 1048576: true; the input reads as it did. -/
def loadSamesUptoRow : OpenClaim := { program := "ytpobhkniekcciaadoor", sum := "472550b587010bce9c867eeb3e36eb439baecb36b0d29dc7f5a524883e49d233", func := "thistle/thistlelaw13.LoadSames", spec := "loadSames", inPlace := ["internal/abi.NoEscape", "internal/bytealg.MakeNoZero"], unfollowed := true, recurses := true, named := ["thistle/sets.bands", "internal/strconv.uint64pow10", "math/bits.deBruijn32tab", "math/bits.deBruijn64tab"], apart := false, laid := [("math/bits.deBruijn32tab", laid_math_bits_deBruijn32tab), ("math/bits.deBruijn64tab", laid_math_bits_deBruijn64tab), ("internal/strconv.uint64pow10", laid_internal_strconv_uint64pow10), ("thistle/sets.bands", laid_thistle_sets_bands)], narrowed := true }
def LoadSamesUptoSaid : Prop := loadSamesUptoRow.holds Tryd.pinned (OpenSpec.upto loadSamesSpec)

/-- 'thistlelaw09.NormWays', WHERE WHAT IT READS IS OF BULK AT MOST 1048576: true; the input reads as it did. -/
def normWaysUptoRow : OpenClaim := { program := "ytpobhkniekcciaadoor", sum := "472550b587010bce9c867eeb3e36eb439baecb36b0d29dc7f5a524883e49d233", func := "thistle/thistlelaw09.NormWays", spec := "normWays", unfollowed := true, recurses := true, named := ["thistle/sets.bands", "unicode/utf8.first", "unicode/utf8.acceptRanges"], apart := false, laid := [("unicode/utf8.acceptRanges", laid_unicode_utf8_acceptRanges), ("thistle/sets.bands", laid_thistle_sets_bands), ("unicode/utf8.first", laid_unicode_utf8_first)], narrowed := true }
def NormWaysUptoSaid : Prop := normWaysUptoRow.holds Tryd.pinned (OpenSpec.upto normWaysSpec)

/-- 'thistlelaw04.NamedKeeps', WHERE WHAT IT READS IS OF BULK AT MOST 1048576: true; the input reads as it did. -/
def namedKeepsUptoRow : OpenClaim := { program := "ytpobhkniekcciaadoor", sum := "472550b587010bce9c867eeb3e36eb439baecb36b0d29dc7f5a524883e49d233", func := "thistle/thistlelaw04.NamedKeeps", spec := "namedKeeps", unfollowed := true, recurses := true, named := ["thistle/sets.bands"], apart := false, laid := [("thistle/sets.bands", laid_thistle_sets_bands)], narrowed := true }
def NamedKeepsUptoSaid : Prop := namedKeepsUptoRow.holds Tryd.pinned (OpenSpec.upto namedKeepsSpec)

/-- 'thistlelaw15.PikeNil', WHERE WHAT IT READS IS OF BULK AT MOST 1048576: true; the input reads as it did. -/
def pikeNilUptoRow : OpenClaim := { program := "ytpobhkniekcciaadoor", sum := "472550b587010bce9c867eeb3e36eb439baecb36b0d29dc7f5a524883e49d233", func := "thistle/thistlelaw15.PikeNil", spec := "pikeNil", inPlace := ["internal/abi.NoEscape"], unfollowed := true, recurses := true, named := ["thistle/sets.bands", "unicode/utf8.first", "unicode/utf8.acceptRanges"], apart := false, laid := [("unicode/utf8.acceptRanges", laid_unicode_utf8_acceptRanges), ("thistle/sets.bands", laid_thistle_sets_bands), ("unicode/utf8.first", laid_unicode_utf8_first)], narrowed := true }
def PikeNilUptoSaid : Prop := pikeNilUptoRow.holds Tryd.pinned (OpenSpec.upto pikeNilSpec)

end Rows
end Go.Proofs.YtpobhkniekcciaaDoor
