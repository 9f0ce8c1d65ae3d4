/-
  DERIVED. GIVEN WITH THE SEED: THE CARDS: each row of YtcpjflgiimjfmaaDoorRows.lean that lists a variable, with what it lists TIED to the program's text (the seventh form; the later family's looks); each row that meets fmt, with fmt's text TOLD by the authors' own Lean function (tested against real Go, not proved from fmt's source: count such statements apart). THE CARD IS WHAT COUNTS. Prove the row's statement (the work); the ties are given (YtcpjflgiimjfmaaDoorTie.lean); close each card by the builder's one call (the guide's Derived/Test/ToyasCard.lean, 'card_holds'). Laid BY PROGRAM, IN A SANDBOX (cutbox-door.mjs). By AI agents, Wed Nov 11 2026. No macro, syntax, notation, axiom, sorry.
-/
import Derived.Test.YtcpjflgiimjfmaaDoorRows
import GoSem.ClaimSeven
namespace Go.Proofs.YtcpjflgiimjfmaaDoor
namespace Rows

/-- THE TIED CARD OF 'thistlelaw03.FoldSets'. -/
def foldSetsCard : Claim7 := { stood := { row := foldSetsRow, standIns := [], harness := (true, "37e217de5c05b6640bec62cda0df5192b32082881b76f65d282daf27f02f7b97"), looks := false }, kinds := [], alts := [], laidByText := true, laidKinds := [.widerDeep], laidTests := true, laidLooks := .later }
def FoldSetsCardSaid : Prop := Claim7.holds Tryd.pinned (.plain (OpenSpec.ofChange foldSetsSpec)) foldSetsCard

/-- THE TIED CARD OF 'thistlelaw03.FoldClosed'. -/
def foldClosedCard : Claim7 := { stood := { row := foldClosedRow, standIns := [], harness := (true, "37e217de5c05b6640bec62cda0df5192b32082881b76f65d282daf27f02f7b97"), looks := false }, kinds := [], alts := [], laidByText := true, laidKinds := [.widerDeep], laidTests := true, laidLooks := .later }
def FoldClosedCardSaid : Prop := Claim7.holds Tryd.pinned (.plain (OpenSpec.ofChange foldClosedSpec)) foldClosedCard

/-- THE SECOND FORM's CARD OF 'thistlelaw03.FoldSets'. -/
def foldSetsUptoCard : Claim7 := { stood := { row := foldSetsUptoRow, standIns := [], harness := (true, "37e217de5c05b6640bec62cda0df5192b32082881b76f65d282daf27f02f7b97"), looks := false }, kinds := [], alts := [], laidByText := true, laidKinds := [.widerDeep], laidTests := true, laidLooks := .later }
def FoldSetsUptoCardSaid : Prop := Claim7.holds Tryd.pinned (.plain (OpenSpec.upto foldSetsSpec)) foldSetsUptoCard

/-- THE SECOND FORM's CARD OF 'thistlelaw03.FoldClosed'. -/
def foldClosedUptoCard : Claim7 := { stood := { row := foldClosedUptoRow, standIns := [], harness := (true, "37e217de5c05b6640bec62cda0df5192b32082881b76f65d282daf27f02f7b97"), looks := false }, kinds := [], alts := [], laidByText := true, laidKinds := [.widerDeep], laidTests := true, laidLooks := .later }
def FoldClosedUptoCardSaid : Prop := Claim7.holds Tryd.pinned (.plain (OpenSpec.upto foldClosedSpec)) foldClosedUptoCard
end Rows
end Go.Proofs.YtcpjflgiimjfmaaDoor
