/-
  DERIVED. GIVEN WITH THE SEED: THE CARDS: each row of YtmokclfiifmhpaaDoorRows.lean that lists a variable, with what it lists TIED to the program's text (the seventh form; the later family's looks); each row that meets fmt, with fmt's text TOLD by the authors' own Lean function (tested against real Go, not proved from fmt's source: count such statements apart). THE CARD IS WHAT COUNTS. Prove the row's statement (the work); the ties are given (YtmokclfiifmhpaaDoorTie.lean); close each card by the builder's one call (the guide's Derived/Test/ToyasCard.lean, 'card_holds'). Laid BY PROGRAM, IN A SANDBOX (cutbox-door.mjs). By AI agents, Wed Nov 11 2026. No macro, syntax, notation, axiom, sorry.
-/
import Derived.Test.YtmokclfiifmhpaaDoorRows
import GoSem.ClaimSeven
namespace Go.Proofs.YtmokclfiifmhpaaDoor
namespace Rows

/-- THE TIED CARD OF 'thistlelaw05.SeqsRising'. -/
def seqsRisingCard : Claim7 := { stood := { row := seqsRisingRow, standIns := [], harness := (true, "867257bba1a6d31e27714c4672179af5599ada2bb58986f76457d10c8fc39650"), looks := false }, kinds := [], alts := [], laidByText := true, laidKinds := [.widerDeep, .data, .data], laidTests := true, laidLooks := .later }
def SeqsRisingCardSaid : Prop := Claim7.holds Tryd.pinned (.plain (OpenSpec.ofChange seqsRisingSpec)) seqsRisingCard

/-- THE SECOND FORM's CARD OF 'thistlelaw05.SeqsRising'. -/
def seqsRisingUptoCard : Claim7 := { stood := { row := seqsRisingUptoRow, standIns := [], harness := (true, "867257bba1a6d31e27714c4672179af5599ada2bb58986f76457d10c8fc39650"), looks := false }, kinds := [], alts := [], laidByText := true, laidKinds := [.widerDeep, .data, .data], laidTests := true, laidLooks := .later }
def SeqsRisingUptoCardSaid : Prop := Claim7.holds Tryd.pinned (.plain (OpenSpec.upto seqsRisingSpec)) seqsRisingUptoCard
end Rows
end Go.Proofs.YtmokclfiifmhpaaDoor
