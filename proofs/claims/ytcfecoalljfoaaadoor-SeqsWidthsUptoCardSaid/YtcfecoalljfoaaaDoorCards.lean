/-
  DERIVED. GIVEN WITH THE SEED: THE CARDS: each row of YtcfecoalljfoaaaDoorRows.lean that lists a variable, with what it lists TIED to the program's text (the seventh form; the later family's looks); each row that meets fmt, with fmt's text TOLD by the authors' own Lean function (tested against real Go, not proved from fmt's source: count such statements apart). THE CARD IS WHAT COUNTS. Prove the row's statement (the work); the ties are given (YtcfecoalljfoaaaDoorTie.lean); close each card by the builder's one call (the guide's Derived/Test/ToyasCard.lean, 'card_holds'). Laid BY PROGRAM, IN A SANDBOX (cutbox-door.mjs). By AI agents, Wed Nov 11 2026. No macro, syntax, notation, axiom, sorry.
-/
import Derived.Test.YtcfecoalljfoaaaDoorRows
import GoSem.ClaimSeven
namespace Go.Proofs.YtcfecoalljfoaaaDoor
namespace Rows

/-- THE TIED CARD OF 'thistlelaw05.SeqsWritten'. -/
def seqsWrittenCard : Claim7 := { stood := { row := seqsWrittenRow, standIns := [], harness := (true, "6be14d97852178f3b6eb1ca89a921aeb674d398324cccd082a67dcf30e765560"), looks := false }, kinds := [], alts := [], laidByText := true, laidKinds := [.widerDeep, .data, .data], laidTests := true, laidLooks := .later }
def SeqsWrittenCardSaid : Prop := Claim7.holds Tryd.pinned (.plain (OpenSpec.ofChange seqsWrittenSpec)) seqsWrittenCard

/-- THE TIED CARD OF 'thistlelaw05.SeqsWidths'. -/
def seqsWidthsCard : Claim7 := { stood := { row := seqsWidthsRow, standIns := [], harness := (true, "6be14d97852178f3b6eb1ca89a921aeb674d398324cccd082a67dcf30e765560"), looks := false }, kinds := [], alts := [], laidByText := true, laidKinds := [.data, .widerDeep, .data, .data, .pinned], laidTests := true, laidLooks := .later }
def SeqsWidthsCardSaid : Prop := Claim7.holds Tryd.pinned (.plain (OpenSpec.ofChange seqsWidthsSpec)) seqsWidthsCard

/-- THE SECOND FORM's CARD OF 'thistlelaw05.SeqsWritten'. -/
def seqsWrittenUptoCard : Claim7 := { stood := { row := seqsWrittenUptoRow, standIns := [], harness := (true, "6be14d97852178f3b6eb1ca89a921aeb674d398324cccd082a67dcf30e765560"), looks := false }, kinds := [], alts := [], laidByText := true, laidKinds := [.widerDeep, .data, .data], laidTests := true, laidLooks := .later }
def SeqsWrittenUptoCardSaid : Prop := Claim7.holds Tryd.pinned (.plain (OpenSpec.upto seqsWrittenSpec)) seqsWrittenUptoCard

/-- THE SECOND FORM's CARD OF 'thistlelaw05.SeqsWidths'. -/
def seqsWidthsUptoCard : Claim7 := { stood := { row := seqsWidthsUptoRow, standIns := [], harness := (true, "6be14d97852178f3b6eb1ca89a921aeb674d398324cccd082a67dcf30e765560"), looks := false }, kinds := [], alts := [], laidByText := true, laidKinds := [.data, .widerDeep, .data, .data, .pinned], laidTests := true, laidLooks := .later }
def SeqsWidthsUptoCardSaid : Prop := Claim7.holds Tryd.pinned (.plain (OpenSpec.upto seqsWidthsSpec)) seqsWidthsUptoCard
end Rows
end Go.Proofs.YtcfecoalljfoaaaDoor
