/-
  DERIVED. GIVEN WITH THE SEED: THE CARDS: each row of YthjobemnblakjaaDoorRows.lean that lists a variable, with what it lists TIED to the program's text (the seventh form; the later family's looks); each row that meets fmt, with fmt's text TOLD by the authors' own Lean function (tested against real Go, not proved from fmt's source: count such statements apart). THE CARD IS WHAT COUNTS. Prove the row's statement (the work); the ties are given (YthjobemnblakjaaDoorTie.lean); close each card by the builder's one call (the guide's Derived/Test/ToyasCard.lean, 'card_holds'). Laid BY PROGRAM, IN A SANDBOX (cutbox-door.mjs). By AI agents, Wed Nov 11 2026. No macro, syntax, notation, axiom, sorry.
-/
import Derived.Test.YthjobemnblakjaaDoorRows
import GoSem.ClaimSeven
namespace Go.Proofs.YthjobemnblakjaaDoor
namespace Rows

/-- THE TIED CARD OF 'thistlelaw05.SeqsRising'. -/
def seqsRisingCard : Claim7 := { stood := { row := seqsRisingRow, standIns := [], harness := (true, "252fed50e14645306adc2fe1c3223db7913614b9cecb3baa9ae5faab92802d72"), looks := false }, kinds := [], alts := [], laidByText := true, laidKinds := [.widerDeep, .data, .data], laidTests := true, laidLooks := .later }
def SeqsRisingCardSaid : Prop := Claim7.holds Tryd.pinned (.plain (OpenSpec.ofChange seqsRisingSpec)) seqsRisingCard

/-- THE TIED CARD OF 'thistlelaw04.NamedTable'. -/
def namedTableCard : Claim7 := { stood := { row := namedTableRow, standIns := [], harness := (true, "252fed50e14645306adc2fe1c3223db7913614b9cecb3baa9ae5faab92802d72"), looks := false }, kinds := [], alts := [], laidByText := true, laidKinds := [.widerDeep], laidTests := true, laidLooks := .later }
def NamedTableCardSaid : Prop := Claim7.holds Tryd.pinned (.plain (OpenSpec.ofChange namedTableSpec)) namedTableCard

/-- THE TIED CARD OF 'thistlelaw16.LowerDecodes'. -/
def lowerDecodesCard : Claim7 := { stood := { row := lowerDecodesRow, standIns := [], harness := (true, "252fed50e14645306adc2fe1c3223db7913614b9cecb3baa9ae5faab92802d72"), looks := false }, kinds := [], alts := [], laidByText := true, laidKinds := [.data, .pinned], laidTests := true, laidLooks := .later }
def LowerDecodesCardSaid : Prop := Claim7.holds Tryd.pinned (.plain (OpenSpec.ofChange lowerDecodesSpec)) lowerDecodesCard

/-- THE TIED CARD OF 'thistlelaw16.LowerNil'. -/
def lowerNilCard : Claim7 := { stood := { row := lowerNilRow, standIns := [], harness := (true, "252fed50e14645306adc2fe1c3223db7913614b9cecb3baa9ae5faab92802d72"), looks := false }, kinds := [], alts := [], laidByText := true, laidKinds := [.data, .pinned], laidTests := true, laidLooks := .later }
def LowerNilCardSaid : Prop := Claim7.holds Tryd.pinned (.plain (OpenSpec.ofChange lowerNilSpec)) lowerNilCard

/-- THE TIED CARD OF 'thistlelaw04.NamedTurned'. -/
def namedTurnedCard : Claim7 := { stood := { row := namedTurnedRow, standIns := [], harness := (true, "252fed50e14645306adc2fe1c3223db7913614b9cecb3baa9ae5faab92802d72"), looks := false }, kinds := [], alts := [], laidByText := true, laidKinds := [.widerDeep], laidTests := true, laidLooks := .later }
def NamedTurnedCardSaid : Prop := Claim7.holds Tryd.pinned (.plain (OpenSpec.ofChange namedTurnedSpec)) namedTurnedCard

/-- THE TIED CARD OF 'thistlelaw16.LowerUnits'. -/
def lowerUnitsCard : Claim7 := { stood := { row := lowerUnitsRow, standIns := [], harness := (true, "252fed50e14645306adc2fe1c3223db7913614b9cecb3baa9ae5faab92802d72"), looks := false }, kinds := [], alts := [], laidByText := true, laidKinds := [.data, .pinned], laidTests := true, laidLooks := .later }
def LowerUnitsCardSaid : Prop := Claim7.holds Tryd.pinned (.plain (OpenSpec.ofChange lowerUnitsSpec)) lowerUnitsCard

/-- THE SECOND FORM's CARD OF 'thistlelaw05.SeqsRising'. -/
def seqsRisingUptoCard : Claim7 := { stood := { row := seqsRisingUptoRow, standIns := [], harness := (true, "252fed50e14645306adc2fe1c3223db7913614b9cecb3baa9ae5faab92802d72"), looks := false }, kinds := [], alts := [], laidByText := true, laidKinds := [.widerDeep, .data, .data], laidTests := true, laidLooks := .later }
def SeqsRisingUptoCardSaid : Prop := Claim7.holds Tryd.pinned (.plain (OpenSpec.upto seqsRisingSpec)) seqsRisingUptoCard

/-- THE SECOND FORM's CARD OF 'thistlelaw04.NamedTable'. -/
def namedTableUptoCard : Claim7 := { stood := { row := namedTableUptoRow, standIns := [], harness := (true, "252fed50e14645306adc2fe1c3223db7913614b9cecb3baa9ae5faab92802d72"), looks := false }, kinds := [], alts := [], laidByText := true, laidKinds := [.widerDeep], laidTests := true, laidLooks := .later }
def NamedTableUptoCardSaid : Prop := Claim7.holds Tryd.pinned (.plain (OpenSpec.upto namedTableSpec)) namedTableUptoCard

/-- THE SECOND FORM's CARD OF 'thistlelaw16.LowerDecodes'. -/
def lowerDecodesUptoCard : Claim7 := { stood := { row := lowerDecodesUptoRow, standIns := [], harness := (true, "252fed50e14645306adc2fe1c3223db7913614b9cecb3baa9ae5faab92802d72"), looks := false }, kinds := [], alts := [], laidByText := true, laidKinds := [.data, .pinned], laidTests := true, laidLooks := .later }
def LowerDecodesUptoCardSaid : Prop := Claim7.holds Tryd.pinned (.plain (OpenSpec.upto lowerDecodesSpec)) lowerDecodesUptoCard

/-- THE SECOND FORM's CARD OF 'thistlelaw16.LowerNil'. -/
def lowerNilUptoCard : Claim7 := { stood := { row := lowerNilUptoRow, standIns := [], harness := (true, "252fed50e14645306adc2fe1c3223db7913614b9cecb3baa9ae5faab92802d72"), looks := false }, kinds := [], alts := [], laidByText := true, laidKinds := [.data, .pinned], laidTests := true, laidLooks := .later }
def LowerNilUptoCardSaid : Prop := Claim7.holds Tryd.pinned (.plain (OpenSpec.upto lowerNilSpec)) lowerNilUptoCard

/-- THE SECOND FORM's CARD OF 'thistlelaw04.NamedTurned'. -/
def namedTurnedUptoCard : Claim7 := { stood := { row := namedTurnedUptoRow, standIns := [], harness := (true, "252fed50e14645306adc2fe1c3223db7913614b9cecb3baa9ae5faab92802d72"), looks := false }, kinds := [], alts := [], laidByText := true, laidKinds := [.widerDeep], laidTests := true, laidLooks := .later }
def NamedTurnedUptoCardSaid : Prop := Claim7.holds Tryd.pinned (.plain (OpenSpec.upto namedTurnedSpec)) namedTurnedUptoCard

/-- THE SECOND FORM's CARD OF 'thistlelaw16.LowerUnits'. -/
def lowerUnitsUptoCard : Claim7 := { stood := { row := lowerUnitsUptoRow, standIns := [], harness := (true, "252fed50e14645306adc2fe1c3223db7913614b9cecb3baa9ae5faab92802d72"), looks := false }, kinds := [], alts := [], laidByText := true, laidKinds := [.data, .pinned], laidTests := true, laidLooks := .later }
def LowerUnitsUptoCardSaid : Prop := Claim7.holds Tryd.pinned (.plain (OpenSpec.upto lowerUnitsSpec)) lowerUnitsUptoCard
end Rows
end Go.Proofs.YthjobemnblakjaaDoor
