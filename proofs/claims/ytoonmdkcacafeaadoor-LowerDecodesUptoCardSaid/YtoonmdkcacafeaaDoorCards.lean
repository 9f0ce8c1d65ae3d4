/-
  DERIVED. GIVEN WITH THE SEED: THE CARDS: each row of YtoonmdkcacafeaaDoorRows.lean that lists a variable, with what it lists TIED to the program's text (the seventh form; the later family's looks); each row that meets fmt, with fmt's text TOLD by the authors' own Lean function (tested against real Go, not proved from fmt's source: count such statements apart). THE CARD IS WHAT COUNTS. Prove the row's statement (the work); the ties are given (YtoonmdkcacafeaaDoorTie.lean); close each card by the builder's one call (the guide's Derived/Test/ToyasCard.lean, 'card_holds'). Laid BY PROGRAM, IN A SANDBOX (cutbox-door.mjs). By AI agents, Wed Nov 11 2026. No macro, syntax, notation, axiom, sorry.
-/
import Derived.Test.YtoonmdkcacafeaaDoorRows
import GoSem.ClaimSeven
namespace Go.Proofs.YtoonmdkcacafeaaDoor
namespace Rows

/-- THE TIED CARD OF 'thistlelaw05.SeqsRising'. -/
def seqsRisingCard : Claim7 := { stood := { row := seqsRisingRow, standIns := [], harness := (true, "d63ec1f6bc23870466dfbb3fd138c34ea3ae622f75d482eae745dbc8646d42bb"), looks := false }, kinds := [], alts := [], laidByText := true, laidKinds := [.widerDeep, .data, .data], laidTests := true, laidLooks := .later }
def SeqsRisingCardSaid : Prop := Claim7.holds Tryd.pinned (.plain (OpenSpec.ofChange seqsRisingSpec)) seqsRisingCard

/-- THE TIED CARD OF 'thistlelaw16.LowerDecodes'. -/
def lowerDecodesCard : Claim7 := { stood := { row := lowerDecodesRow, standIns := [], harness := (true, "d63ec1f6bc23870466dfbb3fd138c34ea3ae622f75d482eae745dbc8646d42bb"), looks := false }, kinds := [], alts := [], laidByText := true, laidKinds := [.data, .pinned], laidTests := true, laidLooks := .later }
def LowerDecodesCardSaid : Prop := Claim7.holds Tryd.pinned (.plain (OpenSpec.ofChange lowerDecodesSpec)) lowerDecodesCard

/-- THE TIED CARD OF 'thistlelaw16.LowerNil'. -/
def lowerNilCard : Claim7 := { stood := { row := lowerNilRow, standIns := [], harness := (true, "d63ec1f6bc23870466dfbb3fd138c34ea3ae622f75d482eae745dbc8646d42bb"), looks := false }, kinds := [], alts := [], laidByText := true, laidKinds := [.data, .pinned], laidTests := true, laidLooks := .later }
def LowerNilCardSaid : Prop := Claim7.holds Tryd.pinned (.plain (OpenSpec.ofChange lowerNilSpec)) lowerNilCard

/-- THE TIED CARD OF 'thistlelaw16.LowerUnits'. -/
def lowerUnitsCard : Claim7 := { stood := { row := lowerUnitsRow, standIns := [], harness := (true, "d63ec1f6bc23870466dfbb3fd138c34ea3ae622f75d482eae745dbc8646d42bb"), looks := false }, kinds := [], alts := [], laidByText := true, laidKinds := [.data, .pinned], laidTests := true, laidLooks := .later }
def LowerUnitsCardSaid : Prop := Claim7.holds Tryd.pinned (.plain (OpenSpec.ofChange lowerUnitsSpec)) lowerUnitsCard

/-- THE TIED CARD OF 'thistlelaw04.NamedOf'. -/
def namedOfCard : Claim7 := { stood := { row := namedOfRow, standIns := [], harness := (true, "d63ec1f6bc23870466dfbb3fd138c34ea3ae622f75d482eae745dbc8646d42bb"), looks := false }, kinds := [], alts := [], laidByText := true, laidKinds := [.widerDeep], laidTests := true, laidLooks := .later }
def NamedOfCardSaid : Prop := Claim7.holds Tryd.pinned (.plain (OpenSpec.ofChange namedOfSpec)) namedOfCard

/-- THE TIED CARD OF 'thistlelaw04.NamedPlays'. -/
def namedPlaysCard : Claim7 := { stood := { row := namedPlaysRow, standIns := [], harness := (true, "d63ec1f6bc23870466dfbb3fd138c34ea3ae622f75d482eae745dbc8646d42bb"), looks := false }, kinds := [], alts := [], laidByText := true, laidKinds := [.widerDeep], laidTests := true, laidLooks := .later }
def NamedPlaysCardSaid : Prop := Claim7.holds Tryd.pinned (.plain (OpenSpec.ofChange namedPlaysSpec)) namedPlaysCard

/-- THE SECOND FORM's CARD OF 'thistlelaw05.SeqsRising'. -/
def seqsRisingUptoCard : Claim7 := { stood := { row := seqsRisingUptoRow, standIns := [], harness := (true, "d63ec1f6bc23870466dfbb3fd138c34ea3ae622f75d482eae745dbc8646d42bb"), looks := false }, kinds := [], alts := [], laidByText := true, laidKinds := [.widerDeep, .data, .data], laidTests := true, laidLooks := .later }
def SeqsRisingUptoCardSaid : Prop := Claim7.holds Tryd.pinned (.plain (OpenSpec.upto seqsRisingSpec)) seqsRisingUptoCard

/-- THE SECOND FORM's CARD OF 'thistlelaw16.LowerDecodes'. -/
def lowerDecodesUptoCard : Claim7 := { stood := { row := lowerDecodesUptoRow, standIns := [], harness := (true, "d63ec1f6bc23870466dfbb3fd138c34ea3ae622f75d482eae745dbc8646d42bb"), looks := false }, kinds := [], alts := [], laidByText := true, laidKinds := [.data, .pinned], laidTests := true, laidLooks := .later }
def LowerDecodesUptoCardSaid : Prop := Claim7.holds Tryd.pinned (.plain (OpenSpec.upto lowerDecodesSpec)) lowerDecodesUptoCard

/-- THE SECOND FORM's CARD OF 'thistlelaw16.LowerNil'. -/
def lowerNilUptoCard : Claim7 := { stood := { row := lowerNilUptoRow, standIns := [], harness := (true, "d63ec1f6bc23870466dfbb3fd138c34ea3ae622f75d482eae745dbc8646d42bb"), looks := false }, kinds := [], alts := [], laidByText := true, laidKinds := [.data, .pinned], laidTests := true, laidLooks := .later }
def LowerNilUptoCardSaid : Prop := Claim7.holds Tryd.pinned (.plain (OpenSpec.upto lowerNilSpec)) lowerNilUptoCard

/-- THE SECOND FORM's CARD OF 'thistlelaw16.LowerUnits'. -/
def lowerUnitsUptoCard : Claim7 := { stood := { row := lowerUnitsUptoRow, standIns := [], harness := (true, "d63ec1f6bc23870466dfbb3fd138c34ea3ae622f75d482eae745dbc8646d42bb"), looks := false }, kinds := [], alts := [], laidByText := true, laidKinds := [.data, .pinned], laidTests := true, laidLooks := .later }
def LowerUnitsUptoCardSaid : Prop := Claim7.holds Tryd.pinned (.plain (OpenSpec.upto lowerUnitsSpec)) lowerUnitsUptoCard

/-- THE SECOND FORM's CARD OF 'thistlelaw04.NamedOf'. -/
def namedOfUptoCard : Claim7 := { stood := { row := namedOfUptoRow, standIns := [], harness := (true, "d63ec1f6bc23870466dfbb3fd138c34ea3ae622f75d482eae745dbc8646d42bb"), looks := false }, kinds := [], alts := [], laidByText := true, laidKinds := [.widerDeep], laidTests := true, laidLooks := .later }
def NamedOfUptoCardSaid : Prop := Claim7.holds Tryd.pinned (.plain (OpenSpec.upto namedOfSpec)) namedOfUptoCard

/-- THE SECOND FORM's CARD OF 'thistlelaw04.NamedPlays'. -/
def namedPlaysUptoCard : Claim7 := { stood := { row := namedPlaysUptoRow, standIns := [], harness := (true, "d63ec1f6bc23870466dfbb3fd138c34ea3ae622f75d482eae745dbc8646d42bb"), looks := false }, kinds := [], alts := [], laidByText := true, laidKinds := [.widerDeep], laidTests := true, laidLooks := .later }
def NamedPlaysUptoCardSaid : Prop := Claim7.holds Tryd.pinned (.plain (OpenSpec.upto namedPlaysSpec)) namedPlaysUptoCard
end Rows
end Go.Proofs.YtoonmdkcacafeaaDoor
