/-
  DERIVED. GIVEN WITH THE SEED: THE CARDS: each row of YtjjcpjhnhpdgcaaDoorRows.lean that lists a variable, with what it lists TIED to the program's text (the seventh form; the later family's looks); each row that meets fmt, with fmt's text TOLD by the authors' own Lean function (tested against real Go, not proved from fmt's source: count such statements apart). THE CARD IS WHAT COUNTS. Prove the row's statement (the work); the ties are given (YtjjcpjhnhpdgcaaDoorTie.lean); close each card by the builder's one call (the guide's Derived/Test/ToyasCard.lean, 'card_holds'). Laid BY PROGRAM, IN A SANDBOX (cutbox-door.mjs). By AI agents, Wed Nov 11 2026. No macro, syntax, notation, axiom, sorry.
-/
import Derived.Test.YtjjcpjhnhpdgcaaDoorRows
import GoSem.ClaimSeven
namespace Go.Proofs.YtjjcpjhnhpdgcaaDoor
namespace Rows

/-- THE TIED CARD OF 'thistlelaw05.SeqsAll'. -/
def seqsAllCard : Claim7 := { stood := { row := seqsAllRow, standIns := [], harness := (true, "c6a44c84f041c64b279e6a6722eb4a1a8b8ad4e4593e5bec14e0fac692940c29"), looks := false }, kinds := [], alts := [], laidByText := true, laidKinds := [.data, .widerDeep, .data, .data, .pinned], laidTests := true, laidLooks := .later }
def SeqsAllCardSaid : Prop := Claim7.holds Tryd.pinned (.plain (OpenSpec.ofChange seqsAllSpec)) seqsAllCard

/-- THE TIED CARD OF 'thistlelaw05.SeqsUnsound'. -/
def seqsUnsoundCard : Claim7 := { stood := { row := seqsUnsoundRow, standIns := [], harness := (true, "c6a44c84f041c64b279e6a6722eb4a1a8b8ad4e4593e5bec14e0fac692940c29"), looks := false }, kinds := [], alts := [], laidByText := true, laidKinds := [.data, .widerDeep, .data, .data, .pinned], laidTests := true, laidLooks := .later }
def SeqsUnsoundCardSaid : Prop := Claim7.holds Tryd.pinned (.plain (OpenSpec.ofChange seqsUnsoundSpec)) seqsUnsoundCard

/-- THE SECOND FORM's CARD OF 'thistlelaw05.SeqsAll'. -/
def seqsAllUptoCard : Claim7 := { stood := { row := seqsAllUptoRow, standIns := [], harness := (true, "c6a44c84f041c64b279e6a6722eb4a1a8b8ad4e4593e5bec14e0fac692940c29"), looks := false }, kinds := [], alts := [], laidByText := true, laidKinds := [.data, .widerDeep, .data, .data, .pinned], laidTests := true, laidLooks := .later }
def SeqsAllUptoCardSaid : Prop := Claim7.holds Tryd.pinned (.plain (OpenSpec.upto seqsAllSpec)) seqsAllUptoCard

/-- THE SECOND FORM's CARD OF 'thistlelaw05.SeqsUnsound'. -/
def seqsUnsoundUptoCard : Claim7 := { stood := { row := seqsUnsoundUptoRow, standIns := [], harness := (true, "c6a44c84f041c64b279e6a6722eb4a1a8b8ad4e4593e5bec14e0fac692940c29"), looks := false }, kinds := [], alts := [], laidByText := true, laidKinds := [.data, .widerDeep, .data, .data, .pinned], laidTests := true, laidLooks := .later }
def SeqsUnsoundUptoCardSaid : Prop := Claim7.holds Tryd.pinned (.plain (OpenSpec.upto seqsUnsoundSpec)) seqsUnsoundUptoCard
end Rows
end Go.Proofs.YtjjcpjhnhpdgcaaDoor
