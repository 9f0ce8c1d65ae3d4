/-
  DERIVED. GIVEN WITH THE SEED: THE CARDS: each row of YtpobhkniekcciaaDoorRows.lean that lists a variable, with what it lists TIED to the program's text (the seventh form; the later family's looks); each row that meets fmt, with fmt's text TOLD by the authors' own Lean function (tested against real Go, not proved from fmt's source: count such statements apart). THE CARD IS WHAT COUNTS. Prove the row's statement (the work); the ties are given (YtpobhkniekcciaaDoorTie.lean); close each card by the builder's one call (the guide's Derived/Test/ToyasCard.lean, 'card_holds'). Laid BY PROGRAM, IN A SANDBOX (cutbox-door.mjs). By AI agents, Wed Nov 11 2026. No macro, syntax, notation, axiom, sorry.
-/
import Derived.Test.YtpobhkniekcciaaDoorRows
import GoSem.ClaimSeven
namespace Go.Proofs.YtpobhkniekcciaaDoor
namespace Rows

/-- THE TIED CARD OF 'thistlelaw09.NormBack'. -/
def normBackCard : Claim7 := { stood := { row := normBackRow, standIns := [], harness := (true, "dbd5c3b183c8b95d31837b8d88e5a0c849a54bb35ad917c60013e5e585021018"), looks := false }, kinds := [], alts := [], laidByText := true, laidKinds := [.widerDeep], laidTests := true, laidLooks := .later }
def NormBackCardSaid : Prop := Claim7.holds Tryd.pinned (.plain (OpenSpec.ofChange normBackSpec)) normBackCard

/-- THE TIED CARD OF 'thistlelaw14.BackLarge'. -/
def backLargeCard : Claim7 := { stood := { row := backLargeRow, standIns := [], harness := (true, "dbd5c3b183c8b95d31837b8d88e5a0c849a54bb35ad917c60013e5e585021018"), looks := false }, kinds := [], alts := [], laidByText := true, laidKinds := [.data, .widerDeep, .pinned], laidTests := true, laidLooks := .later }
def BackLargeCardSaid : Prop := Claim7.holds Tryd.pinned (.plain (OpenSpec.ofChange backLargeSpec)) backLargeCard

/-- THE TIED CARD OF 'thistlelaw14.BackBorders'. -/
def backBordersCard : Claim7 := { stood := { row := backBordersRow, standIns := [], harness := (true, "dbd5c3b183c8b95d31837b8d88e5a0c849a54bb35ad917c60013e5e585021018"), looks := false }, kinds := [], alts := [], laidByText := true, laidKinds := [.data, .widerDeep, .pinned], laidTests := true, laidLooks := .later }
def BackBordersCardSaid : Prop := Claim7.holds Tryd.pinned (.plain (OpenSpec.ofChange backBordersSpec)) backBordersCard

/-- THE TIED CARD OF 'thistlelaw13.LoadSames'. -/
def loadSamesCard : Claim7 := { stood := { row := loadSamesRow, standIns := [], harness := (true, "dbd5c3b183c8b95d31837b8d88e5a0c849a54bb35ad917c60013e5e585021018"), looks := false }, kinds := [], alts := [], laidByText := true, laidKinds := [.data, .data, .data, .widerDeep], laidTests := true, laidLooks := .later }
def LoadSamesCardSaid : Prop := Claim7.holds Tryd.pinned (.plain (OpenSpec.ofChange loadSamesSpec)) loadSamesCard

/-- THE TIED CARD OF 'thistlelaw09.NormWays'. -/
def normWaysCard : Claim7 := { stood := { row := normWaysRow, standIns := [], harness := (true, "dbd5c3b183c8b95d31837b8d88e5a0c849a54bb35ad917c60013e5e585021018"), looks := false }, kinds := [], alts := [], laidByText := true, laidKinds := [.data, .widerDeep, .pinned], laidTests := true, laidLooks := .later }
def NormWaysCardSaid : Prop := Claim7.holds Tryd.pinned (.plain (OpenSpec.ofChange normWaysSpec)) normWaysCard

/-- THE TIED CARD OF 'thistlelaw04.NamedKeeps'. -/
def namedKeepsCard : Claim7 := { stood := { row := namedKeepsRow, standIns := [], harness := (true, "dbd5c3b183c8b95d31837b8d88e5a0c849a54bb35ad917c60013e5e585021018"), looks := false }, kinds := [], alts := [], laidByText := true, laidKinds := [.widerDeep], laidTests := true, laidLooks := .later }
def NamedKeepsCardSaid : Prop := Claim7.holds Tryd.pinned (.plain (OpenSpec.ofChange namedKeepsSpec)) namedKeepsCard

/-- THE TIED CARD OF 'thistlelaw15.PikeNil'. -/
def pikeNilCard : Claim7 := { stood := { row := pikeNilRow, standIns := [], harness := (true, "dbd5c3b183c8b95d31837b8d88e5a0c849a54bb35ad917c60013e5e585021018"), looks := false }, kinds := [], alts := [], laidByText := true, laidKinds := [.data, .widerDeep, .pinned], laidTests := true, laidLooks := .later }
def PikeNilCardSaid : Prop := Claim7.holds Tryd.pinned (.plain (OpenSpec.ofChange pikeNilSpec)) pikeNilCard

/-- THE SECOND FORM's CARD OF 'thistlelaw09.NormBack'. -/
def normBackUptoCard : Claim7 := { stood := { row := normBackUptoRow, standIns := [], harness := (true, "dbd5c3b183c8b95d31837b8d88e5a0c849a54bb35ad917c60013e5e585021018"), looks := false }, kinds := [], alts := [], laidByText := true, laidKinds := [.widerDeep], laidTests := true, laidLooks := .later }
def NormBackUptoCardSaid : Prop := Claim7.holds Tryd.pinned (.plain (OpenSpec.upto normBackSpec)) normBackUptoCard

/-- THE SECOND FORM's CARD OF 'thistlelaw14.BackLarge'. -/
def backLargeUptoCard : Claim7 := { stood := { row := backLargeUptoRow, standIns := [], harness := (true, "dbd5c3b183c8b95d31837b8d88e5a0c849a54bb35ad917c60013e5e585021018"), looks := false }, kinds := [], alts := [], laidByText := true, laidKinds := [.data, .widerDeep, .pinned], laidTests := true, laidLooks := .later }
def BackLargeUptoCardSaid : Prop := Claim7.holds Tryd.pinned (.plain (OpenSpec.upto backLargeSpec)) backLargeUptoCard

/-- THE SECOND FORM's CARD OF 'thistlelaw14.BackBorders'. -/
def backBordersUptoCard : Claim7 := { stood := { row := backBordersUptoRow, standIns := [], harness := (true, "dbd5c3b183c8b95d31837b8d88e5a0c849a54bb35ad917c60013e5e585021018"), looks := false }, kinds := [], alts := [], laidByText := true, laidKinds := [.data, .widerDeep, .pinned], laidTests := true, laidLooks := .later }
def BackBordersUptoCardSaid : Prop := Claim7.holds Tryd.pinned (.plain (OpenSpec.upto backBordersSpec)) backBordersUptoCard

/-- THE SECOND FORM's CARD OF 'thistlelaw13.LoadSames'. -/
def loadSamesUptoCard : Claim7 := { stood := { row := loadSamesUptoRow, standIns := [], harness := (true, "dbd5c3b183c8b95d31837b8d88e5a0c849a54bb35ad917c60013e5e585021018"), looks := false }, kinds := [], alts := [], laidByText := true, laidKinds := [.data, .data, .data, .widerDeep], laidTests := true, laidLooks := .later }
def LoadSamesUptoCardSaid : Prop := Claim7.holds Tryd.pinned (.plain (OpenSpec.upto loadSamesSpec)) loadSamesUptoCard

/-- THE SECOND FORM's CARD OF 'thistlelaw09.NormWays'. -/
def normWaysUptoCard : Claim7 := { stood := { row := normWaysUptoRow, standIns := [], harness := (true, "dbd5c3b183c8b95d31837b8d88e5a0c849a54bb35ad917c60013e5e585021018"), looks := false }, kinds := [], alts := [], laidByText := true, laidKinds := [.data, .widerDeep, .pinned], laidTests := true, laidLooks := .later }
def NormWaysUptoCardSaid : Prop := Claim7.holds Tryd.pinned (.plain (OpenSpec.upto normWaysSpec)) normWaysUptoCard

/-- THE SECOND FORM's CARD OF 'thistlelaw04.NamedKeeps'. -/
def namedKeepsUptoCard : Claim7 := { stood := { row := namedKeepsUptoRow, standIns := [], harness := (true, "dbd5c3b183c8b95d31837b8d88e5a0c849a54bb35ad917c60013e5e585021018"), looks := false }, kinds := [], alts := [], laidByText := true, laidKinds := [.widerDeep], laidTests := true, laidLooks := .later }
def NamedKeepsUptoCardSaid : Prop := Claim7.holds Tryd.pinned (.plain (OpenSpec.upto namedKeepsSpec)) namedKeepsUptoCard

/-- THE SECOND FORM's CARD OF 'thistlelaw15.PikeNil'. -/
def pikeNilUptoCard : Claim7 := { stood := { row := pikeNilUptoRow, standIns := [], harness := (true, "dbd5c3b183c8b95d31837b8d88e5a0c849a54bb35ad917c60013e5e585021018"), looks := false }, kinds := [], alts := [], laidByText := true, laidKinds := [.data, .widerDeep, .pinned], laidTests := true, laidLooks := .later }
def PikeNilUptoCardSaid : Prop := Claim7.holds Tryd.pinned (.plain (OpenSpec.upto pikeNilSpec)) pikeNilUptoCard
end Rows
end Go.Proofs.YtpobhkniekcciaaDoor
