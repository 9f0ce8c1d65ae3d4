/-
  DERIVED. GIVEN WITH THE SEED: THE PROGRAM's TIES (one call each: nine closed facts by the kernel) AND EACH ROW's TIE, after the 31st guide's Derived/Test/Toyas{Tie, Card}.lean. No idea stands in it: it is a product of the set-up. Laid BY PROGRAM, IN A SANDBOX (cutbox-door.mjs). By AI agents, Wed Nov 11 2026. No macro, syntax, notation, axiom, sorry.
-/
import Derived.Test.YtmokclfiifmhpaaDoorRows
import Derived.LaidByTextLater
import Derived.SevenTiedAt
import Derived.LaidSub
import Derived.LaidOnce
namespace Go.Proofs.YtmokclfiifmhpaaDoor
open Go
set_option maxRecDepth 100000
theorem seatTie1 : Tryd.prog.laidByTextLater [("thistle/sets.bands", Rows.laid_thistle_sets_bands), ("thistle/seqs.tops", Rows.laid_thistle_seqs_tops), ("thistle/seqs.heads", Rows.laid_thistle_seqs_heads)] [.widerDeep, .data, .data] true :=
  Program.laidByTextLater_by_one 27 8 7 (by kernel_rfl) (by kernel_rfl) (by kernel_rfl) (by kernel_rfl) (by kernel_rfl) (by kernel_rfl) (fun _ _ => by kernel_rfl)
theorem noOwnUnsafe : Tryd.pinned.checked.prog.headLifts.contains "ownunsafe" = false := by kernel_rfl
theorem tie : Tryd.prog.laidByTextLater [("thistle/sets.bands", Rows.laid_thistle_sets_bands), ("thistle/seqs.tops", Rows.laid_thistle_seqs_tops), ("thistle/seqs.heads", Rows.laid_thistle_seqs_heads)] [.widerDeep, .data, .data] true :=
  Program.laidByTextLater.sub seatTie1 ["thistle/sets.bands", "thistle/seqs.tops", "thistle/seqs.heads"] (by kernel_rfl) (by kernel_rfl)
theorem seqsRising_row_tie : Rows.seqsRisingRow.laidByTextAt .later Tryd.pinned [.widerDeep, .data, .data] true :=
  OpenClaim.laidByTextAt_later rfl rfl tie noOwnUnsafe
theorem seqsRisingUpto_row_tie : Rows.seqsRisingUptoRow.laidByTextAt .later Tryd.pinned [.widerDeep, .data, .data] true :=
  OpenClaim.laidByTextAt_later rfl rfl tie noOwnUnsafe
end Go.Proofs.YtmokclfiifmhpaaDoor
