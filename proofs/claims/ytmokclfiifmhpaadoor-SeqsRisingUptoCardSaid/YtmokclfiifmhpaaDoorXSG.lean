/- The listed package-level variables hold what their text lays ('GOK'); it is kept over new blocks and draws. -/
import Derived.Test.YtmokclfiifmhpaaDoorProg
import Derived.Below
import Derived.Deep.Draws
import GoSem.PinnedTables
import Derived.RowKit
import Derived.Test.YtmokclfiifmhpaaDoorWWords
namespace Go.Proofs.YtmokclfiifmhpaaDoor.XS
open Go.RowKit Go.Proofs.YtmokclfiifmhpaaDoorW.PrintWords
theorem cell_lt {w : World} {a : Addr} {v : Value} (h : w.cell? a = some v) : a.block < w.heap.size := by
  rcases Nat.lt_or_ge a.block w.heap.size with h1 | h1
  · exact h1
  · exact absurd h (by simp [World.cell?, Array.getElem?_eq_none h1])
def G_sets_bands : List Value := [.int .i32 0, .int .i32 55295, .int .i32 57344, .int .i32 1114111, .int .i32 1114240, .int .i32 1114367]
def G_seqs_tops : List Value := [.int .i32 127, .int .i32 2047, .int .i32 65535, .int .i32 1114111]
def G_seqs_heads : List Value := [.int .i32 0, .int .i32 192, .int .i32 224, .int .i32 240]
/-- what the listed variables hold -/
structure GOK (w : World) : Prop where
  any : True
  sets_bands : ∀ j v, G_sets_bands[j]? = some v → w.cell? ⟨2, j, none⟩ = some v
  seqs_tops : ∀ j v, G_seqs_tops[j]? = some v → w.cell? ⟨0, j, none⟩ = some v
  seqs_heads : ∀ j v, G_seqs_heads[j]? = some v → w.cell? ⟨1, j, none⟩ = some v
theorem GOK.below {w w' : World} (h : GOK w) (hb : Below w.heap.size w w') : GOK w' :=
  ⟨trivial, fun j v hj => (hb.cell (p := ⟨2, j, none⟩) (cell_lt (h.sets_bands j v hj))).trans (h.sets_bands j v hj), fun j v hj => (hb.cell (p := ⟨0, j, none⟩) (cell_lt (h.seqs_tops j v hj))).trans (h.seqs_tops j v hj), fun j v hj => (hb.cell (p := ⟨1, j, none⟩) (cell_lt (h.seqs_heads j v hj))).trans (h.seqs_heads j v hj)⟩
theorem GOK.drewN {w : World} (h : GOK w) (n : Nat) : GOK (w.drewN n) := ⟨trivial, fun j v hj => h.sets_bands j v hj, fun j v hj => h.seqs_tops j v hj, fun j v hj => h.seqs_heads j v hj⟩
theorem GOK.drew {w : World} (h : GOK w) : GOK w.drew := ⟨trivial, fun j v hj => h.sets_bands j v hj, fun j v hj => h.seqs_tops j v hj, fun j v hj => h.seqs_heads j v hj⟩
end Go.Proofs.YtmokclfiifmhpaaDoor.XS
