/- The listed package-level variables hold what their text lays ('GOK'); it is kept over new blocks and draws. -/
import Derived.Test.YtoonmdkcacafeaaDoorProg
import Derived.Below
import Derived.Deep.Draws
import GoSem.PinnedTables
import Derived.RowKit
import Derived.Test.YtoonmdkcacafeaaDoorWWords
namespace Go.Proofs.YtoonmdkcacafeaaDoor.XL
open Go.RowKit Go.Proofs.YtoonmdkcacafeaaDoorW.PrintWords
theorem cell_lt {w : World} {a : Addr} {v : Value} (h : w.cell? a = some v) : a.block < w.heap.size := by
  rcases Nat.lt_or_ge a.block w.heap.size with h1 | h1
  · exact h1
  · exact absurd h (by simp [World.cell?, Array.getElem?_eq_none h1])
def G_utf8_acceptRanges : List Value := [.int .u8 128, .int .u8 191, .int .u8 160, .int .u8 191, .int .u8 128, .int .u8 159, .int .u8 144, .int .u8 191, .int .u8 128, .int .u8 143, .int .u8 0, .int .u8 0, .int .u8 0, .int .u8 0, .int .u8 0, .int .u8 0, .int .u8 0, .int .u8 0, .int .u8 0, .int .u8 0, .int .u8 0, .int .u8 0, .int .u8 0, .int .u8 0, .int .u8 0, .int .u8 0, .int .u8 0, .int .u8 0, .int .u8 0, .int .u8 0, .int .u8 0, .int .u8 0]
def G_utf8_first : List Value := Go.Pinned.utf8FirstZ.map fun (z : Nat) => Value.int .u8 (z : Int)
/-- what the listed variables hold -/
structure GOK (w : World) : Prop where
  any : True
  utf8_acceptRanges : ∀ j v, G_utf8_acceptRanges[j]? = some v → w.cell? ⟨3, j, none⟩ = some v
  utf8_first : ∀ j v, G_utf8_first[j]? = some v → w.cell? ⟨2, j, none⟩ = some v
theorem GOK.below {w w' : World} (h : GOK w) (hb : Below w.heap.size w w') : GOK w' :=
  ⟨trivial, fun j v hj => (hb.cell (p := ⟨3, j, none⟩) (cell_lt (h.utf8_acceptRanges j v hj))).trans (h.utf8_acceptRanges j v hj), fun j v hj => (hb.cell (p := ⟨2, j, none⟩) (cell_lt (h.utf8_first j v hj))).trans (h.utf8_first j v hj)⟩
theorem GOK.drewN {w : World} (h : GOK w) (n : Nat) : GOK (w.drewN n) := ⟨trivial, fun j v hj => h.utf8_acceptRanges j v hj, fun j v hj => h.utf8_first j v hj⟩
theorem GOK.drew {w : World} (h : GOK w) : GOK w.drew := ⟨trivial, fun j v hj => h.utf8_acceptRanges j v hj, fun j v hj => h.utf8_first j v hj⟩
end Go.Proofs.YtoonmdkcacafeaaDoor.XL
