/- The listed package-level variables hold what their text lays ('GOK'); it is kept over new blocks and draws. -/
import Derived.Test.YtcpjflgiimjfmaaDoorProg
import Derived.Below
import Derived.Deep.Draws
import GoSem.PinnedTables
import Derived.RowKit
import Derived.Test.YtcpjflgiimjfmaaDoorWWords
namespace Go.Proofs.YtcpjflgiimjfmaaDoor.XC
open Go.RowKit Go.Proofs.YtcpjflgiimjfmaaDoorW.PrintWords
theorem cell_lt {w : World} {a : Addr} {v : Value} (h : w.cell? a = some v) : a.block < w.heap.size := by
  rcases Nat.lt_or_ge a.block w.heap.size with h1 | h1
  · exact h1
  · exact absurd h (by simp [World.cell?, Array.getElem?_eq_none h1])
def G_sets_bands : List Value := [.int .i32 0, .int .i32 55295, .int .i32 57344, .int .i32 1114111, .int .i32 1114240, .int .i32 1114367]
/-- what the listed variables hold -/
structure GOK (w : World) : Prop where
  any : True
  sets_bands : ∀ j v, G_sets_bands[j]? = some v → w.cell? ⟨0, j, none⟩ = some v
theorem GOK.below {w w' : World} (h : GOK w) (hb : Below w.heap.size w w') : GOK w' :=
  ⟨trivial, fun j v hj => (hb.cell (p := ⟨0, j, none⟩) (cell_lt (h.sets_bands j v hj))).trans (h.sets_bands j v hj)⟩
theorem GOK.drewN {w : World} (h : GOK w) (n : Nat) : GOK (w.drewN n) := ⟨trivial, fun j v hj => h.sets_bands j v hj⟩
theorem GOK.drew {w : World} (h : GOK w) : GOK w.drew := ⟨trivial, fun j v hj => h.sets_bands j v hj⟩
end Go.Proofs.YtcpjflgiimjfmaaDoor.XC
