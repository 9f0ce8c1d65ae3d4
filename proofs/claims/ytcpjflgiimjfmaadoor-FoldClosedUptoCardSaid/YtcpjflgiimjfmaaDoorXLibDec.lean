/- One block that a call writes, all others kept: 'Kp'. A decoder's block: 'Dec'. -/
import Derived.Test.YtcpjflgiimjfmaaDoorWWords
import Derived.OrdersHeld
namespace Go.Proofs.YtcpjflgiimjfmaaDoor.XLib
open Go.RowKit Go.Proofs.YtcpjflgiimjfmaaDoorW.PrintWords
/-- all blocks of w but b stand in w1 -/
structure Kp (b : Nat) (w w1 : World) : Prop where
  os : w1.os = w.os
  tape : w1.tape = w.tape
  output : w1.output = w.output
  size : w.heap.size ≤ w1.heap.size
  block : ∀ k, k < w.heap.size → k ≠ b → w1.heap[k]? = w.heap[k]?
theorem Kp.refl (b : Nat) (w : World) : Kp b w w := ⟨rfl, rfl, rfl, Nat.le_refl _, fun _ _ _ => rfl⟩
theorem Kp.trans {b : Nat} {w w1 w2 : World} (h : Kp b w w1) (k : Kp b w1 w2) : Kp b w w2 :=
  ⟨k.os.trans h.os, k.tape.trans h.tape, k.output.trans h.output, Nat.le_trans h.size k.size, fun i hi hb => (k.block i (Nat.lt_of_lt_of_le hi h.size) hb).trans (h.block i hi hb)⟩
theorem Kp.of_below {b : Nat} {w w1 : World} (h : Below w.heap.size w w1) : Kp b w w1 := ⟨h.os, h.tape, h.output, h.size, fun i hi _ => h.block i hi⟩
theorem Kp.below {b B : Nat} {w0 w w1 : World} (h0 : Below B w0 w) (h : Kp b w w1) (hb : B ≤ b) (hB : B ≤ w.heap.size) : Below B w0 w1 :=
  ⟨h.os.trans h0.os, h.tape.trans h0.tape, h.output.trans h0.output, Nat.le_trans h0.size h.size, fun i hi => (h.block i (Nat.lt_of_lt_of_le hi hB) (by omega)).trans (h0.block i hi)⟩
theorem Kp.set {b : Nat} {w w1 : World} (h : Kp b w w1) (j : Nat) (v : Value) : Kp b w (w1.setCell ⟨b, j, none⟩ v) :=
  ⟨h.os, h.tape, h.output, by rw [show (w1.setCell ⟨b, j, none⟩ v).heap.size = w1.heap.size by simp [World.setCell]]; exact h.size,
   fun i hi hb => (Below.heap_setCell w1 ⟨b, j, none⟩ v i hb).trans (h.block i hi hb)⟩
/-- block b is a decoder (type t) that holds these bytes -/
def Dec (t : Nat) (w : World) (b : Nat) (hs : List UInt8) : Prop :=
  ∃ c0 c1 c2 c3 : UInt8, hs.length ≤ 4 ∧ hs = [c0, c1, c2, c3].take hs.length ∧
    w.heap[b]? = some (.cells #[.int .u8 (c0.toNat : Int), .int .u8 (c1.toNat : Int), .int .u8 (c2.toNat : Int), .int .u8 (c3.toNat : Int), .int .i64 (hs.length : Int)] t (0, 0))
theorem Dec.lt {t : Nat} {w : World} {b : Nat} {hs : List UInt8} (h : Dec t w b hs) : b < w.heap.size := by
  obtain ⟨_, _, _, _, _, _, hB⟩ := h
  rcases Nat.lt_or_ge b w.heap.size with h1 | h1
  · exact h1
  · rw [Array.getElem?_eq_none h1] at hB; cases hB
theorem Dec.move {t : Nat} {w w1 : World} {b : Nat} {hs : List UInt8} (h : Dec t w b hs) (hm : w1.heap[b]? = w.heap[b]?) : Dec t w1 b hs := by
  obtain ⟨c0, c1, c2, c3, h1, h2, hB⟩ := h
  exact ⟨c0, c1, c2, c3, h1, h2, hm.trans hB⟩
theorem Dec.below {t : Nat} {w w1 : World} {b : Nat} {hs : List UInt8} (h : Dec t w b hs) (hk : Below w.heap.size w w1) : Dec t w1 b hs := h.move (hk.block b h.lt)
/-- a store into the decoder's block -/
theorem set_cell {t b : Nat} {w : World} {cs : Array Value} (h : w.heap[b]? = some (.cells cs t (0, 0))) (j : Nat) (v : Value) : (w.setCell ⟨b, j, none⟩ v).heap[b]? = some (.cells (cs.setIfInBounds j v) t (0, 0)) := by
  have hlt : b < w.heap.size := by
    rcases Nat.lt_or_ge b w.heap.size with h1 | h1
    · exact h1
    · rw [Array.getElem?_eq_none h1] at h; cases h
  rw [Array.getElem?_eq_getElem hlt] at h
  have h2 := Option.some.inj h
  simp only [World.setCell]
  rw [Array.getElem?_eq_getElem (by simpa using hlt), Array.getElem_modify, if_pos rfl, h2]
  rfl
section
variable {P : Program} {ops : Array Oper} {Q : Exit → Act → World → Prop} {md : Region.Mode} {S : World → Prop}
end
end Go.Proofs.YtcpjflgiimjfmaaDoor.XLib

