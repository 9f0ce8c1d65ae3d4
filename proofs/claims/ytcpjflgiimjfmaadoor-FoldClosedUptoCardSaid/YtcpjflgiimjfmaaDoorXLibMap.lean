/- A map that the call itself has made, text by text: its keys and what lies under each, in the order in which they came. -/
import Derived.Test.YtcpjflgiimjfmaaDoorWWords
import Derived.MapKept
import Derived.Carry
import Derived.Laws.StructEq
namespace Go.Proofs.YtcpjflgiimjfmaaDoor.XLib
open Go.RowKit Go.Proofs.YtcpjflgiimjfmaaDoorW.PrintWords
section
variable {α : Type} {d : Kd α} {e : Nat}
/-- block B is a map whose entries are L, in this order; each value is a row of the call's own from base on -/
def MapOwn (d : Kd α) (e : Nat) (w : World) (base B : Nat) (L : List (ByteArray × List α)) : Prop :=
  ∃ es : Array MapEntry, w.heap[B]? = some (.map es L.length) ∧ base ≤ B ∧ es.size = L.length ∧
    ∀ j n l, L[j]? = some (n, l) → ∃ en : MapEntry, es[j]? = some en ∧ en.key = .string n ∧ en.born = j ∧ d.R e w base (fun _ => True) en.val l
theorem MapOwn.lt {w : World} {base B : Nat} {L : List (ByteArray × List α)} (h : MapOwn d e w base B L) : B < w.heap.size := by
  obtain ⟨es, hB, _⟩ := h
  rcases Nat.lt_or_ge B w.heap.size with h1 | h1
  · exact h1
  · rw [Array.getElem?_eq_none h1] at hB; cases hB
theorem MapOwn.below {w w1 : World} {base B : Nat} {L : List (ByteArray × List α)} (h : MapOwn d e w base B L) (hb : Below w.heap.size w w1) : MapOwn d e w1 base B L := by
  have hlt := h.lt
  obtain ⟨es, hB, hbase, hs, hL⟩ := h
  exact ⟨es, (hb.block B hlt).trans hB, hbase, hs, fun j n l hj => by
    obtain ⟨en, h1, h2, h3, h4⟩ := hL j n l hj
    exact ⟨en, h1, h2, h3, Kd.R_below h4 hb⟩⟩
theorem MapOwn.new (d : Kd α) (e : Nat) (w : World) (base : Nat) (hb : base ≤ w.heap.size) : MapOwn d e (w.alloc (.map #[] 0)) base w.heap.size [] :=
  ⟨#[], heap_alloc_new w _, hb, rfl, fun j n l hj => by simp at hj⟩
end
section
variable {P : Program} {α : Type} {d : Kd α} {e : Nat} {ops : Array Oper} {rest : List Oper} {o : Oper} {a : Act} {Q : Exit → Act → World → Prop}
end
end Go.Proofs.YtcpjflgiimjfmaaDoor.XLib

