/- Ranging over a string: the iterator's block, and one step of it. -/
import Derived.Test.YtcpjflgiimjfmaaDoorWWords
import Derived.Laws.RangeAny
namespace Go.Proofs.YtcpjflgiimjfmaaDoor.XLib
open Go.RowKit Go.Proofs.YtcpjflgiimjfmaaDoorW.PrintWords
/-- the iterator's block put to a place -/
def putIter (w : World) (g : Nat) (s : ByteArray) (p : Nat) : World := { w with heap := w.heap.setIfInBounds g (.stringIter s p) }
theorem putIter_heap {w : World} {g : Nat} {s s' : ByteArray} {p p' : Nat} (h : w.heap[g]? = some (.stringIter s' p')) : (putIter w g s p).heap[g]? = some (.stringIter s p) := by
  have hlt : g < w.heap.size := by
    rcases Nat.lt_or_ge g w.heap.size with h1 | h1
    · exact h1
    · rw [Array.getElem?_eq_none h1] at h; cases h
  simp [putIter, hlt]
theorem putIter_size (w : World) (g : Nat) (s : ByteArray) (p : Nat) : (putIter w g s p).heap.size = w.heap.size := by simp [putIter]
theorem putIter_other (w : World) (g : Nat) (s : ByteArray) (p : Nat) (i : Nat) (hi : g ≠ i) : (putIter w g s p).heap[i]? = w.heap[i]? := by
  simp [putIter, Array.getElem?_setIfInBounds, hi]
theorem putIter_below {w0 w : World} {g : Nat} {s : ByteArray} {p : Nat} (h : Below w0.heap.size w0 w) (hg : w0.heap.size ≤ g) : Below w0.heap.size w0 (putIter w g s p) :=
  ⟨h.os, h.tape, h.output, by rw [putIter_size]; exact h.size, fun i hi => (putIter_other w g s p i (by omega)).trans (h.block i hi)⟩
/-- a row of the call's own stays where an iterator steps on -/
theorem R_putIter {α : Type} {d : Kd α} {e : Nat} {w : World} {base : Nat} {ok : Nat → Prop} {v : Value} {xs : List α} {g : Nat} {s s' : ByteArray} {p p' : Nat} (h : d.R e w base ok v xs) (hg : w.heap[g]? = some (.stringIter s' p')) : d.R e (putIter w g s p) base ok v xs :=
  Kd.R_mono (Kd.R_move (Kd.R_bound h) (fun k hk => putIter_other w g s p k (by
    obtain ⟨_, _, _, q, _, cells, hc⟩ := hk
    rintro rfl
    rw [hg] at hc
    cases hc))) (fun _ hk => hk.1)
theorem R_ne_iter {α : Type} {d : Kd α} {e : Nat} {w : World} {base : Nat} {ok : Nat → Prop} {v : Value} {xs : List α} {g : Nat} {s : ByteArray} {p : Nat} (h : d.R e w base ok v xs) (hg : w.heap[g]? = some (.stringIter s p)) : some g ≠ v.ownBlock := by
  intro he
  obtain ⟨_, _, _, q, _, cells, hc⟩ := (Kd.R_bound h).1 g he.symm
  rw [hg] at hc
  cases hc
theorem iterPos_of {w : World} {g : Nat} {s : ByteArray} {p : Nat} (h : w.heap[g]? = some (.stringIter s p)) : w.iterPos g = p := by simp [World.iterPos, h]
theorem width_pos (s : ByteArray) (p : Nat) (h : p < s.size) : 1 ≤ (Utf8.decode s p).2 := by
  by_cases ha : (s[p]'h).toNat < 128
  · rw [decode_ascii s p h ha]
    exact Nat.le_refl _
  · exact (decode_high s p h (by omega)).2
theorem below_drawn {b : Nat} {w0 w w' : World} (h : Below b w0 w) (hd : Drawn0 w w') : Below b w0 w' := by
  obtain ⟨⟨m, rfl⟩⟩ := hd
  exact pw_below_drewN h m
section
variable {P : Program} {ops : Array Oper} {rest : List Oper} {o : Oper} {a : Act} {Q : Exit → Act → World → Prop}
/-- a step of the iterator -/
theorem wpList_next {w : World} (hgd : o.guard = none) (x : Operand) (ho : o.op = .next x true) (g : Nat) (s : ByteArray) (p : Nat) (hx : a.eval x = .pointer (some ⟨g, 0, none⟩)) (hI : w.heap[g]? = some (.stringIter s p))
    (hmore : p < s.size → wpList P ops Q rest (a.put o.dst (.tuple #[.bool true, .int .i64 p, .int .i32 (Utf8.decode s p).1])) (putIter w g s (p + (Utf8.decode s p).2)))
    (hend : ¬ p < s.size → wpList P ops Q rest (a.put o.dst (.tuple #[.bool false])) w) : wpList P ops Q (o :: rest) a w := by
  refine wpList_plain hgd fun K hK => ?_
  have hgo : (getObj g).run P w = .ok (.stringIter s p) w := by simp [getObj, Sem.run, hI]
  have hso : ∀ ob', (setObj g ob').run P w = .ok () { w with heap := w.heap.setIfInBounds g ob' } := fun ob' => by simp [setObj, Sem.run, hI]
  unfold Oper.wp
  simp only [execOp, ho, hx]
  by_cases hp : p < s.size
  · have hrun : (Instr.next (.pointer (some ⟨g, 0, none⟩)) true o.type).run P w = .ok (.tuple #[.bool true, .int .i64 p, .int .i32 (Utf8.decode s p).1]) (putIter w g s (p + (Utf8.decode s p).2)) := by
      simp only [Instr.next, Sem.run_bind, hgo, Result.andThen_ok, hp, if_true, hso, Sem.run_pure]
      rfl
    simp only [hrun, Result.andThen, Sem.run_bind, Sem.run_pure, Oper.upon_value]
    exact hK _ _ (hmore hp)
  · have hrun : (Instr.next (.pointer (some ⟨g, 0, none⟩)) true o.type).run P w = .ok (.tuple #[.bool false]) w := by
      simp only [Instr.next, Sem.run_bind, hgo, Result.andThen_ok, hp, if_false, Sem.run_pure]
    simp only [hrun, Result.andThen, Sem.run_bind, Sem.run_pure, Oper.upon_value]
    exact hK _ _ (hend hp)
end
end Go.Proofs.YtcpjflgiimjfmaaDoor.XLib

