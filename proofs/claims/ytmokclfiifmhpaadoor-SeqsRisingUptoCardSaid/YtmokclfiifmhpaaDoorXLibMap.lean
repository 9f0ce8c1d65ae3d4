/- A map that the call itself has made, text by text: its keys and what lies under each, in the order in which they came. -/
import Derived.Test.YtmokclfiifmhpaaDoorWWords
import Derived.MapKept
import Derived.Carry
import Derived.Laws.StructEq
namespace Go.Proofs.YtmokclfiifmhpaaDoor.XLib
open Go.RowKit Go.Proofs.YtmokclfiifmhpaaDoorW.PrintWords
section
variable {α : Type} {d : Kd α} {e : Nat}
/-- block B is a map whose entries are L, in this order; each value is a row of the call's own from base on -/
def MapOwn (d : Kd α) (e : Nat) (w : World) (base B : Nat) (L : List (ByteArray × List α)) : Prop :=
  ∃ es : Array MapEntry, w.heap[B]? = some (.map es L.length) ∧ base ≤ B ∧ es.size = L.length ∧
    ∀ j n l, L[j]? = some (n, l) → ∃ en : MapEntry, es[j]? = some en ∧ en.key = .string n ∧ en.born = j ∧ d.R e w base (fun _ => True) en.val l
theorem MapOwn.lt {w : World} {base B : Nat} {L : List (ByteArray × List α)} (h : MapOwn d e w base B L) : B < w.heap.size := by
  obtain ⟨es, hB, _⟩ := h
  rcases Nat.lt_or_ge B w.heap.size with h1 | h1
  · exact h1
  · rw [Array.getElem?_eq_none h1] at hB; cases hB
theorem MapOwn.base_le {w : World} {base B : Nat} {L : List (ByteArray × List α)} (h : MapOwn d e w base B L) : base ≤ B := by
  obtain ⟨_, _, hb, _⟩ := h; exact hb
theorem MapOwn.below {w w1 : World} {base B : Nat} {L : List (ByteArray × List α)} (h : MapOwn d e w base B L) (hb : Below w.heap.size w w1) : MapOwn d e w1 base B L := by
  have hlt := h.lt
  obtain ⟨es, hB, hbase, hs, hL⟩ := h
  exact ⟨es, (hb.block B hlt).trans hB, hbase, hs, fun j n l hj => by
    obtain ⟨en, h1, h2, h3, h4⟩ := hL j n l hj
    exact ⟨en, h1, h2, h3, Kd.R_below h4 hb⟩⟩
theorem MapOwn.new (d : Kd α) (e : Nat) (w : World) (base : Nat) (hb : base ≤ w.heap.size) : MapOwn d e (w.alloc (.map #[] 0)) base w.heap.size [] :=
  ⟨#[], heap_alloc_new w _, hb, rfl, fun j n l hj => by simp at hj⟩
/-- the world with one entry more in the map -/
def putEntry (w : World) (B : Nat) (s : ByteArray) (v : Value) : World :=
  { w with heap := w.heap.modify B fun
      | .map es clock => .map (es.push { key := .string s, val := v, born := clock }) (clock + 1)
      | o => o }
theorem putEntry_heap {w : World} {B : Nat} {es : Array MapEntry} {clock : Nat} (hB : w.heap[B]? = some (.map es clock)) (s : ByteArray) (v : Value) :
    putEntry w B s v = { w with heap := w.heap.setIfInBounds B (.map (es.push { key := .string s, val := v, born := clock }) (clock + 1)) } := by
  unfold putEntry
  have hlt : B < w.heap.size := by
    rcases Nat.lt_or_ge B w.heap.size with h1 | h1
    · exact h1
    · rw [Array.getElem?_eq_none h1] at hB; cases hB
  congr 1
  apply Array.ext_getElem?
  intro i
  rw [Array.getElem?_modify, Array.getElem?_setIfInBounds]
  by_cases hi : B = i
  · subst hi
    rw [Array.getElem?_eq_getElem hlt] at hB
    simp [hlt, Option.some.inj hB]
  · simp [hi]
theorem putEntry_size (w : World) (B : Nat) (s : ByteArray) (v : Value) : (putEntry w B s v).heap.size = w.heap.size := by simp [putEntry]
theorem putEntry_other (w : World) (B : Nat) (s : ByteArray) (v : Value) (i : Nat) (hi : B ≠ i) : (putEntry w B s v).heap[i]? = w.heap[i]? := by
  simp [putEntry, Array.getElem?_modify, hi]
theorem putEntry_below {w0 w : World} {B : Nat} {s : ByteArray} {v : Value} (h : Below w0.heap.size w0 w) (hB : w0.heap.size ≤ B) : Below w0.heap.size w0 (putEntry w B s v) :=
  ⟨h.os, h.tape, h.output, by rw [putEntry_size]; exact h.size, fun i hi => (putEntry_other w B s v i (by omega)).trans (h.block i hi)⟩
theorem MapOwn.insert {w : World} {base B : Nat} {L : List (ByteArray × List α)} (h : MapOwn d e w base B L) (s : ByteArray) (v : Value) (l : List α) (hv : d.R e w base (fun _ => True) v l) :
    MapOwn d e (putEntry w B s v) base B (L ++ [(s, l)]) := by
  have hlt := h.lt
  obtain ⟨es, hB, hbase, hs, hL⟩ := h
  have hmove : ∀ {u : Value} {l : List α}, d.R e w base (fun _ => True) u l → d.R e (putEntry w B s v) base (fun _ => True) u l := fun {u l} hr =>
    Kd.R_mono (Kd.R_move (Kd.R_bound hr) (fun k hk => putEntry_other w B s _ k (by
      obtain ⟨_, _, _, q, _, cells, hc⟩ := hk
      rintro rfl
      rw [hB] at hc
      cases hc))) (fun _ _ => trivial)
  refine ⟨es.push { key := .string s, val := v, born := L.length }, ?_, hbase, by simp [hs], ?_⟩
  · rw [putEntry_heap hB]
    simp [hlt]
  · intro j n l' hj
    rcases Nat.lt_or_ge j L.length with hj1 | hj1
    · rw [List.getElem?_append_left hj1] at hj
      obtain ⟨en, h1, h2, h3, h4⟩ := hL j n l' hj
      exact ⟨en, by rw [Array.getElem?_push_lt (by omega)]; rw [← h1, Array.getElem?_eq_getElem (by omega)], h2, h3, hmove h4⟩
    · have hj2 : j = L.length := by
        have := (List.getElem?_eq_some_iff.1 hj).1
        simp at this
        omega
      subst hj2
      simp at hj
      obtain ⟨rfl, rfl⟩ := hj
      exact ⟨{ key := .string s, val := v, born := L.length }, by rw [← hs]; simp, rfl, rfl, hmove hv⟩
theorem bytes_beq (a b : ByteArray) : (a == b) = decide (a = b) := by
  rw [beq_toListBytes]
  by_cases h : a = b
  · subst h; simp
  · rw [decide_eq_false h, beq_eq_false_iff_ne]
    intro h2
    rw [ByteArray.toList_eq, ByteArray.toList_eq] at h2
    apply h
    obtain ⟨⟨x⟩⟩ := a
    obtain ⟨⟨y⟩⟩ := b
    simp at h2
    rw [h2]
/-- which of L has this name -/
def findIn (s : ByteArray) : List (ByteArray × List α) → Nat → Option (Nat × List α)
  | [], _ => none
  | (n, l) :: r, i => if s = n then some (i, l) else findIn s r (i + 1)
theorem findNow_string {P : Program} (s : ByteArray) : ∀ (es : List MapEntry) (L : List (ByteArray × List α)) (i : Nat), es.length = L.length → (∀ (j : Nat) (n : ByteArray) (l : List α), L[j]? = some (n, l) → ∃ en : MapEntry, es[j]? = some en ∧ en.key = .string n) →
    (findIn s L i = none → Instr.findNow .string (.string s) es i = some none) ∧
    (∀ (j : Nat) (l : List α), findIn s L i = some (j, l) → i ≤ j ∧ L[j - i]? = some (s, l) ∧ ∃ en : MapEntry, es[j - i]? = some en ∧ Instr.findNow .string (.string s) es i = some (some (j, en.val))) := by
  intro es
  induction es with
  | nil =>
    intro L i hl hk
    obtain rfl : L = [] := List.eq_nil_of_length_eq_zero (by simpa using hl.symm)
    exact ⟨fun _ => rfl, fun j l h => by simp [findIn] at h⟩
  | cons en es ih =>
    intro L i hl hk
    cases L with
    | nil => simp at hl
    | cons x L =>
      obtain ⟨n, l⟩ := x
      obtain ⟨en', h1, h2⟩ := hk 0 n l rfl
      obtain rfl : en = en' := by simpa using h1
      have hs : Instr.sameNow .string (.string s) en.key = some (s == n) := by rw [h2]; rfl
      have ih' := ih L (i + 1) (by simpa using hl) (fun j n' l' hj => by simpa using hk (j + 1) n' l' (by simpa using hj))
      by_cases hsn : s = n
      · subst hsn
        refine ⟨fun h => by simp [findIn] at h, fun j l' h => ?_⟩
        simp only [findIn, if_true, Option.some.injEq, Prod.mk.injEq] at h
        obtain ⟨rfl, rfl⟩ := h
        exact ⟨Nat.le_refl _, by simp, en, by simp, by simp [Instr.findNow, hs, bytes_beq]⟩
      · have hb : (s == n) = false := by rw [bytes_beq]; exact decide_eq_false hsn
        constructor
        · intro h
          simp only [findIn, if_neg hsn] at h
          simp only [Instr.findNow, hs, hb]
          exact ih'.1 h
        · intro j l' h
          simp only [findIn, if_neg hsn] at h
          obtain ⟨h3, h4, en', h5, h6⟩ := ih'.2 j l' h
          refine ⟨by omega, ?_, en', ?_, ?_⟩
          · rw [show j - i = (j - (i + 1)) + 1 by omega]; simpa using h4
          · rw [show j - i = (j - (i + 1)) + 1 by omega]; simpa using h5
          · simp only [Instr.findNow, hs, hb]; exact h6
theorem MapOwn.findNow {P : Program} {w : World} {base B : Nat} {L : List (ByteArray × List α)} (h : MapOwn d e w base B L) (s : ByteArray) :
    ∃ es clock, w.heap[B]? = some (.map es clock) ∧ (findIn s L 0 = none → Instr.findNow .string (.string s) es.toList 0 = some none) ∧
      (∀ j l, findIn s L 0 = some (j, l) → ∃ v, Instr.findNow .string (.string s) es.toList 0 = some (some (j, v)) ∧ d.R e w base (fun _ => True) v l) := by
  obtain ⟨es, hB, hbase, hs, hL⟩ := h
  refine ⟨es, _, hB, ?_⟩
  have key := findNow_string (P := P) s es.toList L 0 (by simpa using hs) (fun j n l hj => by
    obtain ⟨en, h1, h2, _⟩ := hL j n l hj
    exact ⟨en, by simpa using h1, h2⟩)
  refine ⟨key.1, fun j l hj => ?_⟩
  obtain ⟨_, h2, en, h3, h4⟩ := key.2 j l hj
  obtain ⟨en', h5, h6, _, h7⟩ := hL j s l (by simpa using h2)
  obtain rfl : en = en' := by
    have : es[j]? = some en := by simpa using h3
    rw [h5] at this; exact (Option.some.inj this).symm
  exact ⟨en.val, h4, h7⟩
end
section
variable {P : Program} {α : Type} {d : Kd α} {e : Nat} {ops : Array Oper} {rest : List Oper} {o : Oper} {a : Act} {Q : Exit → Act → World → Prop}
theorem run_checkKey_string (b : Bool) (n : Nat) (t : TypeId) (ht : P.underlying t = some .string) (s : ByteArray) (w : World) : (Instr.checkKey b (n + 1) t (.string s)).run P w = .ok () w := by
  simp [Instr.checkKey, run_underlying ht]
theorem rgo {w : World} {r : Nat} {es : Array MapEntry} {ck : Nat} (h : w.heap[r]? = some (.map es ck)) : (getObj r).run P w = .ok (.map es ck) w := by simp [getObj, Sem.run, h]
theorem rso {w : World} {r : Nat} {es : Array MapEntry} {ck : Nat} {ob' : Obj} (h : w.heap[r]? = some (.map es ck)) : (setObj r ob').run P w = .ok () { w with heap := w.heap.setIfInBounds r ob' } := by simp [setObj, Sem.run, h]
/-- m[s] = v, s new -/
theorem wpList_insert_new {w : World} (hgd : o.guard = none) (m k x : Operand) (t kt et : TypeId) (ho : o.op = .insert t m k x) (hdst : o.dst = none) (ht : P.underlying t = some (.map kt et)) (hk : P.underlying kt = some .string)
    (base B : Nat) (L : List (ByteArray × List α)) (hm : a.eval m = .map (some B)) (s : ByteArray) (hs : a.eval k = .string s) (v : Value) (hx : a.eval x = v) (hM : MapOwn d e w base B L) (hnew : findIn s L 0 = none)
    (h : wpList P ops Q rest a (putEntry w B s v)) : wpList P ops Q (o :: rest) a w := by
  refine wpList_plain hgd fun K hK => ?_
  obtain ⟨es, clock, hB, hn, _⟩ := hM.findNow (P := P) s
  have hf := hn hnew
  have hrun : (Instr.mapUpdate t (.map (some B)) (.string s) v).run P w = .ok () (putEntry w B s v) := by
    rw [putEntry_heap hB]
    simp only [Instr.mapUpdate, Sem.run_bind, run_underlying ht, Result.andThen_ok, rgo hB, run_checkKey_string false 9999 kt hk s w, Instr.findKey, run_underlying hk, hf, Sem.run_pure]
    exact rso hB
  unfold Oper.wp
  simp only [execOp, ho, hm, hs, hx]
  simp only [hrun, Result.andThen, Sem.run_bind, Sem.run_pure, Oper.upon_skip, hdst]
  exact hK _ _ h
/-- v, ok := m[s] -/
theorem wpList_lookup_ok {w : World} (hgd : o.guard = none) (m k : Operand) (t kt et : TypeId) (ho : o.op = .lookup t m k true) (ht : P.underlying t = some (.map kt et)) (hk : P.underlying kt = some .string)
    (base B : Nat) (L : List (ByteArray × List α)) (hm : a.eval m = .map (some B)) (s : ByteArray) (hs : a.eval k = .string s) (hM : MapOwn d e w base B L) (hz : (zeroValue et).run P w = .ok (.slice none 0 0) w)
    (hyes : ∀ v j l, findIn s L 0 = some (j, l) → d.R e w base (fun _ => True) v l → wpList P ops Q rest (a.put o.dst (.tuple #[v, .bool true])) w)
    (hno : findIn s L 0 = none → wpList P ops Q rest (a.put o.dst (.tuple #[.slice none 0 0, .bool false])) w) : wpList P ops Q (o :: rest) a w := by
  refine wpList_plain hgd fun K hK => ?_
  obtain ⟨es, clock, hB, hn, hj⟩ := hM.findNow (P := P) s
  unfold Oper.wp
  simp only [execOp, ho, hm, hs]
  cases hf : findIn s L 0 with
  | none =>
    have hrun : (Instr.lookup t (.map (some B)) (.string s) true).run P w = .ok (.tuple #[.slice none 0 0, .bool false]) w := by
      simp only [Instr.lookup, Sem.run_bind, run_underlying ht, Result.andThen_ok, rgo hB, run_checkKey_string _ 9999 kt hk s w, Instr.findKey, run_underlying hk, hn hf, Sem.run_pure, hz, if_true]
    simp only [hrun, Result.andThen, Sem.run_bind, Sem.run_pure, Oper.upon_value]
    exact hK _ _ (hno hf)
  | some x =>
    obtain ⟨j, l⟩ := x
    obtain ⟨v, hv, hr⟩ := hj j l hf
    have hrun : (Instr.lookup t (.map (some B)) (.string s) true).run P w = .ok (.tuple #[v, .bool true]) w := by
      simp only [Instr.lookup, Sem.run_bind, run_underlying ht, Result.andThen_ok, rgo hB, run_checkKey_string _ 9999 kt hk s w, Instr.findKey, run_underlying hk, hv, Sem.run_pure, if_true]
    simp only [hrun, Result.andThen, Sem.run_bind, Sem.run_pure, Oper.upon_value]
    exact hK _ _ (hyes v j l hf hr)
/-- a literal's row of whole numbers, just made -/
theorem lits_reads (W : World) (k : IntKind) (t : TypeId) (cs : Array Value) (zs : List Int) (n : Nat) (h1 : cs = (zs.map fun z => Value.int k z).toArray) (h2 : n = zs.length) (h3 : zs.length ≤ 9223372036854775807) :
    Kd.C (Kd.int k) (W.alloc (.cells cs t)) (some ⟨W.heap.size, 0, none⟩) zs.length zs := by
  subst h1 h2
  refine ⟨rfl, h3, fun _ => ⟨_, rfl, fun j p hj => ⟨[.int k p], rfl, rfl, fun i u hu => ?_⟩⟩⟩
  obtain ⟨rfl, rfl⟩ : i = 0 ∧ Value.int k p = u := by
    rcases i with _ | i
    · exact ⟨rfl, by simpa using hu⟩
    · simp at hu
  have hc := blk_cell (heap_alloc_new W (.cells ((zs.map fun z => Value.int k z).toArray) t)) j
  have ha : (⟨W.heap.size, 0, none⟩ : Addr).add (j * (Kd.int k).sz + 0) = ⟨W.heap.size, j, none⟩ := by
    show (⟨W.heap.size, 0, none⟩ : Addr).add (j * 1 + 0) = _
    rw [Nat.mul_one, Nat.add_zero]
    unfold Addr.add
    split
    · next h => simp [h]
    · simp
  rw [ha, hc]
  simp [hj]
end
end Go.Proofs.YtmokclfiifmhpaaDoor.XLib
