/- From what an argument reads as to what its cells are: kind by kind; with what is known of the numbers and of how much the reading holds. -/
import Derived.Test.YtcpjflgiimjfmaaDoorRows
import Derived.Test.YtcpjflgiimjfmaaDoorWWords
import Derived.ChangeArms
import Derived.DataReads
import Derived.Lib.LaidTab
namespace Go.Proofs.YtcpjflgiimjfmaaDoor.XLib
open Go.Lib Go.RowKit Go.Proofs.YtcpjflgiimjfmaaDoorW.PrintWords
/-- a value of type t that reads as dd has the cells of an x of kind d; x is ok; it holds no more than the reading -/
structure Opens {α : Type} (P : Program) (t : TypeId) (d : Kd α) (ok : α → Prop) (mu : α → Nat) : Prop where
  sz : P.cellsOf t = d.sz
  op : ∀ {H : Type} {enc : TypeId × Value → H} {w : World} {base : Nat} {sp : Nat → Bool} {held : Bool} {fuel : Nat} {cs : List Value} {dd : DataW H} {ps : List MemPlace},
    DataW.trod enc P w base sp held fuel t cs = some (dd, ps) → ∃ x, d.K w x cs ∧ ok x ∧ mu x ≤ Rows.uptoBulk dd
theorem Opens.int {P : Program} {t : TypeId} {k : IntKind} (ht : P.underlying t = some (.int k)) (hc : P.cellsOf t = 1) : Opens P t (Kd.int k) (fun x => (Lit.int k x).wf = true) (fun _ => 1) :=
  ⟨hc, fun h => by
    obtain ⟨n, rfl, e, hw⟩ := DataW.trod_int ht h
    obtain ⟨rfl, rfl⟩ := Prod.mk.inj e
    exact ⟨n, rfl, hw, by simp [Rows.uptoBulk]⟩⟩
theorem Opens.bool {P : Program} {t : TypeId} (ht : P.underlying t = some .bool) (hc : P.cellsOf t = 1) : Opens P t Kd.bool (fun _ => True) (fun _ => 1) :=
  ⟨hc, fun h => by
    obtain ⟨n, rfl, e⟩ := DataW.trod_bool ht h
    obtain ⟨rfl, rfl⟩ := Prod.mk.inj e
    exact ⟨n, rfl, trivial, by simp [Rows.uptoBulk]⟩⟩
theorem Opens.string {P : Program} {t : TypeId} (ht : P.underlying t = some .string) (hc : P.cellsOf t = 1) : Opens P t Kd.string (fun x => x.size ≤ maxLen) (fun x => x.size + 1) :=
  ⟨hc, fun h => by
    obtain ⟨n, rfl, e, hw⟩ := DataW.trod_string ht h
    obtain ⟨rfl, rfl⟩ := Prod.mk.inj e
    refine ⟨n, rfl, hw, ?_⟩
    simp only [Rows.uptoBulk, Array.length_toList]
    exact Nat.le_refl _⟩
/-- the sum of a list's measures -/
def sumMu {α : Type} (mu : α → Nat) : List α → Nat
  | [] => 0
  | x :: r => mu x + sumMu mu r
theorem sumMu_length {α : Type} (mu : α → Nat) (h1 : ∀ x, 1 ≤ mu x) : ∀ (l : List α), l.length ≤ sumMu mu l
  | [] => by simp [sumMu]
  | x :: r => by have := sumMu_length mu h1 r; have := h1 x; simp only [sumMu, List.length_cons]; omega
theorem Opens.slice {α : Type} {P : Program} {t e : TypeId} {d : Kd α} {ok : α → Prop} {mu : α → Nat} (ht : P.underlying t = some (.slice e)) (hc : P.cellsOf t = 1) (h : Opens P e d ok mu) :
    Opens P t (Kd.slice e d) (fun l => l.length ≤ maxLen ∧ ∀ x ∈ l, ok x) (fun l => sumMu mu l + 1) :=
  ⟨hc, fun {H enc w base sp held fuel cs dd ps} ho => by
    cases fuel with
    | zero => simp [DataW.trod] at ho
    | succ fuel =>
      unfold DataW.trod at ho
      rw [ht] at ho
      split at ho <;> simp only [reduceCtorEq, Option.some.injEq, TypeDesc.slice.injEq] at *
      · obtain ⟨rfl, rfl⟩ := Prod.mk.inj ho
        exact ⟨[], ⟨none, 0, rfl, Nat.le_refl _, Kd.C_nil d w⟩, ⟨by simp, by simp⟩, by simp [sumMu, Rows.uptoBulk]⟩
      · rename_i e' a len cap he
        subst he
        split at ho
        · rename_i hb
          obtain ⟨elems, hm, ho⟩ := Option.bind_eq_some_iff.1 ho
          obtain ⟨rest, _, ho⟩ := Option.map_eq_some_iff.1 ho
          obtain ⟨rfl, rfl⟩ := Prod.mk.inj ho
          have hlen : elems.length = len := by simpa using mapM_length hm
          have key : ∀ n, n ≤ elems.length → ∃ xs : List α, xs.length = n ∧ (∀ j p, xs[j]? = some p → ∃ c, c.length = d.sz ∧ d.K w p c ∧ ∀ i u, c[i]? = some u → w.cell? (a.add (j * d.sz + i)) = some u) ∧ (∀ x ∈ xs, ok x) ∧ sumMu mu xs ≤ Rows.uptoBulkAll ((elems.take n).map (·.1)) := by
            intro n
            induction n with
            | zero => exact fun _ => ⟨[], rfl, by simp, by simp, by simp [sumMu]⟩
            | succ n ih =>
              intro hn
              obtain ⟨xs, hxl, hx1, hx2, hx3⟩ := ih (by omega)
              obtain ⟨b, hb1, hf⟩ := mapM_at hm n n (List.getElem?_range (by omega))
              obtain ⟨cs1, hcells, ht1⟩ := Option.bind_eq_some_iff.1 hf
              obtain ⟨x, hK, hok, hmu⟩ := h.op (dd := b.1) (ps := b.2) ht1
              refine ⟨xs ++ [x], by simp [hxl], ?_, ?_, ?_⟩
              · intro j p hj
                rcases Nat.lt_or_ge j xs.length with hj1 | hj1
                · rw [List.getElem?_append_left hj1] at hj
                  exact hx1 j p hj
                · have hj2 : j = n := by
                    have := (List.getElem?_eq_some_iff.1 hj).1
                    simp at this
                    omega
                  subst hj2
                  rw [List.getElem?_append_right hj1] at hj
                  obtain rfl : x = p := by simpa [hxl] using hj
                  have hlc := d.K_len hK
                  refine ⟨cs1, hlc, hK, fun i u hu => ?_⟩
                  have hi : i < d.sz := by
                    have := (List.getElem?_eq_some_iff.1 hu).1
                    omega
                  unfold World.cells? at hcells
                  split at hcells
                  · rw [h.sz] at hcells
                    obtain ⟨v, hv, hcell⟩ := mapM_at hcells i i (List.getElem?_range hi)
                    rw [hu] at hv
                    obtain rfl := Option.some.inj hv
                    have ha : (a.add (j * d.sz)).add i = a.add (j * d.sz + i) := by
                      unfold Addr.add
                      by_cases h1 : j * d.sz = 0 <;> by_cases h2 : i = 0 <;> simp [h1, h2, Nat.add_assoc]
                    rw [← ha]
                    exact hcell
                  · cases hcells
              · intro y hy
                rcases List.mem_append.1 hy with hy | hy
                · exact hx2 y hy
                · rw [List.mem_singleton.1 hy]; exact hok
              · have hs : ∀ (l : List α), sumMu mu (l ++ [x]) = sumMu mu l + mu x := by
                  intro l; induction l with
                  | nil => simp [sumMu]
                  | cons y l ih => simp only [List.cons_append, sumMu, ih]; omega
                have hu : ∀ (l : List (DataW H)) (y : DataW H), Rows.uptoBulkAll (l ++ [y]) = Rows.uptoBulkAll l + Rows.uptoBulk y := by
                  intro l y; induction l with
                  | nil => simp [Rows.uptoBulkAll]
                  | cons z l ih => simp only [List.cons_append, Rows.uptoBulkAll, ih]; omega
                rw [hs, List.take_succ_eq_append_getElem (by omega), List.map_append, List.map_cons, List.map_nil, hu]
                have hbe : elems[n] = b := by
                  rw [List.getElem?_eq_getElem (by omega)] at hb1
                  exact Option.some.inj hb1
                rw [hbe]
                omega
          obtain ⟨xs, hxl, hx1, hx2, hx3⟩ := key elems.length (Nat.le_refl _)
          rw [List.take_length] at hx3
          have hmax : len ≤ maxLen := by omega
          refine ⟨xs, ⟨some a, cap, by rw [hxl, hlen], by omega, hxl ▸ rfl, ?_, fun _ => ⟨a, rfl, hx1⟩⟩, ⟨by omega, hx2⟩, ?_⟩
          · have : maxLen ≤ 9223372036854775807 := by decide
            omega
          · simp only [Rows.uptoBulk]
            omega
        · cases ho
      all_goals cases ho⟩
/-- the fields of a struct, from the cell 'off' on -/
structure OpensF {β : Type} (P : Program) (fs : List Field) (off : Nat) (d : Kd β) (ok : β → Prop) (mu : β → Nat) : Prop where
  op : ∀ {H : Type} {enc : TypeId × Value → H} {w : World} {base : Nat} {sp : Nat → Bool} {held : Bool} {fuel : Nat} {cs : List Value} {xs : List (DataW H × List MemPlace)},
    fs.mapM (fun f => DataW.trod enc P w base sp held fuel f.type ((cs.drop f.offset).take (P.cellsOf f.type))) = some xs → ∃ x, d.K w x ((cs.drop off).take d.sz) ∧ ok x ∧ mu x ≤ Rows.uptoBulkAll (xs.map (·.1))
theorem OpensF.one {α : Type} {P : Program} {f : Field} {off : Nat} {d : Kd α} {ok : α → Prop} {mu : α → Nat} (ho : f.offset = off) (h : Opens P f.type d ok mu) : OpensF P [f] off d ok mu :=
  ⟨fun {H enc w base sp held fuel cs xs} hm => by
    simp only [List.mapM_cons, List.mapM_nil, Option.bind_eq_bind, Option.bind_eq_some_iff, Option.pure_def, Option.some.injEq] at hm
    obtain ⟨b, hb, r, rfl, rfl⟩ := hm
    rw [h.sz, ho] at hb
    obtain ⟨x, h1, h2, h3⟩ := h.op (dd := b.1) (ps := b.2) hb
    exact ⟨x, h1, h2, by simpa [Rows.uptoBulkAll] using h3⟩⟩
theorem OpensF.cons {α β : Type} {P : Program} {f : Field} {fs : List Field} {off : Nat} {d : Kd α} {ok : α → Prop} {mu : α → Nat} {d2 : Kd β} {ok2 : β → Prop} {mu2 : β → Nat} (ho : f.offset = off) (h : Opens P f.type d ok mu) (h2 : OpensF P fs (off + d.sz) d2 ok2 mu2) :
    OpensF P (f :: fs) off (Kd.pair d d2) (fun x => ok x.1 ∧ ok2 x.2) (fun x => mu x.1 + mu2 x.2) :=
  ⟨fun {H enc w base sp held fuel cs xs} hm => by
    simp only [List.mapM_cons, Option.bind_eq_bind, Option.bind_eq_some_iff, Option.pure_def, Option.some.injEq] at hm
    obtain ⟨b, hb, r, hr, rfl⟩ := hm
    rw [h.sz, ho] at hb
    obtain ⟨x, g1, g2, g3⟩ := h.op (dd := b.1) (ps := b.2) hb
    obtain ⟨y, k1, k2, k3⟩ := h2.op hr
    refine ⟨(x, y), ⟨_, _, ?_, g1, k1⟩, ⟨g2, k2⟩, ?_⟩
    · show (cs.drop off).take (d.sz + d2.sz) = _
      rw [List.take_add, List.drop_drop]
    · simp only [List.map_cons, Rows.uptoBulkAll]; omega⟩
theorem Opens.struct {α β : Type} {P : Program} {t : TypeId} {fs : Array Field} {d : Kd β} {ok : β → Prop} {mu : β → Nat} (f : α → β) (g : β → α) (hfg : ∀ y, f (g y) = y) (ht : P.underlying t = some (.struct fs)) (hc : P.cellsOf t = d.sz) (h : OpensF P fs.toList 0 d ok mu) :
    Opens P t (Kd.iso d f) (fun x => ok (f x)) (fun x => mu (f x) + 1) :=
  ⟨hc, fun {H enc w base sp held fuel cs dd ps} ho => by
    cases fuel with
    | zero => simp [DataW.trod] at ho
    | succ fuel =>
      unfold DataW.trod at ho
      rw [ht] at ho
      simp only at ho
      split at ho
      · rename_i hl
        obtain ⟨xs, hm, ho⟩ := Option.map_eq_some_iff.1 ho
        obtain ⟨rfl, rfl⟩ := Prod.mk.inj ho
        obtain ⟨y, h1, h2, h3⟩ := h.op hm
        have hcs : (cs.drop 0).take d.sz = cs := by rw [List.drop_zero, ← hc, ← hl, List.take_length]
        rw [hcs] at h1
        exact ⟨g y, by show d.K w (f (g y)) cs; rw [hfg]; exact h1, by rw [hfg]; exact h2, by rw [hfg]; simp only [Rows.uptoBulk]; omega⟩
      · cases ho⟩
end Go.Proofs.YtcpjflgiimjfmaaDoor.XLib

