/- From a row's condition on its listed variables to their cells: tables of whole numbers, and of pairs of them. -/
import Derived.Test.YtcpjflgiimjfmaaDoorWWords
import Derived.Lib.LaidTab
import Derived.Stop.LaidErr
import Derived.FnData
namespace Go.Proofs.YtcpjflgiimjfmaaDoor.XLib
open Go.Lib
theorem trod_pair {H : Type} {enc : TypeId × Value → H} {P : Program} {w : World} {base : Nat} {sp : Nat → Bool} {held : Bool} {fuel : Nat} {e i : TypeId} {k : IntKind} {f0 f1 : Field} {cs : List Value} {a b : Int} {p : List MemPlace}
    (he : P.underlying e = some (.struct #[f0, f1])) (hce : P.cellsOf e = 2) (hi : P.underlying i = some (.int k)) (hci : P.cellsOf i = 1) (h0 : f0.type = i) (h0o : f0.offset = 0) (h1 : f1.type = i) (h1o : f1.offset = 1)
    (h : DataW.trod enc P w base sp held fuel e cs = some (.agg [.lit (.int k a), .lit (.int k b)], p)) : cs = [.int k a, .int k b] := by
  cases fuel with
  | zero => simp [DataW.trod] at h
  | succ fuel =>
    simp only [DataW.trod, he, hce] at h
    split at h
    · rename_i hl
      obtain ⟨xs, hm, hx⟩ := Option.map_eq_some_iff.1 h
      simp only [List.mapM_cons, List.mapM_nil, Option.bind_eq_bind, Option.bind_eq_some_iff, Option.pure_def, Option.some.injEq, h0, h0o, h1, h1o, hci] at hm
      obtain ⟨x0, hx0, r0, ⟨x1, hx1, r1, rfl, rfl⟩, rfl⟩ := hm
      simp only [List.map_cons, List.map_nil, Prod.mk.injEq, DataW.agg.injEq, List.cons.injEq, and_true] at hx
      obtain ⟨⟨e0, e1⟩, _⟩ := hx
      obtain ⟨z0, hc0, hd0, _⟩ := DataW.trod_int hi hx0
      obtain ⟨z1, hc1, hd1, _⟩ := DataW.trod_int hi hx1
      have g0 := e0.symm.trans (congrArg Prod.fst hd0)
      have g1 := e1.symm.trans (congrArg Prod.fst hd1)
      injection g0 with g0
      injection g0 with _ g0
      injection g1 with g1
      injection g1 with _ g1
      subst g0 g1
      match cs, hl with
      | [c0, c1], _ => simp at hc0 hc1; rw [hc0, hc1]
    · cases h
theorem cells_of_pairs {H : Type} {enc : TypeId × Value → H} {P : Program} {w : World} {base : Nat} {sp : Nat → Bool} {held : Bool} {fuel : Nat} {t e i : TypeId} {n : Nat} {k : IntKind} {f0 f1 : Field} {cs : List Value} {zs : List (Int × Int)} {p : List MemPlace}
    (ht : P.underlying t = some (.array n e)) (hct : P.cellsOf t = n * 2) (he : P.underlying e = some (.struct #[f0, f1])) (hce : P.cellsOf e = 2) (hi : P.underlying i = some (.int k)) (hci : P.cellsOf i = 1) (h0 : f0.type = i) (h0o : f0.offset = 0) (h1 : f1.type = i) (h1o : f1.offset = 1)
    (h : DataW.trod enc P w base sp held fuel t cs = some (.agg (zs.map fun z => .agg [.lit (.int k z.1), .lit (.int k z.2)]), p)) :
    ∀ (j : Nat) (v : Value), (zs.flatMap fun z => [Value.int k z.1, Value.int k z.2])[j]? = some v → cs[j]? = some v := by
  cases fuel with
  | zero => simp [DataW.trod] at h
  | succ fuel =>
    simp only [DataW.trod, ht, hce, hct] at h
    split at h
    · rename_i hl
      obtain ⟨xs, hm, hx⟩ := Option.map_eq_some_iff.1 h
      have hxs : xs.map (·.1) = zs.map fun z => (DataW.agg [.lit (.int k z.1), .lit (.int k z.2)] : DataW H) := by
        have := congrArg Prod.fst hx
        simpa using this
      have hxl : xs.length = n := by simpa using mapM_length hm
      have hzl : zs.length = n := by
        have := congrArg List.length hxs
        simp at this
        omega
      have hflat : ∀ (zs : List (Int × Int)) (j : Nat), (zs.flatMap fun z => [Value.int k z.1, Value.int k z.2])[j]? = (zs[j / 2]?).map fun z => if j % 2 = 0 then Value.int k z.1 else Value.int k z.2 := by
        intro zs
        induction zs with
        | nil => intro j; simp
        | cons z zs ih =>
          intro j
          match j with
          | 0 => simp
          | 1 => simp
          | j + 2 =>
            have hd : (j + 2) / 2 = j / 2 + 1 := by omega
            have hm : (j + 2) % 2 = j % 2 := by omega
            rw [hd, hm]
            simp only [List.flatMap_cons, List.cons_append, List.nil_append, List.getElem?_cons_succ]
            exact ih j
      intro j v hj
      rw [hflat] at hj
      obtain ⟨z, hz, hv⟩ := Option.map_eq_some_iff.1 hj
      have hjl : j / 2 < n := by
        have := (List.getElem?_eq_some_iff.1 hz).1
        omega
      obtain ⟨b, hb, hf⟩ := mapM_at hm (j / 2) (j / 2) (by simp [hjl])
      have hbz : b.1 = DataW.agg [.lit (.int k z.1), .lit (.int k z.2)] := by
        have := congrArg (·[j / 2]?) hxs
        simp [hb, hz] at this
        exact this
      obtain ⟨b1, b2⟩ := b
      simp only at hbz
      subst hbz
      have hp := trod_pair he hce hi hci h0 h0o h1 h1o hf
      have h2 : ((cs.drop (j / 2 * 2)).take 2)[j % 2]? = some v := by
        rw [hp]
        rcases Nat.mod_two_eq_zero_or_one j with hm0 | hm0
        · rw [hm0] at hv ⊢; simpa using hv
        · rw [hm0] at hv ⊢; simpa using hv
      rw [List.getElem?_take, if_pos (by omega), List.getElem?_drop] at h2
      rwa [show j / 2 * 2 + j % 2 = j by omega] at h2
    · cases h
/-- the head of the list, a table of pairs -/
theorem pairs_of_head {P : Program} {W : World} {name : String} {k : IntKind} {zs : List (Int × Int)} {rest : List (String × DataW Unit)} {g : Nat} {t e i : TypeId} {n : Nat} {f0 f1 : Field}
    (hg : P.globalNamed name = some g) (hty : (P.globals[g]?).map (·.type) = some t) (ht : P.underlying t = some (.array n e)) (hct : P.cellsOf t = n * 2) (he : P.underlying e = some (.struct #[f0, f1])) (hce : P.cellsOf e = 2) (hi : P.underlying i = some (.int k)) (hci : P.cellsOf i = 1) (h0 : f0.type = i) (h0o : f0.offset = 0) (h1 : f1.type = i) (h1o : f1.offset = 1)
    (h : laidMet P ((name, .agg (zs.map fun z => .agg [.lit (.int k z.1), .lit (.int k z.2)])) :: rest) W) :
    ∀ (j : Nat) (v : Value), (zs.flatMap fun z => [Value.int k z.1, Value.int k z.2])[j]? = some v → W.cell? ⟨g, j, none⟩ = some v := by
  obtain ⟨ps, ⟨g', t', cs, fuel, p, q, hg', ht', hvar, hd, _, _⟩, _⟩ := h
  obtain rfl := Option.some.inj (hg.symm.trans hg')
  obtain rfl := Option.some.inj (hty.symm.trans ht')
  intro j v hj
  rw [World.var?_cell hg hvar j]
  have := cells_of_pairs ht hct he hce hi hci h0 h0o h1 h1o hd j v hj
  simpa using this
end Go.Proofs.YtcpjflgiimjfmaaDoor.XLib

