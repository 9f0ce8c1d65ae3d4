/- A region that draws its order, with a load that nobody writes ahead of one operation s (the store at its end): the load may be taken first, and what the load rests on (T) is to be shown till s comes up, not behind it. -/
import Derived.OrdersHeld
import Derived.Deep.RegionHeld
namespace Go.Proofs.YtmokclfiifmhpaaDoor.XLib
section
variable {P : Program} {ops : Array Oper} {Q : Exit → Act → World → Prop} {md : Region.Mode} {T : World → Prop} {s : Nat}
def wpAnyL (P : Program) (md : Region.Mode) (ops : Array Oper) (Q : Exit → Act → World → Prop) (T : World → Prop) (s : Nat) : Nat → Array Bool → Act → World → Prop
  | 0, listed, a, w => Region.ready md ops listed = [] ∧ Q .normal a w
  | fuel + 1, listed, a, w =>
    (Region.ready md ops listed = [] → Q .normal a w) ∧
    ∀ i ∈ Region.ready md ops listed, wpOp P ops Q i (fun a' w' => ((listed.setIfInBounds i true).getD s true = false → T w') ∧ wpAnyL P md ops Q T s fuel (listed.setIfInBounds i true) a' w') a w
theorem wpAny_of_L : ∀ (fuel : Nat) (listed : Array Bool) (a : Act) (w : World), wpAnyL P md ops Q T s fuel listed a w → wpAny P md ops Q fuel listed a w
  | 0, _, _, _, h => h
  | fuel + 1, _, _, _, h => ⟨h.1, fun i hi => wpOp_mono (fun a' w' h' => wpAny_of_L fuel _ a' w' h'.2) (h.2 i hi)⟩
theorem wpAnyL_first {i : Nat} {oi os : Oper} {v : Value} (hi : ops[i]? = some oi) (hs : ops[s]? = some os) (his : i ≠ s) (hwait : ∃ e ∈ os.after, Region.binds md e = true ∧ e.on = i)
    (hsel : ∀ (j : Nat) (o : Oper) cs b, ops[j]? = some o → o.op ≠ .select cs b)
    (hQ : ∀ c a w, Q (.panic c) (a.put oi.dst v) w → Q (.panic c) a w) :
    ∀ (fuel : Nat) (listed : Array Bool) (a : Act) (w : World),
      (∀ j oj, ops[j]? = some oj → j ≠ i → listed.getD j true = false → (∀ e ∈ oj.after, Region.binds md e = true → e.on ≠ i) → oi.apart ops oj = true) →
      i ∈ Region.ready md ops listed → YieldsIf P ops T oi v a → T w → listed.getD s true = false →
      wpAnyL P md ops Q T s fuel (listed.setIfInBounds i true) (a.put oi.dst v) w → wpAnyL P md ops Q T s (fuel + 1) listed a w := by
  intro fuel
  induction fuel with
  | zero =>
    intro listed a w _ hr hy hS hsu H
    refine ⟨fun h => (by rw [h] at hr; cases hr), fun j hj => ?_⟩
    by_cases hji : j = i
    · subst hji; exact hy.wpOp hi hS ⟨fun _ => hS, H⟩
    · have := ready_mono hj hji
      rw [H.1] at this
      cases this
  | succ fuel ih =>
    intro listed a w hfree hr hy hS hsu H
    refine ⟨fun h => (by rw [h] at hr; cases hr), fun j hj => ?_⟩
    by_cases hji : j = i
    · subst hji; exact hy.wpOp hi hS ⟨fun _ => hS, H⟩
    · have h1 := H.2 j (ready_mono hj hji)
      obtain ⟨hjun, oj, hoj, hall⟩ := mem_ready.1 hj
      have hnot : ∀ e ∈ oj.after, Region.binds md e = true → e.on ≠ i := fun e he hb heq => by
        have h1 := hall e he hb
        have h0 := (mem_ready.1 hr).1
        rw [heq] at h1
        rcases Nat.lt_or_ge i listed.size with h' | h'
        · simp [h'] at h0 h1; rw [h0] at h1; cases h1
        · simp [Array.getElem?_eq_none h'] at h1
      have hjs : j ≠ s := by
        rintro rfl
        obtain ⟨e, he, hb, heq⟩ := hwait
        rw [hs] at hoj
        injection hoj with hoj
        subst hoj
        exact hnot e he hb heq
      have h2 := wpOp_putIf hoj (hfree j oj hoj hji hjun hnot) (fun cs b => hsel i oi cs b hi) (fun cs b => hsel j oj cs b hoj) hQ hy h1
      have hfree' : ∀ k ok, ops[k]? = some ok → k ≠ i → (listed.setIfInBounds j true).getD k true = false →
          (∀ e ∈ ok.after, Region.binds md e = true → e.on ≠ i) → oi.apart ops ok = true := fun k ok hk hki hun hno => by
        refine hfree k ok hk hki ?_ hno
        by_cases hjk : j = k
        · subst hjk; exact hjun
        · rw [getD_set_ne true hjk] at hun; exact hun
      have hsj : (listed.setIfInBounds j true).getD s true = false := by rw [getD_set_ne true hjs]; exact hsu
      have hsij : ((listed.setIfInBounds i true).setIfInBounds j true).getD s true = false := by rw [getD_set_ne true hjs, getD_set_ne true his]; exact hsu
      refine wpOp_mono (fun a' w' h3 => ⟨fun _ => h3.2.1 hsij, ih (listed.setIfInBounds j true) a' w' hfree' (ready_mono hr (Ne.symm hji)) h3.1 (h3.2.1 hsij) hsj ?_⟩) h2
      rw [Array.setIfInBounds_comm _ _ hji]
      exact h3.2.2
def waitsB (md : Region.Mode) (ops : Array Oper) (s i : Nat) : Bool := match ops[s]? with
  | some o => o.after.any fun e => Region.binds md e && e.on == i
  | none => false
theorem waitsB_spec {i : Nat} (h : waitsB md ops s i = true) : ∃ os, ops[s]? = some os ∧ ∃ e ∈ os.after, Region.binds md e = true ∧ e.on = i := by
  unfold waitsB at h
  split at h
  case h_2 => cases h
  case h_1 o ho =>
    obtain ⟨k, hk, he⟩ := Array.any_eq_true.1 h
    simp only [Bool.and_eq_true, beq_iff_eq] at he
    exact ⟨o, ho, o.after[k], Array.getElem_mem hk, he.1, he.2⟩
theorem take_l {i : Nat} {oi : Oper} {N : Tmp} {v : Value} {fuel : Nat} {listed l' : Array Bool} {a a' : Act} {w : World} (hi : ops[i]? = some oi) (hd : oi.dst = some N)
    (hs : Region.noSelect ops = true) (hf : Region.free md ops listed i = true) (hr : (Region.ready md ops listed).contains i = true) (hwt : waitsB md ops s i = true) (his : (i != s) = true) (hsu : listed.getD s true = false)
    (hQ : ∀ c a w, Q (.panic c) (a.put (some N) v) w → Q (.panic c) a w) (hw : Region.wanted oi (yielded ops a.tmps) = true) (hv : ∀ w, T w → (execOp a.eval oi).run P w = .ok (.value v) w) (hS : T w)
    (hl : listed.setIfInBounds i true = l') (ha : a.put (some N) v = a') (h : wpAnyL P md ops Q T s fuel l' a' w) : wpAnyL P md ops Q T s (fuel + 1) listed a w := by
  subst ha hl
  obtain ⟨os, hos, hwt⟩ := waitsB_spec hwt
  exact wpAnyL_first hi hos (by simpa using his) hwt (Region.noSelect_spec hs) (by rw [hd]; exact hQ) fuel listed a w (Region.free_spec hi hf) (by simpa using hr) (Or.inl ⟨hw, hv⟩) hS hsu (by rw [hd]; exact h)
/-- the one operation that may come up -/
theorem ready_l {i : Nat} {o : Oper} {fuel : Nat} {listed l' : Array Bool} {a : Act} {w : World} (hr : Region.ready md ops listed = [i]) (ho : ops[i]? = some o) (hl : listed.setIfInBounds i true = l')
    (h : ∀ K' : Act → World → Prop, Shut (∀ a w, (l'.getD s true = false → T w) → wpAnyL P md ops Q T s fuel l' a w → K' a w) → if Region.wanted o (yielded ops a.tmps) = true then Oper.wp P o a w K' Q else K' (a.put o.dst undef) w) :
    wpAnyL P md ops Q T s (fuel + 1) listed a w := by
  subst hl
  refine ⟨fun h0 => (by rw [hr] at h0; cases h0), fun j hj => ?_⟩
  rw [hr] at hj
  obtain rfl := List.mem_singleton.1 hj
  exact wpOp_step ho (fun K' hK => h K' (fun a w hS hW => hK a w ⟨hS, hW⟩))
theorem done_l {listed : Array Bool} {a : Act} {w : World} (hr : Region.ready md ops listed = []) (h : Q .normal a w) :
    ∀ fuel, wpAnyL P md ops Q T s fuel listed a w
  | 0 => ⟨hr, h⟩
  | _ + 1 => ⟨fun _ => h, by rw [hr]; simp⟩
theorem region_l (T : World → Prop) (s : Nat) {id : Nat} {a : Act} {w : World} (hm : P.follows .mixedOrders = true)
    (h : wpAnyL P .any ops Q T s ops.size (Array.replicate ops.size false) a w.drew) : (Code.region id ops true).wp P Q a w :=
  wp_region_any hm (wpAny_of_L _ _ _ _ h)
end
end Go.Proofs.YtmokclfiifmhpaaDoor.XLib
