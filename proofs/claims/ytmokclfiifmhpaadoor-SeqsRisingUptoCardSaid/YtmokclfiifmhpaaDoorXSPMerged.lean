/- thistleref02.merged and sorted in plain Lean: the numbers rising; without doubles. -/
import Derived.Test.YtmokclfiifmhpaaDoorXS5
namespace Go.Proofs.YtmokclfiifmhpaaDoor.XS
open Go.RowKit Go.Proofs.YtmokclfiifmhpaaDoorW.PrintWords Go.Proofs.YtmokclfiifmhpaaDoorW.PrintLast
set_option linter.unusedVariables false
set_option linter.unusedSimpArgs false
theorem w64i (x : Int) (h0 : -4611686018427387904 ≤ x) (h1 : x ≤ 4611686018427387904) : wrap64 x = x := by unfold wrap64; omega
namespace XM
def mg : List Int → List Int → List Int
  | [], ys => ys
  | x :: xs, [] => x :: xs
  | x :: xs, y :: ys => if x ≤ y then x :: mg xs (y :: ys) else y :: mg (x :: xs) ys
termination_by xs ys => xs.length + ys.length
theorem mg_nil (ys : List Int) : mg [] ys = ys := by rw [mg]
theorem mg_nil' (xs : List Int) : mg xs [] = xs := by cases xs <;> rw [mg]
theorem mg_le (x y : Int) (xs ys : List Int) (h : x ≤ y) : mg (x :: xs) (y :: ys) = x :: mg xs (y :: ys) := by rw [mg, if_pos h]
theorem mg_gt (x y : Int) (xs ys : List Int) (h : ¬ x ≤ y) : mg (x :: xs) (y :: ys) = y :: mg (x :: xs) ys := by rw [mg, if_neg h]
theorem mg_perm : ∀ (xs ys : List Int), (mg xs ys).Perm (xs ++ ys)
  | [], ys => by rw [mg_nil]; exact List.Perm.refl _
  | x :: xs, [] => by rw [mg_nil', List.append_nil]
  | x :: xs, y :: ys => by
    by_cases h : x ≤ y
    · rw [mg_le x y xs ys h, List.cons_append]
      exact (mg_perm xs (y :: ys)).cons x
    · rw [mg_gt x y xs ys h]
      refine ((mg_perm (x :: xs) ys).cons y).trans ?_
      exact List.perm_middle.symm
termination_by xs ys => xs.length + ys.length
theorem mg_len (xs ys : List Int) : (mg xs ys).length = xs.length + ys.length := by rw [(mg_perm xs ys).length_eq, List.length_append]
theorem mg_srt : ∀ (xs ys : List Int), xs.Pairwise (· ≤ ·) → ys.Pairwise (· ≤ ·) → (mg xs ys).Pairwise (· ≤ ·)
  | [], ys, _, h => by rw [mg_nil]; exact h
  | x :: xs, [], h, _ => by rw [mg_nil']; exact h
  | x :: xs, y :: ys, hx, hy => by
    by_cases h : x ≤ y
    · rw [mg_le x y xs ys h]
      refine List.pairwise_cons.2 ⟨fun z hz => ?_, mg_srt xs (y :: ys) (List.pairwise_cons.1 hx).2 hy⟩
      rcases List.mem_append.1 ((mg_perm _ _).mem_iff.1 hz) with h1 | h1
      · exact (List.pairwise_cons.1 hx).1 z h1
      · rcases List.mem_cons.1 h1 with rfl | h1
        · exact h
        · exact Int.le_trans h ((List.pairwise_cons.1 hy).1 z h1)
    · rw [mg_gt x y xs ys h]
      refine List.pairwise_cons.2 ⟨fun z hz => ?_, mg_srt (x :: xs) ys hx (List.pairwise_cons.1 hy).2⟩
      rcases List.mem_append.1 ((mg_perm _ _).mem_iff.1 hz) with h1 | h1
      · rcases List.mem_cons.1 h1 with rfl | h1
        · omega
        · have := (List.pairwise_cons.1 hx).1 z h1; omega
      · exact (List.pairwise_cons.1 hy).1 z h1
termination_by xs ys => xs.length + ys.length
def seg (L : List Int) (i j : Nat) : List Int := (L.drop i).take (j - i)
theorem seg_nil (L : List Int) (i j : Nat) (h : j ≤ i) : seg L i j = [] := by unfold seg; rw [show j - i = 0 by omega]; rfl
theorem seg_cons (L : List Int) (i j : Nat) (h : i < j) (hl : i < L.length) : seg L i j = rd L (i : Int) :: seg L (i + 1) j := by
  unfold seg
  rw [List.drop_eq_getElem_cons hl, show j - i = (j - (i + 1)) + 1 by omega, List.take_succ_cons]
  congr 1
  unfold rd
  rw [Int.toNat_natCast, List.getD_eq_getElem?_getD, List.getElem?_eq_getElem hl]
  rfl
theorem l2_ev (L : List Int) (hL : L.length ≤ 1000000000) (w lo : Int) (mid hi : Nat) (hm : mid ≤ L.length) (hh : hi ≤ L.length) (r : List Int) : ∀ (n : Nat) (i j : Nat) (m : List Int), (mid - i) + (hi - j) = n → i ≤ mid → j ≤ hi → m.length + n ≤ 1000000000 →
    Ev (fun k => thistleref02_merged.l1 k L w (m ++ mg (seg L i mid) (seg L j hi)) (wrap64 (lo + wrap64 (2 * w)))) r → Ev (fun k => thistleref02_merged.l2 k L w m lo (mid : Int) (hi : Int) (i : Int) (j : Int)) r
  | 0, i, j, m, hn, hi1, hj1, hb, h => by
    obtain rfl : i = mid := by omega
    obtain rfl : j = hi := by omega
    rw [seg_nil L _ _ (Nat.le_refl _), seg_nil L _ _ (Nat.le_refl _), mg_nil, List.append_nil] at h
    refine Ev.step (f := fun k => thistleref02_merged.j3 k L w m lo (i : Int) (j : Int) (i : Int) (j : Int) false) (fun k => ?_) ?_
    · rw [thistleref02_merged.l2, if_neg (by omega), show decide ((j : Int) < (j : Int)) = false by simp]
    · refine Ev.step (f := fun k => thistleref02_merged.l1 k L w m (wrap64 (lo + wrap64 (2 * w)))) (fun k => ?_) h
      rw [thistleref02_merged.j3, if_neg (by simp)]
  | n + 1, i, j, m, hn, hi1, hj1, hb, h => by
    have start : ∀ f : Nat → Option (List Int), (∀ k, thistleref02_merged.j3 (k + 1) L w m lo (mid : Int) (hi : Int) (i : Int) (j : Int) true = f k) → Ev f r → Ev (fun k => thistleref02_merged.l2 k L w m lo (mid : Int) (hi : Int) (i : Int) (j : Int)) r := by
      intro f hf hr
      refine Ev.step (f := fun k => thistleref02_merged.j3 k L w m lo (mid : Int) (hi : Int) (i : Int) (j : Int) true) (fun k => ?_) (Ev.step hf hr)
      by_cases hlt : i < mid
      · rw [thistleref02_merged.l2, if_pos (by omega)]
      · rw [thistleref02_merged.l2, if_neg (by omega), show decide ((j : Int) < (hi : Int)) = true by simp; omega]
    have hmb : m.length < 17592186044416 := by omega
    have left : i < mid → (j = hi ∨ rd L (i : Int) ≤ rd L (j : Int)) → Ev (fun k => thistleref02_merged.l2 k L w m lo (mid : Int) (hi : Int) (i : Int) (j : Int)) r := by
      intro hlt hc
      have e1 : mg (seg L i mid) (seg L j hi) = rd L (i : Int) :: mg (seg L (i + 1) mid) (seg L j hi) := by
        rw [seg_cons L i mid hlt (by omega)]
        by_cases hj : j = hi
        · subst hj
          rw [seg_nil L _ _ (Nat.le_refl _), mg_nil', mg_nil']
        · rw [seg_cons L j hi (by omega) (by omega)]
          rcases hc with hc | hc
          · omega
          · exact mg_le _ _ _ _ hc
      have ih := l2_ev L hL w lo mid hi hm hh r n (i + 1) j (m ++ [rd L (i : Int)]) (by omega) (by omega) hj1 (by rw [List.length_append]; simp; omega) (by rw [List.append_assoc, List.singleton_append, ← e1]; exact h)
      refine start _ (fun k => ?_) ih
      rw [thistleref02_merged.j3, if_pos rfl]
      by_cases hj : j = hi
      · rw [if_pos (by omega), if_pos (by omega), if_pos (by omega), if_pos hmb, w64i _ (by omega) (by omega)]
        congr 1
      · rcases hc with hc | hc
        · omega
        · rw [if_neg (by omega), if_pos (by omega), if_pos (by omega), if_pos (by omega), if_pos (by omega), if_pos (by omega), if_pos hc, if_pos hmb, w64i _ (by omega) (by omega)]
          congr 1
    have right : j < hi → (i = mid ∨ ¬ rd L (i : Int) ≤ rd L (j : Int)) → Ev (fun k => thistleref02_merged.l2 k L w m lo (mid : Int) (hi : Int) (i : Int) (j : Int)) r := by
      intro hlt hc
      have e1 : mg (seg L i mid) (seg L j hi) = rd L (j : Int) :: mg (seg L i mid) (seg L (j + 1) hi) := by
        rw [seg_cons L j hi hlt (by omega)]
        by_cases hj : i = mid
        · subst hj
          rw [seg_nil L _ _ (Nat.le_refl _), mg_nil, mg_nil]
        · rw [seg_cons L i mid (by omega) (by omega)]
          rcases hc with hc | hc
          · omega
          · exact mg_gt _ _ _ _ hc
      have ih := l2_ev L hL w lo mid hi hm hh r n i (j + 1) (m ++ [rd L (j : Int)]) (by omega) (by omega) (by omega) (by rw [List.length_append]; simp; omega) (by rw [List.append_assoc, List.singleton_append, ← e1]; exact h)
      refine start _ (fun k => ?_) ih
      rw [thistleref02_merged.j3, if_pos rfl, if_neg (by omega)]
      by_cases hj : i = mid
      · rw [if_neg (by omega), if_pos (by omega), if_pos (by omega), if_pos hmb, w64i _ (by omega) (by omega)]
        congr 1
      · rcases hc with hc | hc
        · omega
        · rw [if_pos (by omega), if_pos (by omega), if_pos (by omega), if_pos (by omega), if_pos (by omega), if_neg hc, if_pos hmb, w64i _ (by omega) (by omega)]
          congr 1
    by_cases hj : j = hi
    · exact left (by omega) (.inl hj)
    · by_cases hi2 : i = mid
      · exact right (by omega) (.inl hi2)
      · by_cases hc : rd L (i : Int) ≤ rd L (j : Int)
        · exact left (by omega) (.inr hc)
        · exact right (by omega) (.inr hc)
/-- one pass: two neighbours of w numbers each are put together -/
def pass : Nat → Nat → List Int → List Int
  | 0, _, _ => []
  | n + 1, w, L => if L.length = 0 then [] else mg (L.take w) ((L.drop w).take w) ++ pass n w (L.drop (2 * w))
theorem pass_perm (w : Nat) (hw : 1 ≤ w) : ∀ (n : Nat) (L : List Int), L.length ≤ n → (pass n w L).Perm L
  | 0, L, h => by
    obtain rfl : L = [] := List.length_eq_zero_iff.1 (by omega)
    exact List.Perm.refl _
  | n + 1, L, h => by
    rw [pass]
    split
    · next h0 => rw [List.length_eq_zero_iff.1 h0]
    · have ih := pass_perm w hw n (L.drop (2 * w)) (by rw [List.length_drop]; omega)
      refine ((mg_perm _ _).append ih).trans ?_
      rw [show L.drop (2 * w) = (L.drop w).drop w by rw [List.drop_drop, show w + w = 2 * w by omega], List.append_assoc, List.take_append_drop, List.take_append_drop]
/-- sorted piece by piece -/
def CS : Nat → Nat → List Int → Prop
  | 0, _, _ => True
  | n + 1, w, L => (L.take w).Pairwise (· ≤ ·) ∧ CS n w (L.drop w)
theorem CS.nil (w : Nat) : ∀ n, CS n w []
  | 0 => trivial
  | n + 1 => ⟨by simp, by simpa using CS.nil w n⟩
theorem CS.one : ∀ (n : Nat) (L : List Int), CS n 1 L
  | 0, _ => trivial
  | n + 1, L => ⟨by cases L <;> simp, CS.one n _⟩
theorem pass_nil (w : Nat) : ∀ p, pass p w [] = []
  | 0 => rfl
  | p + 1 => by rw [pass, if_pos (by simp)]
theorem CS.pass (w : Nat) (hw : 1 ≤ w) : ∀ (n p q : Nat) (L : List Int), L.length ≤ p → 2 * n ≤ q → CS q w L → CS n (2 * w) (XM.pass p w L)
  | 0, _, _, _, _, _, _ => trivial
  | n + 1, 0, q, L, hp, hq, h => by
    obtain rfl : L = [] := List.length_eq_zero_iff.1 (by omega)
    exact CS.nil _ _
  | n + 1, p + 1, q, L, hp, hq, h => by
    obtain ⟨q, rfl⟩ : ∃ m, q = m + 2 := ⟨q - 2, by omega⟩
    obtain ⟨h1, h2, h3⟩ := h
    rw [XM.pass]
    split
    · exact CS.nil _ _
    · next h0 =>
      have hs := mg_srt _ _ h1 h2
      rw [show (L.drop w).drop w = L.drop (2 * w) by rw [List.drop_drop, show w + w = 2 * w by omega]] at h3
      have hl := mg_len (L.take w) ((L.drop w).take w)
      simp only [List.length_take, List.length_drop] at hl
      by_cases hc : 2 * w ≤ L.length
      · have hl2 : (mg (L.take w) ((L.drop w).take w)).length = 2 * w := by omega
        refine ⟨?_, ?_⟩
        · rw [List.take_append_of_le_length (by omega), List.take_of_length_le (by omega)]
          exact hs
        · rw [List.drop_append_of_le_length (by omega), List.drop_of_length_le (by omega), List.nil_append]
          exact CS.pass w hw n p q _ (by rw [List.length_drop]; omega) (by omega) h3
      · rw [List.drop_of_length_le (show L.length ≤ 2 * w by omega), pass_nil, List.append_nil]
        refine ⟨?_, ?_⟩
        · rw [List.take_of_length_le (by omega)]; exact hs
        · rw [List.drop_of_length_le (by omega)]; exact CS.nil _ _
theorem seg_take (L : List Int) (i w : Nat) : seg L i (min (i + w) L.length) = (L.drop i).take w := by
  unfold seg
  rw [List.take_eq_take_iff, List.length_drop]
  omega
theorem seg_take2 (L : List Int) (i w : Nat) : seg L (min (i + w) L.length) (min (i + 2 * w) L.length) = ((L.drop i).drop w).take w := by
  by_cases h : i + w ≤ L.length
  · rw [Nat.min_eq_left h, List.drop_drop, show i + 2 * w = i + w + w by omega]
    exact seg_take L (i + w) w
  · rw [Nat.min_eq_right (by omega), seg_nil _ _ _ (by omega), List.drop_drop, List.drop_of_length_le (by omega)]
    simp
theorem least_eq (a b : Nat) : thistleref02_least.f (a : Int) (b : Int) = some ((min a b : Nat) : Int) := by
  unfold thistleref02_least.f
  by_cases h : a < b
  · rw [if_pos (by omega), Nat.min_eq_left (by omega)]
  · rw [if_neg (by omega), Nat.min_eq_right (by omega)]
theorem l1_ev (L : List Int) (hL : L.length ≤ 500000000) (w : Nat) (hw : 1 ≤ w) (hw2 : w ≤ 500000000) (r : List Int) : ∀ (n lo : Nat) (m : List Int), L.length - lo ≤ n → m.length ≤ lo → m.length ≤ L.length → lo ≤ 1500000000 →
    Ev (fun k => thistleref02_merged.l0 k (m ++ pass n w (L.drop lo)) ((2 * w : Nat) : Int)) r → Ev (fun k => thistleref02_merged.l1 k L (w : Int) m (lo : Int)) r := by
  have done : ∀ (lo : Nat) (m : List Int), L.length ≤ lo → Ev (fun k => thistleref02_merged.l0 k m ((2 * w : Nat) : Int)) r → Ev (fun k => thistleref02_merged.l1 k L (w : Int) m (lo : Int)) r := by
    intro lo m hlo h
    refine Ev.step (f := fun k => thistleref02_merged.l0 k m ((2 * w : Nat) : Int)) (fun k => ?_) h
    rw [thistleref02_merged.l1, if_neg (by omega), w64i _ (by omega) (by omega)]
    congr 1
  intro n
  induction n with
  | zero =>
    intro lo m h1 h2 h3 h4 h
    refine done lo m (by omega) ?_
    rw [pass, List.append_nil] at h
    exact h
  | succ n ih =>
    intro lo m h1 h2 h3 h4 h
    by_cases hlt : lo < L.length
    · rw [pass, if_neg (by rw [List.length_drop]; omega), show (L.drop lo).drop (2 * w) = L.drop (lo + 2 * w) by rw [List.drop_drop], ← List.append_assoc, ← seg_take L lo w, ← seg_take2 L lo w] at h
      have hml : (mg (seg L lo (min (lo + w) L.length)) (seg L (min (lo + w) L.length) (min (lo + 2 * w) L.length))).length = min (lo + 2 * w) L.length - lo := by
        rw [mg_len]
        unfold seg
        simp only [List.length_take, List.length_drop]
        omega
      have h5 := ih (lo + 2 * w) _ (by omega) (by rw [List.length_append, hml]; omega) (by rw [List.length_append, hml]; omega) (by omega) h
      have h6 := l2_ev L (by omega) (w : Int) (lo : Int) (min (lo + w) L.length) (min (lo + 2 * w) L.length) (by omega) (by omega) r _ lo (min (lo + w) L.length) m rfl (by omega) (by omega) (by omega) (by
        rw [w64i (2 * (w : Int)) (by omega) (by omega), w64i _ (by omega) (by omega), show (lo : Int) + 2 * (w : Int) = ((lo + 2 * w : Nat) : Int) by omega]
        exact h5)
      refine Ev.step (f := fun k => thistleref02_merged.l2 k L (w : Int) m (lo : Int) ((min (lo + w) L.length : Nat) : Int) ((min (lo + 2 * w) L.length : Nat) : Int) (lo : Int) ((min (lo + w) L.length : Nat) : Int)) (fun k => ?_) h6
      rw [thistleref02_merged.l1, if_pos (by omega), w64i (2 * (w : Int)) (by omega) (by omega), w64i _ (by omega) (by omega), w64i _ (by omega) (by omega), show (lo : Int) + (w : Int) = ((lo + w : Nat) : Int) by omega, show (lo : Int) + 2 * (w : Int) = ((lo + 2 * w : Nat) : Int) by omega, least_eq, least_eq]
      rfl
    · refine done lo m (by omega) ?_
      rw [List.drop_of_length_le (by omega), pass_nil, List.append_nil] at h
      exact h
theorem l0_ev : ∀ (d w : Nat) (L : List Int), L.length - w ≤ d → 1 ≤ w → w ≤ 2 * L.length + 1 → L.length ≤ 200000000 → (∀ n, CS n w L) → ∃ r, Ev (fun k => thistleref02_merged.l0 k L (w : Int)) r ∧ r.Perm L ∧ r.Pairwise (· ≤ ·)
  | d, w, L, hd, hw, hw2, hL, hc => by
    by_cases hlt : w < L.length
    · match d, hd with
      | 0, hd => exact absurd hlt (by omega)
      | d + 1, hd =>
        have hp := pass_perm w hw L.length L (Nat.le_refl _)
        obtain ⟨r, h1, h2, h3⟩ := l0_ev d (2 * w) (pass L.length w L) (by rw [hp.length_eq]; omega) (by omega) (by rw [hp.length_eq]; omega) (by rw [hp.length_eq]; exact hL) (fun n => CS.pass w hw n L.length (2 * n) L (Nat.le_refl _) (Nat.le_refl _) (hc _))
        refine ⟨r, ?_, h2.trans hp, h3⟩
        have h4 := l1_ev L (by omega) w hw (by omega) r L.length 0 [] (by omega) (by simp) (by simp) (by omega) (by rw [List.nil_append, List.drop_zero]; exact h1)
        refine Ev.step (f := fun k => thistleref02_merged.l1 k L (w : Int) [] ((0 : Nat) : Int)) (fun k => ?_) h4
        rw [thistleref02_merged.l0, if_pos (by omega), if_pos (by omega), if_pos (by omega)]
        rfl
    · refine ⟨L, Ev.step (f := fun _ => some L) (fun k => ?_) (Ev.now L), List.Perm.refl _, ?_⟩
      · rw [thistleref02_merged.l0, if_neg (by omega)]
      · have := (hc 1).1
        rwa [List.take_of_length_le (by omega)] at this
theorem merged_ev (L : List Int) (hL : L.length ≤ 200000000) : ∃ r, Ev (fun k => thistleref02_merged.f k L) r ∧ r.Perm L ∧ r.Pairwise (· ≤ ·) := by
  obtain ⟨r, h1, h2, h3⟩ := l0_ev L.length 1 L (by omega) (Nat.le_refl _) (by omega) hL (fun n => CS.one n L)
  exact ⟨r, h1, h2, h3⟩
theorem rd_get (L : List Int) (i : Nat) (h : i < L.length) : rd L (i : Int) = L[i] := by
  unfold rd
  rw [Int.toNat_natCast, List.getD_eq_getElem?_getD, List.getElem?_eq_getElem h]
  rfl
theorem sorted_go (L : List Int) (hL : L.length ≤ 200000000) (hs : L.Pairwise (· ≤ ·)) : ∀ (n i : Nat) (acc : List Int), i + n = L.length → acc.length ≤ i → acc.Pairwise (· < ·) → (∀ x, x ∈ acc ↔ x ∈ L.take i) →
    ∃ r, Ev (fun k => thistleref02_sorted.l0 k L acc (i : Int)) r ∧ r.Pairwise (· < ·) ∧ (∀ x, x ∈ r ↔ x ∈ L) ∧ r.length ≤ L.length
  | 0, i, acc, hi, hl, ha, hm => by
    refine ⟨acc, Ev.step (f := fun _ => some acc) (fun k => ?_) (Ev.now acc), ha, fun x => ?_, by omega⟩
    · rw [thistleref02_sorted.l0, if_neg (by omega)]
    · rw [hm x, List.take_of_length_le (by omega)]
  | n + 1, i, acc, hi, hl, ha, hm => by
    have hlt : i < L.length := by omega
    have hg := rd_get L i hlt
    have htk : L.take (i + 1) = L.take i ++ [L[i]] := by rw [List.take_succ_eq_append_getElem hlt]
    by_cases h0 : i = 0
    · subst h0
      have hae : acc = [] := List.length_eq_zero_iff.1 (by omega)
      subst hae
      obtain ⟨r, h1, h2⟩ := sorted_go L hL hs n 1 [L[0]] (by omega) (by simp) (by simp) (fun x => by rw [htk]; simp)
      refine ⟨r, Ev.step (f := fun k => thistleref02_sorted.l0 k L [L[0]] ((1 : Nat) : Int)) (fun k => ?_) h1, h2⟩
      rw [thistleref02_sorted.l0, if_pos (by omega), if_pos (by simp), if_pos (by omega), if_pos (by simp), hg, w64i _ (by omega) (by omega)]
      rfl
    · have hg1 := rd_get L (i - 1) (by omega)
      have hle : ∀ x ∈ L.take i, x ≤ L[i - 1] := by
        intro x hx
        obtain ⟨j, hj, rfl⟩ := List.mem_iff_getElem.1 hx
        rw [List.length_take] at hj
        rw [List.getElem_take]
        rcases Nat.lt_or_ge j (i - 1) with h1 | h1
        · exact List.pairwise_iff_getElem.1 hs j (i - 1) (by omega) (by omega) h1
        · have : j = i - 1 := by omega
          subst this; exact Int.le_refl _
      have hin : L[i - 1] ∈ L.take i := List.mem_iff_getElem.2 ⟨i - 1, by rw [List.length_take]; omega, by rw [List.getElem_take]⟩
      have hle2 : L[i - 1] ≤ L[i] := List.pairwise_iff_getElem.1 hs (i - 1) i (by omega) hlt (by omega)
      have e1 : wrap64 ((i : Int) - 1) = ((i - 1 : Nat) : Int) := by rw [w64i _ (by omega) (by omega)]; omega
      by_cases he : L[i] = L[i - 1]
      · obtain ⟨r, h1, h2⟩ := sorted_go L hL hs n (i + 1) acc (by omega) (by omega) ha (fun x => by rw [htk, hm x, List.mem_append, List.mem_singleton, he]; exact ⟨.inl, fun h => h.elim id (fun h => h ▸ hin)⟩)
        refine ⟨r, Ev.step (f := fun k => thistleref02_sorted.l0 k L acc ((i + 1 : Nat) : Int)) (fun k => ?_) h1, h2⟩
        rw [thistleref02_sorted.l0, if_pos (by omega), if_neg (by omega), if_pos (by omega), e1, if_pos (by omega), if_pos (by omega), hg, hg1, if_pos he, w64i _ (by omega) (by omega)]
        rfl
      · obtain ⟨r, h1, h2⟩ := sorted_go L hL hs n (i + 1) (acc ++ [L[i]]) (by omega) (by rw [List.length_append]; simp; omega) (List.pairwise_append.2 ⟨ha, by simp, fun a ha2 b hb => by
          rw [List.mem_singleton] at hb
          subst hb
          have := hle a ((hm a).1 ha2)
          omega⟩) (fun x => by rw [htk, List.mem_append, List.mem_append, hm x])
        refine ⟨r, Ev.step (f := fun k => thistleref02_sorted.l0 k L (acc ++ [L[i]]) ((i + 1 : Nat) : Int)) (fun k => ?_) h1, h2⟩
        rw [thistleref02_sorted.l0, if_pos (by omega), if_neg (by omega), if_pos (by omega), e1, if_pos (by omega), if_pos (by omega), hg, hg1, if_neg he, if_pos (by omega), w64i _ (by omega) (by omega)]
        rfl
/-- sorted: strictly rising, the same numbers -/
theorem sorted_ev (L : List Int) (hL : L.length ≤ 200000000) : ∃ r, Ev (fun k => thistleref02_sorted.f k L) r ∧ r.Pairwise (· < ·) ∧ (∀ x, x ∈ r ↔ x ∈ L) ∧ r.length ≤ L.length := by
  obtain ⟨q, h1, h2, h3⟩ := merged_ev L hL
  obtain ⟨r, g1, g2, g3, g4⟩ := sorted_go q (by rw [h2.length_eq]; exact hL) h3 q.length 0 [] (by omega) (by simp) List.Pairwise.nil (fun x => by simp)
  exact ⟨r, Ev.bind h1 g1, g2, fun x => (g3 x).trans h2.mem_iff, by rw [← h2.length_eq]; exact g4⟩
end XM
end Go.Proofs.YtmokclfiifmhpaaDoor.XS
