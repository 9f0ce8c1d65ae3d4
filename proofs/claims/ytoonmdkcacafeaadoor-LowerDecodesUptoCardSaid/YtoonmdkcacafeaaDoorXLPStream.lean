/- A text that comes byte by byte, in plain Lean: what is told and what is held at each byte. -/
import Derived.Test.YtoonmdkcacafeaaDoorXLPLowD
namespace Go.Proofs.YtoonmdkcacafeaaDoor.XL
open Go.RowKit Go.Lib Go.Proofs.YtoonmdkcacafeaaDoorW.PrintWords Go.Proofs.YtoonmdkcacafeaaDoorW.PrintLast Go.Proofs.YtoonmdkcacafeaaDoorW.PrintMore Go.Proofs.YtoonmdkcacafeaaDoor.XLib
set_option linter.unusedVariables false
set_option linter.unusedSimpArgs false
/-- what may follow the first byte -/
def ac (b0 b1 : Nat) : Prop := 128 ≤ b1 ∧ b1 ≤ 191 ∧ (b0 = 224 → 160 ≤ b1) ∧ (b0 = 237 → b1 ≤ 159) ∧ (b0 = 240 → 144 ≤ b1) ∧ (b0 = 244 → b1 ≤ 143)
/-- n bytes are the beginning of a character with more bytes -/
def pf (n b0 b1 b2 : Nat) : Prop := 194 ≤ b0 ∧ b0 ≤ 244 ∧ (n = 1 ∨ (n = 2 ∧ 224 ≤ b0 ∧ ac b0 b1) ∨ (n = 3 ∧ 240 ≤ b0 ∧ ac b0 b1 ∧ 128 ≤ b2 ∧ b2 ≤ 191))
def pfL (t : List UInt8) : Prop := pf t.length (t.getD 0 0).toNat (t.getD 1 0).toNat (t.getD 2 0).toNat
theorem firstT_of (b : Nat) : (b < 194 ∧ firstT b % 8 ≤ 1) ∨ (244 < b ∧ firstT b % 8 ≤ 1) ∨ (194 ≤ b ∧ b < 224 ∧ firstT b = 2) ∨ (b = 224 ∧ firstT b = 19) ∨ (224 < b ∧ b < 240 ∧ b ≠ 237 ∧ firstT b = 3) ∨ (b = 237 ∧ firstT b = 35) ∨ (b = 240 ∧ firstT b = 52) ∨ (240 < b ∧ b < 244 ∧ firstT b = 4) ∨ (b = 244 ∧ firstT b = 68) := by
  unfold firstT
  repeat' split
  all_goals omega
theorem full_pf (n b0 b1 b2 : Nat) (h1 : 1 ≤ n) (h4 : n ≤ 4) : fullN n b0 b1 b2 = false ↔ pf n b0 b1 b2 := by
  unfold fullN pf ac
  simp only [Bool.or_eq_false_iff, Bool.and_eq_false_iff, decide_eq_false_iff_not]
  rcases firstT_of b0 with ⟨h, e⟩ | ⟨h, e⟩ | ⟨h, h', e⟩ | ⟨h, e⟩ | ⟨h, h', h'', e⟩ | ⟨h, e⟩ | ⟨h, e⟩ | ⟨h, h', e⟩ | ⟨h, e⟩
  · omega
  · omega
  · rw [e]; simp only [accLo, accHi, Nat.reduceDiv, if_true]; omega
  · rw [e]; simp only [accLo, accHi, Nat.reduceDiv, Nat.one_ne_zero, if_true, if_false]; omega
  · rw [e]; simp only [accLo, accHi, Nat.reduceDiv, if_true]; omega
  · rw [e]; simp only [accLo, accHi, Nat.reduceDiv, Nat.reduceEqDiff, if_true, if_false]; omega
  · rw [e]; simp only [accLo, accHi, Nat.reduceDiv, Nat.reduceEqDiff, if_true, if_false]; omega
  · rw [e]; simp only [accLo, accHi, Nat.reduceDiv, if_true]; omega
  · rw [e]; simp only [accLo, accHi, Nat.reduceDiv, Nat.reduceEqDiff, if_true, if_false]; omega
theorem full_pfL (t : List UInt8) (h1 : 1 ≤ t.length) (h4 : t.length ≤ 4) : fullL t = false ↔ pfL t := full_pf _ _ _ _ h1 h4
theorem pfL_len {t : List UInt8} (h : pfL t) : 1 ≤ t.length ∧ t.length ≤ 3 := by
  unfold pfL pf at h
  omega
theorem pfL_forms {t : List UInt8} (h : pfL t) : (∃ a, t = [a]) ∨ (∃ a b, t = [a, b]) ∨ (∃ a b c, t = [a, b, c]) := by
  obtain ⟨h1, h3⟩ := pfL_len h
  match t, h1, h3 with
  | [a], _, _ => exact .inl ⟨a, rfl⟩
  | [a, b], _, _ => exact .inr (.inl ⟨a, b, rfl⟩)
  | [a, b, c], _, _ => exact .inr (.inr ⟨a, b, c, rfl⟩)
theorem pfL_init {t : List UInt8} {b : UInt8} (hne : t ≠ []) (h : pfL (t ++ [b])) : pfL t := by
  rcases pfL_forms h with ⟨a, e⟩ | ⟨a, c, e⟩ | ⟨a, c, d, e⟩
  · exact absurd (List.append_eq_singleton_iff.mp e) (by simp [hne])
  · obtain ⟨rfl, _⟩ := List.append_inj' (show t ++ [b] = [a] ++ [c] from e) rfl
    rw [e] at h
    unfold pfL pf ac at h ⊢
    simp only [List.length_cons, List.length_nil, List.getD_cons_zero, List.getD_cons_succ, true_and, true_or, and_true] at h ⊢
    omega
  · obtain ⟨rfl, _⟩ := List.append_inj' (show t ++ [b] = [a, c] ++ [d] from e) rfl
    rw [e] at h
    unfold pfL pf ac at h ⊢
    simp only [List.length_cons, List.length_nil, List.getD_cons_zero, List.getD_cons_succ, true_and, true_or, and_true] at h ⊢
    omega
theorem pfL_head {x : UInt8} {t : List UInt8} (h : pfL (x :: t)) : 194 ≤ x.toNat ∧ x.toNat ≤ 244 := by
  unfold pfL pf at h
  simp only [List.getD_cons_zero] at h
  omega
theorem pfL_tail {x : UInt8} {t : List UInt8} (h : pfL (x :: t)) : ∀ y ∈ t, 128 ≤ y.toNat ∧ y.toNat ≤ 191 := by
  rcases pfL_forms h with ⟨a, e⟩ | ⟨a, c, e⟩ | ⟨a, c, d, e⟩
  all_goals (injection e with e1 e2; subst e1 e2; unfold pfL pf ac at h; simp only [List.length_cons, List.length_nil, List.getD_cons_zero, List.getD_cons_succ] at h; intro y hy)
  · simp at hy
  · simp only [List.mem_cons, List.not_mem_nil, or_false] at hy; subst hy; omega
  · simp only [List.mem_cons, List.not_mem_nil, or_false] at hy; rcases hy with rfl | rfl <;> omega
theorem pfL_suffix {hs t : List UInt8} (h : pfL hs) (hs' : t <:+ hs) (ht : pfL t) : t = hs := by
  cases hs with
  | nil => exact List.suffix_nil.mp hs'
  | cons x r =>
    rcases List.suffix_cons_iff.mp hs' with e | e
    · exact e
    · cases t with
      | nil => exact absurd (pfL_len ht).1 (by simp)
      | cons y q =>
        have h1 := pfL_tail h y (e.subset List.mem_cons_self)
        have h2 := pfL_head ht
        omega
/-! what decodes -/
theorem dec_cont (b : UInt8) (t : List UInt8) (h1 : 128 ≤ b.toNat) (h2 : b.toNat ≤ 191) : decodeL (b :: t) = (65533, 1) := by
  rw [decodeL_N]
  simp only [List.getD_cons_zero]
  rcases decodeN_shape (b :: t).length b.toNat ((b :: t).getD 1 0).toNat ((b :: t).getD 2 0).toNat ((b :: t).getD 3 0).toNat with ⟨c, e⟩ | ⟨c1, c2, c3, cv, e⟩ | ⟨c1, c2, c3, c4, cv, cs, e⟩ | ⟨c1, c2, c3, c4, c5, cv, cw, e⟩ | e
  · omega
  · omega
  · omega
  · omega
  · exact e
theorem usL_cont : ∀ (t z : List UInt8), (∀ y ∈ t, 128 ≤ y.toNat ∧ y.toNat ≤ 191) → usL (t ++ z) = t.map bdU ++ usL z
  | [], z, _ => rfl
  | y :: t, z, h => by
    have hy := h y List.mem_cons_self
    have hd := dec_cont y (t ++ z) hy.1 hy.2
    rw [List.cons_append, usL_step _ (by simp), hd]
    simp only [List.drop_succ_cons, List.drop_zero, List.map_cons, List.cons_append]
    rw [usL_cont t z (fun x hx => h x (List.mem_cons_of_mem _ hx))]
    unfold hdU
    rw [if_pos hd]
    rfl
theorem usL_bad1 (y : UInt8) (z : List UInt8) (hd : decodeL (y :: z) = (65533, 1)) : usL (y :: z) = bdU y :: usL z := by
  rw [usL_step _ (by simp), hd]
  unfold hdU
  rw [if_pos hd]
  rfl
/-- a character's beginning with something behind it that is no more of it -/
theorem usL_broken (hs z : List UInt8) (h : hs = [] ∨ pfL hs) (hd : hs ≠ [] → decodeL (hs ++ z) = (65533, 1)) : usL (hs ++ z) = hs.map bdU ++ usL z := by
  cases hs with
  | nil => rfl
  | cons x t =>
    have hp : pfL (x :: t) := by rcases h with h | h; cases h; exact h
    rw [List.cons_append] at hd ⊢
    rw [usL_bad1 x (t ++ z) (hd (by simp)), usL_cont t z (pfL_tail hp)]
    rfl
theorem toNat_getD (t z : List UInt8) (i : Nat) (h : i < t.length) : (t ++ z).getD i 0 = t.getD i 0 := by
  rw [List.getD_eq_getElem?_getD, List.getD_eq_getElem?_getD, List.getElem?_append_left h]
/-- how it decodes, and what the bytes are then -/
theorem dec_valid (l : List UInt8) (hne : l ≠ []) (hb : decodeL l ≠ (65533, 1)) : ∃ r : Int, ChU r ∧ ((decodeL l).1 : Int) = r ∧ encodeRune r = l.take (decodeL l).2 ∧ (encodeRune r).length = (decodeL l).2 := by
  rcases hd_cases l hne with ⟨h1, h2, h3⟩ | ⟨h1, h2, h3⟩
  · rw [h3] at h1
    have h4 := encode_decode l hne (fun h => hb (Prod.ext h.1 h.2))
    obtain ⟨h5, _⟩ := decodeL_enc _ h1 (l.drop (decodeL l).2)
    refine ⟨_, h1, rfl, h4, ?_⟩
    rw [h4, List.take_append_drop] at h5
    have := congrArg Prod.snd h5
    rw [h4]
    exact this.symm
  · exact absurd h2 hb
set_option maxHeartbeats 4000000 in
/-- a width above the bytes at hand: they are a character's beginning -/
theorem dec_wide (t z : List UInt8) (h1 : 1 ≤ t.length) (hw : t.length < (decodeL (t ++ z)).2) : pfL t := by
  rw [decodeL_N] at hw
  have k0 := ((t ++ z).getD 0 0).toNat_lt
  rw [toNat_getD t z 0 (by omega)] at hw k0
  unfold pfL pf ac
  rcases decodeN_shape (t ++ z).length (t.getD 0 0).toNat ((t ++ z).getD 1 0).toNat ((t ++ z).getD 2 0).toNat ((t ++ z).getD 3 0).toNat with ⟨c, e⟩ | ⟨c1, c2, c3, cv, e⟩ | ⟨c1, c2, c3, c4, cv, cs, e⟩ | ⟨c1, c2, c3, c4, c5, cv, cw, e⟩ | e
  · rw [e] at hw; dsimp only at hw; omega
  · rw [e] at hw; dsimp only at hw; omega
  · rw [e] at hw
    dsimp only at hw
    rcases (by omega : t.length = 1 ∨ t.length = 2) with h | h
    · omega
    · rw [toNat_getD t z 1 (by omega)] at c3 cv cs
      omega
  · rw [e] at hw
    dsimp only at hw
    rcases (by omega : t.length = 1 ∨ t.length = 2 ∨ t.length = 3) with h | h | h
    · omega
    · rw [toNat_getD t z 1 (by omega)] at c3 cv cw
      omega
    · rw [toNat_getD t z 1 (by omega)] at c3 cv cw
      rw [toNat_getD t z 2 (by omega)] at c4 cv cw
      omega
  · rw [e] at hw; dsimp only at hw; omega
/-- a whole character behind the beginning of one: its width is all bytes at hand -/
theorem dec_whole (hs : List UInt8) (c : UInt8) (h : hs = [] ∨ pfL hs) (hb : decodeL (hs ++ [c]) ≠ (65533, 1)) : (decodeL (hs ++ [c])).2 = (hs ++ [c]).length ∧ (hs ≠ [] → 128 ≤ c.toNat ∧ c.toNat ≤ 191) := by
  rw [decodeL_N] at hb ⊢
  have hs1 := decodeN_shape (hs ++ [c]).length ((hs ++ [c]).getD 0 0).toNat ((hs ++ [c]).getD 1 0).toNat ((hs ++ [c]).getD 2 0).toNat ((hs ++ [c]).getD 3 0).toNat
  rcases h with rfl | h
  · simp only [List.nil_append, List.length_singleton, List.getD_cons_zero, List.getD_cons_succ, List.getD_nil] at hs1 hb ⊢
    refine ⟨?_, fun h => absurd rfl h⟩
    rcases hs1 with ⟨c, e⟩ | ⟨c1, c2, c3, cv, e⟩ | ⟨c1, c2, c3, c4, cv, cs, e⟩ | ⟨c1, c2, c3, c4, c5, cv, cw, e⟩ | e
    · rw [e]
    · omega
    · omega
    · omega
    · exact absurd e hb
  · have hp := h
    rcases pfL_forms h with ⟨a, rfl⟩ | ⟨a, b, rfl⟩ | ⟨a, b, d, rfl⟩
    all_goals (unfold pfL pf ac at hp; simp only [List.cons_append, List.nil_append, List.length_cons, List.length_nil, List.getD_cons_zero, List.getD_cons_succ, List.getD_nil] at hp hs1 hb ⊢)
    all_goals (rcases hs1 with ⟨c, e⟩ | ⟨c1, c2, c3, cv, e⟩ | ⟨c1, c2, c3, c4, cv, cs, e⟩ | ⟨c1, c2, c3, c4, c5, cv, cw, e⟩ | e)
    all_goals first | (exact absurd e hb) | (exfalso; omega) | (rw [e]; exact ⟨rfl, fun _ => by omega⟩)
theorem dec_fffd (z : List UInt8) : decodeL ([239, 191, 189] ++ z) = (65533, 3) := by
  have h := decodeL_enc 65533 (.inr (by omega)) z
  rw [show encodeRune 65533 = [239, 191, 189] by decide] at h
  exact h.1
/-- the three things that a further byte may bring -/
theorem opn_cases (hs : List UInt8) (c : UInt8) (h : hs = [] ∨ pfL hs) :
    (fullL (hs ++ [c]) = false ∧ opn (hs ++ [c]) = true ∧ pfL (hs ++ [c])) ∨
    (fullL (hs ++ [c]) = true ∧ opn (hs ++ [c]) = true ∧ ¬ pfL (hs ++ [c]) ∧ (hs ≠ [] → 128 ≤ c.toNat ∧ c.toNat ≤ 191) ∧ ∀ z, usL (hs ++ c :: z) = ((decodeL (hs ++ [c])).1 : Int) :: usL z) ∨
    (fullL (hs ++ [c]) = true ∧ opn (hs ++ [c]) = false ∧ ¬ pfL (hs ++ [c]) ∧ ∀ z, decodeL (hs ++ c :: z) = (65533, 1)) := by
  have hl : 1 ≤ (hs ++ [c]).length ∧ (hs ++ [c]).length ≤ 4 := by
    rw [List.length_append, List.length_singleton]
    rcases h with rfl | h
    · simp
    · have := pfL_len h; omega
  have hsp : ∀ z, hs ++ c :: z = (hs ++ [c]) ++ z := fun z => by simp
  cases hf : fullL (hs ++ [c]) with
  | false => exact .inl ⟨rfl, by unfold opn; rw [hf]; simp, (full_pfL _ hl.1 hl.2).mp hf⟩
  | true =>
    have hnp : ¬ pfL (hs ++ [c]) := fun hp => by rw [(full_pfL _ hl.1 hl.2).mpr hp] at hf; cases hf
    have hne : hs ++ [c] ≠ [] := by simp
    right
    by_cases hb : decodeL (hs ++ [c]) = (65533, 1)
    · right
      have ho : opn (hs ++ [c]) = false := by
        unfold opn
        rw [hf, hb]
        simp only [ne_eq, not_true_eq_false, decide_false, Bool.not_true, Bool.false_or, decide_eq_false_iff_not]
        intro e
        rw [e, ← List.append_nil [239, 191, 189], dec_fffd] at hb
        cases hb
      refine ⟨rfl, ho, hnp, fun z => ?_⟩
      rw [hsp]
      by_cases hv : decodeL ((hs ++ [c]) ++ z) = (65533, 1)
      · exact hv
      · exfalso
        obtain ⟨r, hr, e1, e2, e3⟩ := dec_valid _ (by simp) hv
        rcases Nat.lt_or_ge (hs ++ [c]).length (decodeL ((hs ++ [c]) ++ z)).2 with hw | hw
        · exact hnp (dec_wide _ _ hl.1 hw)
        · rw [List.take_append_of_le_length hw] at e2
          obtain ⟨h5, _, _, _, h6⟩ := decodeL_enc r hr ((hs ++ [c]).drop (decodeL ((hs ++ [c]) ++ z)).2)
          rw [e2, List.take_append_drop, hb] at h5
          have a1 := congrArg Prod.fst h5
          have a2 := congrArg Prod.snd h5
          simp only at a1 a2
          rw [← e2] at a2
          have a3 := h6 (by unfold ChU at hr; omega)
          omega
    · left
      have ho : opn (hs ++ [c]) = true := by
        unfold opn
        rw [hf]
        by_cases h1 : (decodeL (hs ++ [c])).1 = 65533
        · obtain ⟨r, hr, e1, e2, e3⟩ := dec_valid _ hne hb
          have hr2 : r = 65533 := by omega
          subst hr2
          have hw := (dec_whole hs c h hb).1
          rw [hw, List.take_length] at e2
          rw [← e2]
          simp only [Bool.or_eq_true]
          exact .inr (by decide)
        · simp [h1]
      have hw := dec_whole hs c h hb
      refine ⟨rfl, ho, hnp, hw.2, fun z => ?_⟩
      obtain ⟨r, hr, e1, e2, e3⟩ := dec_valid _ hne hb
      rw [hw.1, List.take_length] at e2
      rw [hsp, e1, ← e2, ← enc1_char r hr]
      exact usL_char r hr z
/-! the decoder's state -/
structure St (T : List UInt8) (C : List Int) (hs : List UInt8) : Prop where
  pre : ∃ P, T = P ++ hs ∧ usL P = C
  held : hs = [] ∨ pfL hs
  on : ∀ z, usL (T ++ z) = C ++ usL (hs ++ z)
  no : ∀ t, t <:+ T → hs.length < t.length → ¬ pfL t
theorem St.nil : St [] [] [] := ⟨⟨[], rfl, rfl⟩, .inl rfl, fun _ => rfl, fun t ht hl => by rw [List.suffix_nil.mp ht] at hl; simp at hl⟩
theorem us_held (hs : List UInt8) (h : hs = [] ∨ pfL hs) : usL hs = hs.map bdU := by
  have h2 := usL_broken hs [] h (fun hne => by
    rw [List.append_nil]
    rcases h with h | h
    · exact absurd h hne
    · by_cases hv : decodeL hs = (65533, 1)
      · exact hv
      · exfalso
        have h3 := pfL_len h
        obtain ⟨r, hr, e1, e2, e3⟩ := dec_valid _ hne hv
        have hp := h
        rw [decodeL_N] at hv
        rcases decodeN_shape hs.length (hs.getD 0 0).toNat (hs.getD 1 0).toNat (hs.getD 2 0).toNat (hs.getD 3 0).toNat with ⟨c, e⟩ | ⟨c1, c2, c3, cv, e⟩ | ⟨c1, c2, c3, c4, cv, cs, e⟩ | ⟨c1, c2, c3, c4, c5, cv, cw, e⟩ | e
        · unfold pfL pf at hp; omega
        · unfold pfL pf at hp; omega
        · unfold pfL pf at hp; omega
        · unfold pfL pf at hp; omega
        · exact hv e)
  rw [List.append_nil] at h2
  rw [h2, usL_nil, List.append_nil]
theorem St.all {T : List UInt8} {C : List Int} {hs : List UInt8} (h : St T C hs) : usL T = C ++ hs.map bdU := by
  have h2 := h.on []
  rw [List.append_nil, List.append_nil] at h2
  rw [h2, us_held hs h.held]
theorem St.last {T : List UInt8} {C : List Int} {hs : List UInt8} (h : St T C hs) (c : UInt8) (t : List UInt8) (ht : t <:+ T ++ [c]) (hp : pfL t) : t = [c] ∨ (hs ≠ [] ∧ t = hs ++ [c]) := by
  obtain ⟨q, hq⟩ := ht
  rcases List.eq_nil_or_concat t with rfl | ⟨t0, d, e⟩
  · exact absurd (pfL_len hp).1 (by simp)
  · rw [List.concat_eq_append] at e
    subst e
    rw [← List.append_assoc] at hq
    obtain ⟨hq1, hq2⟩ := List.append_inj' hq rfl
    obtain rfl : d = c := by simpa using hq2
    by_cases h0 : t0 = []
    · left; rw [h0]; rfl
    · right
      have hp0 := pfL_init h0 hp
      have hsuf : t0 <:+ T := ⟨q, hq1⟩
      have hle : t0.length ≤ hs.length := by
        rcases Nat.lt_or_ge hs.length t0.length with h1 | h1
        · exact absurd hp0 (h.no t0 hsuf h1)
        · exact h1
      obtain ⟨P, hP, _⟩ := h.pre
      have hs2 : hs <:+ T := ⟨P, hP.symm⟩
      have h3 := List.suffix_of_suffix_length_le hsuf hs2 hle
      have hne : hs ≠ [] := by
        rintro rfl
        exact h0 (List.suffix_nil.mp h3)
      have h4 := pfL_suffix (by rcases h.held with h5 | h5; exact absurd h5 hne; exact h5) h3 hp0
      exact ⟨hne, by rw [h4]⟩
theorem stepD_one (c : UInt8) : stepD [] c = if opn [c] = true then (if fullL [c] = true then ([((decodeL [c]).1 : Int)], []) else ([], [c])) else ([bdU c], []) := by
  unfold stepD openD
  simp only [List.nil_append, List.map_nil, ite_self]
  rfl
theorem stepD_broken (hs : List UInt8) (c : UInt8) (h : opn (hs ++ [c]) = false) : stepD hs c = (hs.map bdU ++ (stepD [] c).1, (stepD [] c).2) := by
  rw [stepD_one]
  unfold stepD openD
  rw [h]
  simp only [Bool.false_eq_true, if_false]
  cases opn [c] with
  | true =>
    cases fullL [c] with
    | true => simp
    | false => simp
  | false => simp
theorem St.step {T : List UInt8} {C : List Int} {hs : List UInt8} (h : St T C hs) (c : UInt8) : St (T ++ [c]) (C ++ (stepD hs c).1) (stepD hs c).2 := by
  have hap : ∀ z, T ++ [c] ++ z = T ++ c :: z := fun z => by simp
  obtain ⟨P, hP, hC⟩ := h.pre
  rcases opn_cases hs c h.held with ⟨hf, ho, hp⟩ | ⟨hf, ho, hp, hc, hu⟩ | ⟨hf, ho, hp, hd⟩
  · have e : stepD hs c = ([], hs ++ [c]) := by unfold stepD openD; rw [ho]; simp only [if_true]; rw [ho, hf]; simp
    rw [e]
    simp only [List.append_nil]
    refine ⟨⟨P, by rw [hP]; simp, hC⟩, .inr hp, fun z => by rw [hap, h.on (c :: z)]; simp, fun t ht hl hpt => ?_⟩
    rcases h.last c t ht hpt with rfl | ⟨_, rfl⟩
    · simp only [List.length_append, List.length_singleton] at hl; omega
    · omega
  · have e : stepD hs c = ([((decodeL (hs ++ [c])).1 : Int)], []) := by unfold stepD openD; rw [ho]; simp only [if_true]; rw [ho, hf]; simp
    rw [e]
    have hon : ∀ z, usL (T ++ [c] ++ z) = C ++ [((decodeL (hs ++ [c])).1 : Int)] ++ usL z := fun z => by
      rw [hap, h.on (c :: z), hu z]; simp
    refine ⟨⟨T ++ [c], by simp, ?_⟩, .inl rfl, fun z => by rw [hon]; rfl, fun t ht hl hpt => ?_⟩
    · have := hon []
      rw [List.append_nil, usL_nil, List.append_nil] at this
      exact this
    · rcases h.last c t ht hpt with rfl | ⟨_, rfl⟩
      · by_cases hne : hs = []
        · subst hne; exact hp hpt
        · have h1 := hc hne
          have h2 := pfL_head hpt
          omega
      · exact hp hpt
  · rw [stepD_broken hs c ho]
    have hQ : ∀ z, usL (T ++ [c] ++ z) = (C ++ hs.map bdU) ++ usL (c :: z) := fun z => by
      rw [hap, h.on (c :: z), usL_broken hs (c :: z) h.held (fun _ => hd z), List.append_assoc]
    have hT := h.all
    have hno : pfL [c] ∨ ∀ t, t <:+ T ++ [c] → ¬ pfL t := by
      by_cases h1 : pfL [c]
      · exact .inl h1
      · refine .inr fun t ht hpt => ?_
        rcases h.last c t ht hpt with rfl | ⟨_, rfl⟩
        · exact h1 hpt
        · exact hp hpt
    rcases opn_cases [] c (.inl rfl) with ⟨hf1, ho1, hp1⟩ | ⟨hf1, ho1, hp1, hc1, hu1⟩ | ⟨hf1, ho1, hp1, hd1⟩
    · simp only [List.nil_append] at hf1 ho1 hp1
      have e : stepD [] c = ([], [c]) := by rw [stepD_one, ho1, hf1]; simp
      rw [e]
      simp only [List.append_nil]
      refine ⟨⟨T, rfl, hT⟩, .inr hp1, fun z => by rw [hQ z]; rfl, fun t ht hl hpt => ?_⟩
      rcases h.last c t ht hpt with rfl | ⟨_, rfl⟩
      · omega
      · exact hp hpt
    · simp only [List.nil_append] at hf1 ho1 hp1 hu1
      have e : stepD [] c = ([((decodeL [c]).1 : Int)], []) := by rw [stepD_one, ho1, hf1]; simp
      rw [e]
      have hon : ∀ z, usL (T ++ [c] ++ z) = C ++ (hs.map bdU ++ [((decodeL [c]).1 : Int)]) ++ usL z := fun z => by
        rw [hQ z, hu1 z]; simp
      refine ⟨⟨T ++ [c], by simp, ?_⟩, .inl rfl, fun z => by rw [hon]; rfl, fun t ht hl => ?_⟩
      · have := hon []
        rw [List.append_nil, usL_nil, List.append_nil] at this
        exact this
      · rcases hno with h1 | h1
        · exact absurd h1 hp1
        · exact h1 t ht
    · simp only [List.nil_append] at hf1 ho1 hp1 hd1
      have e : stepD [] c = ([bdU c], []) := by rw [stepD_one, ho1]; simp
      rw [e]
      have hon : ∀ z, usL (T ++ [c] ++ z) = C ++ (hs.map bdU ++ [bdU c]) ++ usL z := fun z => by
        rw [hQ z, usL_bad1 c z (hd1 z)]; simp
      refine ⟨⟨T ++ [c], by simp, ?_⟩, .inl rfl, fun z => by rw [hon]; rfl, fun t ht hl => ?_⟩
      · have := hon []
        rw [List.append_nil, usL_nil, List.append_nil] at this
        exact this
      · rcases hno with h1 | h1
        · exact absurd h1 hp1
        · exact h1 t ht
theorem St.three {T : List UInt8} {C : List Int} {hs : List UInt8} (h : St T C hs) : hs.length ≤ 3 := by
  rcases h.held with rfl | h1
  · simp
  · exact (pfL_len h1).2
end Go.Proofs.YtoonmdkcacafeaaDoor.XL
