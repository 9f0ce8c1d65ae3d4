/- Texts and their units, in plain Lean over lists of bytes: how a text decodes, what the units' text is, and that a list of units whose characters are put into other characters' places is the units of its own text. -/
import Derived.Lib.MapLaws
import Derived.Lib.RuneCountTail
namespace Go.Proofs.YtmokclfiifmhpaaDoor.XLib
open Go.Lib
set_option linter.unusedVariables false
set_option linter.unusedSimpArgs false
def hdU (l : List UInt8) : Int := if decodeL l = (65533, 1) then 1114112 + ((l.getD 0 0).toNat : Int) else ((decodeL l).1 : Int)
def unitsN : Nat → List UInt8 → List Int
  | 0, _ => []
  | n + 1, l => if l = [] then [] else hdU l :: unitsN n (l.drop (decodeL l).2)
def usL (l : List UInt8) : List Int := unitsN l.length l
def enc1 (u : Int) : List UInt8 := if 1114111 < u then [(u - 1114112).toNat.toUInt8] else encodeRune u
def txt : List Int → List UInt8
  | [] => []
  | u :: t => enc1 u ++ txt t
def ChU (u : Int) : Prop := (0 ≤ u ∧ u < 55296) ∨ (57343 < u ∧ u ≤ 1114111)
def BdU (u : Int) : Prop := 1114240 ≤ u ∧ u ≤ 1114367
theorem unitsN_nil : ∀ n, unitsN n [] = []
  | 0 => rfl
  | _ + 1 => by simp [unitsN]
theorem unitsN_fuel : ∀ (n m : Nat) (l : List UInt8), l.length ≤ n → l.length ≤ m → unitsN n l = unitsN m l
  | 0, m, l, hn, _ => by
    have : l = [] := List.eq_nil_of_length_eq_zero (by omega)
    subst this
    rw [unitsN_nil, unitsN_nil]
  | n + 1, 0, l, _, hm => by
    have : l = [] := List.eq_nil_of_length_eq_zero (by omega)
    subst this
    rw [unitsN_nil, unitsN_nil]
  | n + 1, m + 1, l, hn, hm => by
    by_cases hne : l = []
    · subst hne
      rw [unitsN_nil, unitsN_nil]
    · have hw := decodeL_width l
      have hl : 0 < l.length := List.length_pos_iff.2 hne
      simp only [unitsN, if_neg hne]
      rw [unitsN_fuel n m _ (by rw [List.length_drop]; omega) (by rw [List.length_drop]; omega)]
theorem usL_nil : usL [] = [] := rfl
theorem usL_step (l : List UInt8) (hne : l ≠ []) : usL l = hdU l :: usL (l.drop (decodeL l).2) := by
  have hw := decodeL_width l
  have hl : 0 < l.length := List.length_pos_iff.2 hne
  unfold usL
  obtain ⟨n, hn⟩ : ∃ n, l.length = n + 1 := ⟨l.length - 1, by omega⟩
  rw [hn]
  simp only [unitsN, if_neg hne]
  rw [unitsN_fuel n _ _ (by rw [List.length_drop]; omega) (Nat.le_refl _)]
theorem usL_length (l : List UInt8) : (usL l).length ≤ l.length := by
  suffices h : ∀ n (l : List UInt8), (unitsN n l).length ≤ n from h _ _
  intro n
  induction n with
  | zero => intro l; simp [unitsN]
  | succ n ih =>
    intro l
    rw [unitsN]
    split
    · simp
    · simp only [List.length_cons]; have := ih (l.drop (decodeL l).2); omega
theorem toByte' (x : UInt8) (z : Int) (h : z = 1114112 + (x.toNat : Int)) : (z - 1114112).toNat.toUInt8 = x := by
  subst h
  rw [show (1114112 + (x.toNat : Int) - 1114112) = (x.toNat : Int) by omega]
  simp
theorem enc1_hd (l : List UInt8) (hne : l ≠ []) : enc1 (hdU l) = l.take (decodeL l).2 := by
  have hl : 0 < l.length := List.length_pos_iff.2 hne
  unfold enc1 hdU
  by_cases hb : decodeL l = (65533, 1)
  · rw [if_pos hb, if_pos (by have := (l.getD 0 0).toNat_lt; omega), hb, takeA l hl, toByte' _ _ rfl]
  · rw [if_neg hb, if_neg (by have := decodeL_rune l; omega)]
    exact encode_decode l hne (fun h => hb (Prod.ext h.1 h.2))
theorem txt_usL (l : List UInt8) : txt (usL l) = l := by
  suffices h : ∀ n (l : List UInt8), l.length ≤ n → txt (usL l) = l from h _ l (Nat.le_refl _)
  intro n
  induction n with
  | zero => intro l h; have : l = [] := List.eq_nil_of_length_eq_zero (by omega); subst this; rfl
  | succ n ih =>
    intro l h
    by_cases hne : l = []
    · subst hne; rfl
    · have hw := decodeL_width l
      have hl : 0 < l.length := List.length_pos_iff.2 hne
      rw [usL_step l hne, txt, enc1_hd l hne, ih _ (by rw [List.length_drop]; omega), List.take_append_drop]
/-- the unit at the head, case by case -/
theorem hd_cases (l : List UInt8) (hne : l ≠ []) : (ChU (hdU l) ∧ decodeL l ≠ (65533, 1) ∧ hdU l = ((decodeL l).1 : Int)) ∨ (BdU (hdU l) ∧ decodeL l = (65533, 1) ∧ 128 ≤ (l.getD 0 0).toNat) := by
  have k0 := (l.getD 0 0).toNat_lt
  have k1 := (l.getD 1 0).toNat_lt
  have k2 := (l.getD 2 0).toNat_lt
  have k3 := (l.getD 3 0).toNat_lt
  by_cases hb : decodeL l = (65533, 1)
  · right
    have h8 : 128 ≤ (l.getD 0 0).toNat := by
      rcases Nat.lt_or_ge (l.getD 0 0).toNat 128 with h | h
      · rw [decodeL_N, decodeN_ascii _ _ _ _ _ h] at hb
        have := congrArg Prod.fst hb
        simp only at this
        omega
      · exact h
    unfold BdU hdU
    rw [if_pos hb]
    exact ⟨by omega, hb, h8⟩
  · left
    unfold ChU hdU
    rw [if_neg hb]
    refine ⟨?_, hb, rfl⟩
    rw [decodeL_N] at hb ⊢
    rcases decodeN_shape l.length (l.getD 0 0).toNat (l.getD 1 0).toNat (l.getD 2 0).toNat (l.getD 3 0).toNat with ⟨c, e⟩ | ⟨c1, c2, c3, cv, e⟩ | ⟨c1, c2, c3, c4, cv, cs, e⟩ | ⟨c1, c2, c3, c4, c5, cv, cw, e⟩ | e
    all_goals (rw [e] at hb ⊢; dsimp only)
    · omega
    · omega
    · omega
    · omega
    · exact absurd rfl hb
/-- the bytes that may go on, at a list's head -/
def cont (b : UInt8) : Bool := decide (b.toNat / 64 = 2)
def cp (l : List UInt8) : List UInt8 := l.takeWhile cont
def noc (l : List UInt8) : Prop := l.length = 0 ∨ (l.getD 0 0).toNat / 64 ≠ 2
theorem cp_split (t t' : List UInt8) (h : cp t = cp t') : (noc t ∧ noc t') ∨ ∃ x s s', x.toNat / 64 = 2 ∧ t = x :: s ∧ t' = x :: s' ∧ cp s = cp s' := by
  have key : ∀ t : List UInt8, (noc t ∧ cp t = []) ∨ ∃ x s, x.toNat / 64 = 2 ∧ t = x :: s ∧ cp t = x :: cp s := by
    intro t
    cases t with
    | nil => exact .inl ⟨.inl rfl, rfl⟩
    | cons x s =>
      by_cases hx : x.toNat / 64 = 2
      · exact .inr ⟨x, s, hx, rfl, by unfold cp cont; rw [List.takeWhile_cons]; simp [hx]⟩
      · exact .inl ⟨.inr (by simpa using hx), by unfold cp cont; rw [List.takeWhile_cons]; simp [hx]⟩
  rcases key t with ⟨h1, e1⟩ | ⟨x, s, hx, e1, c1⟩ <;> rcases key t' with ⟨h2, e2⟩ | ⟨x', s', hx', e2, c2⟩
  · exact .inl ⟨h1, h2⟩
  · rw [e1, c2] at h; cases h
  · rw [c1, e2] at h; cases h
  · rw [c1, c2] at h
    injection h with ha hb
    subst ha
    exact .inr ⟨x, s, s', hx, e1, e2, hb⟩
theorem dN1 (n b0 b1 b2 b3 : Nat) (h : n ≤ 1 ∨ b1 / 64 ≠ 2) : decodeN n b0 b1 b2 b3 = decodeN 1 b0 0 0 0 := by
  have h1 : (1 < n ∧ b1 / 64 = 2) = False := eq_false (by omega)
  have h2 : (1 < 1 ∧ 0 / 64 = 2) = False := eq_false (by omega)
  unfold decodeN
  simp only [h1, h2, false_and, and_false, if_false]
theorem dN2 (n b0 b1 b2 b3 : Nat) (h1 : 1 < n) (h : n ≤ 2 ∨ b2 / 64 ≠ 2) : decodeN n b0 b1 b2 b3 = decodeN 2 b0 b1 0 0 := by
  have e1 : (1 < n) = True := eq_true h1
  have e2 : (1 < 2) = True := eq_true (by omega)
  have h1 : (2 < n ∧ b2 / 64 = 2) = False := eq_false (by omega)
  have h2 : (2 < 2 ∧ 0 / 64 = 2) = False := eq_false (by omega)
  unfold decodeN
  simp only [h1, h2, e1, e2, true_and, false_and, and_false, if_false]
theorem dN3 (n b0 b1 b2 b3 : Nat) (h1 : 2 < n) (h : n ≤ 3 ∨ b3 / 64 ≠ 2) : decodeN n b0 b1 b2 b3 = decodeN 3 b0 b1 b2 0 := by
  have e1 : (1 < n) = True := eq_true (by omega)
  have e2 : (1 < 3) = True := eq_true (by omega)
  have e3 : (2 < n) = True := eq_true h1
  have e4 : (2 < 3) = True := eq_true (by omega)
  have h1 : (3 < n ∧ b3 / 64 = 2) = False := eq_false (by omega)
  have h2 : (3 < 3 ∧ 0 / 64 = 2) = False := eq_false (by omega)
  unfold decodeN
  simp only [h1, h2, e1, e2, e3, e4, true_and, false_and, and_false, if_false]
theorem dN4 (n b0 b1 b2 b3 : Nat) (h1 : 3 < n) : decodeN n b0 b1 b2 b3 = decodeN 4 b0 b1 b2 b3 := by
  have e1 : (1 < n) = True := eq_true (by omega)
  have e2 : (1 < 4) = True := eq_true (by omega)
  have e3 : (2 < n) = True := eq_true (by omega)
  have e4 : (2 < 4) = True := eq_true (by omega)
  have e5 : (3 < n) = True := eq_true (by omega)
  have e6 : (3 < 4) = True := eq_true (by omega)
  unfold decodeN
  simp only [e1, e2, e3, e4, e5, e6]
/-- how a text's head decodes hangs on its first byte and on the bytes behind it that may go on -/
theorem decodeL_cp (b : UInt8) (t t' : List UInt8) (h : cp t = cp t') : decodeL (b :: t) = decodeL (b :: t') := by
  rw [decodeL_N, decodeL_N]
  rcases cp_split t t' h with ⟨h1, h2⟩ | ⟨x, s, s', hx, rfl, rfl, hs⟩
  · unfold noc at h1 h2
    rw [dN1 _ _ _ _ _ (by simp only [List.getD_cons_succ, List.length_cons]; omega), dN1 (b :: t').length _ _ _ _ (by simp only [List.getD_cons_succ, List.length_cons]; omega)]
    simp
  rcases cp_split s s' hs with ⟨h1, h2⟩ | ⟨y, r, r', hy, rfl, rfl, hr⟩
  · unfold noc at h1 h2
    rw [dN2 _ _ _ _ _ (by simp only [List.length_cons]; omega) (by simp only [List.getD_cons_succ, List.length_cons]; omega), dN2 (b :: x :: s').length _ _ _ _ (by simp only [List.length_cons]; omega) (by simp only [List.getD_cons_succ, List.length_cons]; omega)]
    simp
  rcases cp_split r r' hr with ⟨h1, h2⟩ | ⟨z, q, q', hz, rfl, rfl, hq⟩
  · unfold noc at h1 h2
    rw [dN3 _ _ _ _ _ (by simp only [List.length_cons]; omega) (by simp only [List.getD_cons_succ, List.length_cons]; omega), dN3 (b :: x :: y :: r').length _ _ _ _ (by simp only [List.length_cons]; omega) (by simp only [List.getD_cons_succ, List.length_cons]; omega)]
    simp
  · rw [dN4 _ _ _ _ _ (by simp only [List.length_cons]; omega), dN4 (b :: x :: y :: z :: q').length _ _ _ _ (by simp only [List.length_cons]; omega)]
    simp
theorem byteN (z : Int) (h0 : 0 ≤ z) (h1 : z < 256) : (z.toNat.toUInt8).toNat = z.toNat := by
  simp
  omega
set_option maxHeartbeats 4000000 in
set_option maxRecDepth 100000 in
/-- a character's bytes decode to it, whatever follows; its first byte goes on from nothing -/
theorem decodeL_enc (u : Int) (hu : ChU u) (t : List UInt8) : decodeL (encodeRune u ++ t) = (u.toNat, (encodeRune u).length) ∧ cp (encodeRune u ++ t) = [] ∧ (encodeRune u).length ≠ 0 ∧ (encodeRune u).length ≤ 4 ∧ (u = 65533 → (encodeRune u).length = 3) := by
  unfold ChU at hu
  by_cases h1 : u ≤ 127
  · have e : encodeRune u = [u.toNat.toUInt8] := by unfold encodeRune; rw [encodeRuneZ_one (by omega) h1]; rfl
    have n0 := byteN u (by omega) (by omega)
    rw [e]
    refine ⟨?_, ?_, by simp, by simp, by omega⟩
    · rw [decodeL_N, decodeN_ascii _ _ _ _ _ (by simp only [List.cons_append, List.getD_cons_zero]; omega)]
      simp only [List.cons_append, List.getD_cons_zero, n0, List.length_cons, List.length_nil]
    · unfold cp cont
      simp only [List.cons_append]
      rw [List.takeWhile_cons, if_neg (by simp only [decide_eq_true_eq]; omega)]
  by_cases h2 : u ≤ 2047
  · have e : encodeRune u = [(192 + u / 64).toNat.toUInt8, (128 + u % 64).toNat.toUInt8] := by unfold encodeRune; rw [encodeRuneZ_two (by omega) h2]; rfl
    have n0 := byteN (192 + u / 64) (by omega) (by omega)
    have n1 := byteN (128 + u % 64) (by omega) (by omega)
    rw [e]
    refine ⟨?_, ?_, by simp, by simp, by omega⟩
    · rw [decodeL_N]
      simp only [List.cons_append, List.nil_append, List.getD_cons_zero, List.getD_cons_succ, n0, n1, List.length_cons, List.length_nil]
      unfold decodeN
      rw [if_neg (by omega), if_pos (by omega), if_pos (by omega)]
      exact Prod.ext (by simp only; omega) rfl
    · unfold cp cont
      simp only [List.cons_append]
      rw [List.takeWhile_cons, if_neg (by simp only [decide_eq_true_eq]; omega)]
  by_cases h3 : u ≤ 65535
  · have e : encodeRune u = [(224 + u / 4096).toNat.toUInt8, (128 + u / 64 % 64).toNat.toUInt8, (128 + u % 64).toNat.toUInt8] := by unfold encodeRune; rw [encodeRuneZ_three (by omega)]; rfl
    have n0 := byteN (224 + u / 4096) (by omega) (by omega)
    have n1 := byteN (128 + u / 64 % 64) (by omega) (by omega)
    have n2 := byteN (128 + u % 64) (by omega) (by omega)
    rw [e]
    refine ⟨?_, ?_, by simp, by simp, by simp⟩
    · rw [decodeL_N]
      simp only [List.cons_append, List.nil_append, List.getD_cons_zero, List.getD_cons_succ, n0, n1, n2, List.length_cons, List.length_nil]
      unfold decodeN
      rw [if_neg (by omega), if_neg (by omega), if_pos (by omega), if_pos (by omega)]
      exact Prod.ext (by simp only; omega) rfl
    · unfold cp cont
      simp only [List.cons_append]
      rw [List.takeWhile_cons, if_neg (by simp only [decide_eq_true_eq]; omega)]
  · have e : encodeRune u = [(240 + u / 262144).toNat.toUInt8, (128 + u / 4096 % 64).toNat.toUInt8, (128 + u / 64 % 64).toNat.toUInt8, (128 + u % 64).toNat.toUInt8] := by unfold encodeRune; rw [encodeRuneZ_four (by omega) (by omega)]; rfl
    have n0 := byteN (240 + u / 262144) (by omega) (by omega)
    have n1 := byteN (128 + u / 4096 % 64) (by omega) (by omega)
    have n2 := byteN (128 + u / 64 % 64) (by omega) (by omega)
    have n3 := byteN (128 + u % 64) (by omega) (by omega)
    rw [e]
    refine ⟨?_, ?_, by simp, by simp, by omega⟩
    · rw [decodeL_N]
      simp only [List.cons_append, List.nil_append, List.getD_cons_zero, List.getD_cons_succ, n0, n1, n2, n3, List.length_cons, List.length_nil]
      unfold decodeN
      rw [if_neg (by omega), if_neg (by omega), if_neg (by omega), if_pos (by omega), if_pos (by omega)]
      exact Prod.ext (by simp only; omega) rfl
    · unfold cp cont
      simp only [List.cons_append]
      rw [List.takeWhile_cons, if_neg (by simp only [decide_eq_true_eq]; omega)]
theorem enc1_char (u : Int) (hu : ChU u) : enc1 u = encodeRune u := by
  unfold enc1; rw [if_neg (by unfold ChU at hu; omega)]
theorem enc1_bad (u : Int) (hu : BdU u) : enc1 u = [(u - 1114112).toNat.toUInt8] ∧ ((u - 1114112).toNat.toUInt8).toNat = (u - 1114112).toNat := by
  unfold BdU at hu
  unfold enc1
  exact ⟨if_pos (by omega), byteN _ (by omega) (by omega)⟩
theorem usL_char (u : Int) (hu : ChU u) (t : List UInt8) : usL (enc1 u ++ t) = u :: usL t := by
  obtain ⟨h1, h2, h3, h4, h5⟩ := decodeL_enc u hu t
  rw [enc1_char u hu, usL_step _ (by intro h; have := congrArg List.length h; rw [List.length_append, List.length_nil] at this; omega), h1]
  have hd : hdU (encodeRune u ++ t) = u := by
    unfold hdU
    rw [h1, if_neg]
    · unfold ChU at hu; simp only; omega
    · intro h
      have a := congrArg Prod.fst h
      have b := congrArg Prod.snd h
      simp only at a b
      have := h5 (by unfold ChU at hu; omega)
      omega
  rw [hd, List.drop_left]
theorem usL_bad (u : Int) (hu : BdU u) (t : List UInt8) (h : decodeL ((u - 1114112).toNat.toUInt8 :: t) = (65533, 1)) : usL (enc1 u ++ t) = u :: usL t := by
  obtain ⟨e, n⟩ := enc1_bad u hu
  rw [e]
  simp only [List.cons_append, List.nil_append]
  rw [usL_step _ (by simp), h]
  have hd : hdU ((u - 1114112).toNat.toUInt8 :: t) = u := by
    unfold hdU
    rw [if_pos h]
    simp only [List.getD_cons_zero, n]
    unfold BdU at hu
    omega
  rw [hd]
  rfl
/-- one list's units for another's: characters for characters, the same bad bytes -/
inductive Cmp : List Int → List Int → Prop
  | nil : Cmp [] []
  | char {u v : Int} {us vs : List Int} (hu : ChU u) (hv : ChU v) (h : Cmp us vs) : Cmp (u :: us) (v :: vs)
  | bad {u : Int} {us vs : List Int} (hu : BdU u) (h : Cmp us vs) : Cmp (u :: us) (u :: vs)
theorem cp_txt {us vs : List Int} (h : Cmp us vs) : cp (txt us) = cp (txt vs) := by
  induction h with
  | nil => rfl
  | char hu hv _ _ =>
    rw [txt, txt, enc1_char _ hu, enc1_char _ hv, (decodeL_enc _ hu _).2.1, (decodeL_enc _ hv _).2.1]
  | @bad u us vs hu _ ih =>
    rw [txt, txt, (enc1_bad _ hu).1]
    simp only [List.cons_append, List.nil_append]
    unfold cp at ih ⊢
    rw [List.takeWhile_cons, List.takeWhile_cons, ih]
theorem usL_txt {us vs : List Int} (h : Cmp us vs) (hus : usL (txt us) = us) : usL (txt vs) = vs := by
  induction h with
  | nil => rfl
  | @char u v us vs hu hv _ ih =>
    rw [txt, usL_char _ hu] at hus
    rw [txt, usL_char _ hv, ih (List.tail_eq_of_cons_eq hus)]
  | @bad u us vs hu h ih =>
    obtain ⟨e, n⟩ := enc1_bad u hu
    have hd : decodeL ((u - 1114112).toNat.toUInt8 :: txt us) = (65533, 1) := by
      rw [txt, e] at hus
      simp only [List.cons_append, List.nil_append] at hus
      rw [usL_step _ (by simp)] at hus
      have h1 := List.head_eq_of_cons_eq hus
      rcases Decidable.em (decodeL ((u - 1114112).toNat.toUInt8 :: txt us) = (65533, 1)) with hb | hb
      · exact hb
      · unfold hdU at h1
        rw [if_neg hb] at h1
        have := decodeL_rune ((u - 1114112).toNat.toUInt8 :: txt us)
        unfold BdU at hu
        omega
    rw [txt, usL_bad u hu _ hd] at hus
    rw [txt, usL_bad u hu _ (by rw [← decodeL_cp _ _ _ (cp_txt h)]; exact hd), ih (List.tail_eq_of_cons_eq hus)]
theorem usL_mem (l : List UInt8) : ∀ u ∈ usL l, ChU u ∨ BdU u := by
  suffices h : ∀ n (l : List UInt8), l.length ≤ n → ∀ u ∈ usL l, ChU u ∨ BdU u from h _ l (Nat.le_refl _)
  intro n
  induction n with
  | zero => intro l h u hu; have : l = [] := List.eq_nil_of_length_eq_zero (by omega); subst this; simp [usL_nil] at hu
  | succ n ih =>
    intro l h u hu
    by_cases hne : l = []
    · subst hne; simp [usL_nil] at hu
    · have hw := decodeL_width l
      have hl : 0 < l.length := List.length_pos_iff.2 hne
      rw [usL_step l hne] at hu
      rcases List.mem_cons.mp hu with rfl | hu
      · rcases hd_cases l hne with h | h
        · exact .inl h.1
        · exact .inr h.1
      · exact ih _ (by rw [List.length_drop]; omega) u hu
/-- a function of characters to characters that leaves bad bytes alone -/
theorem cmp_map (f : Int → Int) : ∀ (us : List Int), (∀ u ∈ us, ChU u ∨ BdU u) → (∀ u, ChU u → ChU (f u)) → (∀ u, BdU u → f u = u) → Cmp us (us.map f)
  | [], _, _, _ => .nil
  | u :: us, h, hc, hb => by
    have ih := cmp_map f us (fun x hx => h x (List.mem_cons_of_mem _ hx)) hc hb
    rcases h u List.mem_cons_self with h1 | h1
    · exact .char h1 (hc u h1) ih
    · rw [List.map_cons, hb u h1]
      exact .bad h1 ih
theorem usL_map (f : Int → Int) (hc : ∀ u, ChU u → ChU (f u)) (hb : ∀ u, BdU u → f u = u) (l : List UInt8) : usL (txt ((usL l).map f)) = (usL l).map f :=
  usL_txt (cmp_map f _ (usL_mem l) hc hb) (by rw [txt_usL])
end Go.Proofs.YtmokclfiifmhpaaDoor.XLib
