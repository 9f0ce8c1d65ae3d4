/- thistleref02.Make in plain Lean: it answers the one sound set of the units that lie in one of the ranges. -/
import Derived.Test.YtmokclfiifmhpaaDoorXSPMerged
import Derived.Test.YtmokclfiifmhpaaDoorXSPSets
import Derived.Test.YtmokclfiifmhpaaDoorXS8
namespace Go.Proofs.YtmokclfiifmhpaaDoor.XS
open Go.RowKit Go.Proofs.YtmokclfiifmhpaaDoorW.PrintWords Go.Proofs.YtmokclfiifmhpaaDoorW.PrintLast XSets XM
set_option linter.unusedVariables false
set_option linter.unusedSimpArgs false
namespace XM
abbrev Rg := S31
abbrev Pc := S47
def pr (x : Rg) : R := (x.f0, x.f1)
def prs (l : List Rg) : List R := l.map pr
def pp (x : Pc) : R := (x.f0, x.f1)
def w32 (x : Int) : Prop := -2147483648 ≤ x ∧ x ≤ 2147483647
def wR (x : Rg) : Prop := w32 x.f0 ∧ w32 x.f1
theorem mem_prs (l : List Rg) (u : Int) : mem (prs l) u ↔ ∃ x ∈ l, x.f0 ≤ u ∧ u ≤ x.f1 := by
  unfold mem prs
  constructor
  · rintro ⟨p, hp, h⟩
    obtain ⟨x, hx, rfl⟩ := List.mem_map.1 hp
    exact ⟨x, hx, h⟩
  · rintro ⟨x, hx, h⟩
    exact ⟨pr x, List.mem_map.2 ⟨x, hx, rfl⟩, h⟩
theorem prs_inj {a b : List Rg} (h : prs a = prs b) : a = b := by
  have e : ∀ l : List Rg, (prs l).map (fun p => (⟨p.1, p.2⟩ : Rg)) = l := fun l => by
    unfold prs
    rw [List.map_map]
    exact List.map_id' l
  rw [← e a, h, e b]
def bandI (u : Int) : Int := if 0 ≤ u ∧ u ≤ 55295 then 0 else if 57344 ≤ u ∧ u ≤ 1114111 then 1 else if 1114240 ≤ u ∧ u ≤ 1114367 then 2 else -1
theorem band_isU (u : Int) : 0 ≤ bandI u ↔ isU u := by
  unfold bandI isU
  repeat' split
  all_goals omega
theorem block_ev (u : Int) (h : w32 u) : Ev (fun k => thistleref02_block.f k u) (bandI u) := by
  have hw : wrap64 u = u := by unfold w32 at h; exact w64i u (by omega) (by omega)
  refine ⟨5, fun k hk => ?_⟩
  obtain ⟨k, rfl⟩ : ∃ m, k = m + 5 := ⟨k - 5, by omega⟩
  show thistleref02_block.l0 (k + 5) u [(⟨0, 55295⟩ : Pc), ⟨57344, 1114111⟩, ⟨1114240, 1114367⟩] 0 = _
  have r0 : rd_T47 [(⟨0, 55295⟩ : Pc), ⟨57344, 1114111⟩, ⟨1114240, 1114367⟩] 0 = ⟨0, 55295⟩ := rfl
  have r1 : rd_T47 [(⟨0, 55295⟩ : Pc), ⟨57344, 1114111⟩, ⟨1114240, 1114367⟩] 1 = ⟨57344, 1114111⟩ := rfl
  have r2 : rd_T47 [(⟨0, 55295⟩ : Pc), ⟨57344, 1114111⟩, ⟨1114240, 1114367⟩] 2 = ⟨1114240, 1114367⟩ := rfl
  have e1 : wrap64 (0 + 1) = 1 := by unfold wrap64; omega
  have e2 : wrap64 (1 + 1) = 2 := by unfold wrap64; omega
  have e3 : wrap64 (2 + 1) = 3 := by unfold wrap64; omega
  unfold bandI
  by_cases h0 : 0 ≤ u ∧ u ≤ 55295
  · rw [if_pos h0, thistleref02_block.l0, if_pos (by simp), if_pos (by omega), hw, r0]
    simp only
    rw [if_pos h0.1, if_pos h0.2]
  · have s0 : thistleref02_block.l0 (k + 5) u [(⟨0, 55295⟩ : Pc), ⟨57344, 1114111⟩, ⟨1114240, 1114367⟩] 0 = thistleref02_block.l0 (k + 4) u [(⟨0, 55295⟩ : Pc), ⟨57344, 1114111⟩, ⟨1114240, 1114367⟩] 1 := by
      rw [thistleref02_block.l0, if_pos (by simp), if_pos (by omega), hw, r0, e1]
      simp only
      by_cases ha : u ≥ 0
      · rw [if_pos ha, if_neg (by omega)]
      · rw [if_neg ha]
    rw [if_neg h0, s0]
    by_cases h1 : 57344 ≤ u ∧ u ≤ 1114111
    · rw [if_pos h1, thistleref02_block.l0, if_pos (by simp), if_pos (by omega), hw, r1]
      simp only
      rw [if_pos h1.1, if_pos h1.2]
    · have s1 : thistleref02_block.l0 (k + 4) u [(⟨0, 55295⟩ : Pc), ⟨57344, 1114111⟩, ⟨1114240, 1114367⟩] 1 = thistleref02_block.l0 (k + 3) u [(⟨0, 55295⟩ : Pc), ⟨57344, 1114111⟩, ⟨1114240, 1114367⟩] 2 := by
        rw [thistleref02_block.l0, if_pos (by simp), if_pos (by omega), hw, r1, e2]
        simp only
        by_cases ha : u ≥ 57344
        · rw [if_pos ha, if_neg (by omega)]
        · rw [if_neg ha]
      rw [if_neg h1, s1]
      by_cases h2 : 1114240 ≤ u ∧ u ≤ 1114367
      · rw [if_pos h2, thistleref02_block.l0, if_pos (by simp), if_pos (by omega), hw, r2]
        simp only
        rw [if_pos h2.1, if_pos h2.2]
      · have s2 : thistleref02_block.l0 (k + 3) u [(⟨0, 55295⟩ : Pc), ⟨57344, 1114111⟩, ⟨1114240, 1114367⟩] 2 = thistleref02_block.l0 (k + 2) u [(⟨0, 55295⟩ : Pc), ⟨57344, 1114111⟩, ⟨1114240, 1114367⟩] 3 := by
          rw [thistleref02_block.l0, if_pos (by simp), if_pos (by omega), hw, r2, e3]
          simp only
          by_cases ha : u ≥ 1114240
          · rw [if_pos ha, if_neg (by omega)]
          · rw [if_neg ha]
        rw [if_neg h2, s2, thistleref02_block.l0, if_neg (by simp)]
/-- the cuts of some lists -/
def cutsOf (l : List Rg) : List Int := l.flatMap fun x => [x.f0, x.f1 + 1]
def base : List Int := [0, 55296, 57344, 1114112, 1114240, 1114368]
theorem rdT_get (l : List Rg) (j : Nat) (h : j < l.length) : rd_T31 l (j : Int) = l[j] := by
  unfold rd_T31
  rw [Int.toNat_natCast, List.getD_eq_getElem?_getD, List.getElem?_eq_getElem h]
  rfl
theorem rdP_get (l : List Pc) (j : Nat) (h : j < l.length) : rd_T47 l (j : Int) = l[j] := by
  unfold rd_T47
  rw [Int.toNat_natCast, List.getD_eq_getElem?_getD, List.getElem?_eq_getElem h]
  rfl
theorem rdL_get (l : List (List Rg)) (j : Nat) (h : j < l.length) : rd_L6 l (j : Int) = l[j] := by
  unfold rd_L6
  rw [Int.toNat_natCast, List.getD_eq_getElem?_getD, List.getElem?_eq_getElem h]
  rfl
theorem cuts_len (l : List Rg) : (cutsOf l).length = 2 * l.length := by
  induction l with
  | nil => rfl
  | cons x l ih => unfold cutsOf at *; rw [List.flatMap_cons, List.length_append, ih]; simp; omega
theorem pl2_ev (L : List (List Rg)) (i : Nat) (hi : i < L.length) (hw : ∀ x ∈ L[i], wR x) (hl : L[i].length ≤ 100000000) (r : List Pc) : ∀ (n j : Nat) (acc : List Int), j + n = L[i].length → acc.length + 2 * n ≤ 1000000000 →
    Ev (fun k => thistleref02_pieces.l1 k L (acc ++ cutsOf (L[i].drop j)) (wrap64 ((i : Int) + 1))) r → Ev (fun k => thistleref02_pieces.l2 k L acc (i : Int) (j : Int)) r
  | 0, j, acc, hj, hb, h => by
    rw [List.drop_of_length_le (by omega), show cutsOf [] = [] from rfl, List.append_nil] at h
    refine Ev.step (fun k => ?_) h
    rw [thistleref02_pieces.l2, if_pos (by omega), if_pos (by omega), rdL_get L i hi, if_neg (by omega)]
  | n + 1, j, acc, hj, hb, h => by
    have hlt : j < L[i].length := by omega
    have hwx := hw _ (List.getElem_mem hlt)
    unfold wR w32 at hwx
    rw [List.drop_eq_getElem_cons hlt, show cutsOf (L[i][j] :: L[i].drop (j + 1)) = [L[i][j].f0, L[i][j].f1 + 1] ++ cutsOf (L[i].drop (j + 1)) from rfl] at h
    have ih := pl2_ev L i hi hw hl r n (j + 1) (acc ++ [L[i][j].f0, L[i][j].f1 + 1]) (by omega) (by rw [List.length_append]; simp; omega) (by rw [List.append_assoc]; exact h)
    refine Ev.step (fun k => ?_) ih
    rw [thistleref02_pieces.l2, if_pos (by omega), if_pos (by omega), rdL_get L i hi, if_pos (by omega), if_pos (by omega), if_pos (by omega), Option.bind_some, if_pos (by rw [List.length_append]; simp; omega), rdT_get _ j hlt, w64i L[i][j].f0 (by omega) (by omega), w64i L[i][j].f1 (by omega) (by omega), w64i (L[i][j].f1 + 1) (by omega) (by omega), w64i ((j : Int) + 1) (by omega) (by omega), List.append_assoc]
    rfl
theorem pl1_ev (L : List (List Rg)) (hL : L.length ≤ 1000000) (hw : ∀ l ∈ L, (∀ x ∈ l, wR x) ∧ l.length ≤ 100000000) (r : List Pc) (C : List Int) : ∀ (n i : Nat) (acc : List Int), i + n = L.length → acc.length + ((L.drop i).flatMap cutsOf).length ≤ 200000000 → C = acc ++ (L.drop i).flatMap cutsOf →
    Ev (fun k => (thistleref02_sorted.f k C).bind fun t => thistleref02_pieces.l3 k t [] 0) r → Ev (fun k => thistleref02_pieces.l1 k L acc (i : Int)) r
  | 0, i, acc, hi, hb, hC, h => by
    rw [List.drop_of_length_le (by omega), List.flatMap_nil, List.append_nil] at hC
    subst hC
    refine Ev.step (fun k => ?_) h
    rw [thistleref02_pieces.l1, if_neg (by omega)]
  | n + 1, i, acc, hi, hb, hC, h => by
    have hlt : i < L.length := by omega
    obtain ⟨h1, h2⟩ := hw _ (List.getElem_mem hlt)
    rw [List.drop_eq_getElem_cons hlt, List.flatMap_cons] at hC hb
    rw [List.length_append, cuts_len] at hb
    have ih := pl1_ev L hL hw r C n (i + 1) (acc ++ cutsOf L[i]) (by omega) (by rw [List.length_append, cuts_len]; omega) (by rw [hC, List.append_assoc]) h
    have h3 := pl2_ev L i hlt h1 h2 r L[i].length 0 acc (by omega) (by omega) (by
      rw [List.drop_zero, w64i _ (by omega) (by omega)]
      exact ih)
    refine Ev.step (fun k => ?_) h3
    rw [thistleref02_pieces.l1, if_pos (by omega)]
    rfl
/-- the pieces between cuts -/
def pcs : List Int → List Pc
  | a :: b :: r => (if 0 ≤ bandI a then [(⟨a, b - 1⟩ : Pc)] else []) ++ pcs (b :: r)
  | _ => []
theorem pcs_len : ∀ C : List Int, (pcs C).length ≤ C.length
  | [] => by simp [pcs]
  | [_] => by simp [pcs]
  | a :: b :: r => by
    rw [pcs, List.length_append]
    have := pcs_len (b :: r)
    split <;> simp at * <;> omega
theorem pl3_ev (C : List Int) (hC : C.length ≤ 200000000) (hw : ∀ x ∈ C, -2147483648 ≤ x ∧ x ≤ 2147483648) : ∀ (n i : Nat) (acc : List Pc), i + n = C.length → acc.length ≤ i →
    Ev (fun k => thistleref02_pieces.l3 k C acc (i : Int)) (acc ++ pcs (C.drop i))
  | 0, i, acc, hi, hb => by
    rw [List.drop_of_length_le (by omega), pcs, List.append_nil]
    · refine Ev.step (f := fun _ => some acc) (fun k => ?_) (Ev.now acc)
      rw [thistleref02_pieces.l3, w64i _ (by omega) (by omega), if_neg (by omega)]
    · simp
  | 1, i, acc, hi, hb => by
    rw [List.drop_eq_getElem_cons (by omega), List.drop_of_length_le (by omega), pcs, List.append_nil]
    · refine Ev.step (f := fun _ => some acc) (fun k => ?_) (Ev.now acc)
      rw [thistleref02_pieces.l3, w64i _ (by omega) (by omega), if_neg (by omega)]
    · simp
  | n + 2, i, acc, hi, hb => by
    have h1 : i < C.length := by omega
    have h2 : i + 1 < C.length := by omega
    have b1 := hw _ (List.getElem_mem h1)
    have b2 := hw _ (List.getElem_mem h2)
    have g1 := rd_get C i h1
    have g2 := rd_get C (i + 1) h2
    have e1 : wrap64 ((i : Int) + 1) = ((i + 1 : Nat) : Int) := by rw [w64i _ (by omega) (by omega)]; rfl
    rw [List.drop_eq_getElem_cons h1, List.drop_eq_getElem_cons h2, pcs, ← List.drop_eq_getElem_cons h2, ← List.append_assoc]
    by_cases hb0 : 0 ≤ bandI C[i]
    · have hu := (band_isU _).1 hb0
      unfold isU at hu
      rw [if_pos hb0]
      have ih := pl3_ev C hC hw (n + 1) (i + 1) (acc ++ [⟨C[i], C[i + 1] - 1⟩]) (by omega) (by rw [List.length_append]; simp; omega)
      have hbl : Ev (fun k => thistleref02_block.f k C[i]) (bandI C[i]) := block_ev _ (by unfold w32; omega)
      refine Ev.step (f := fun k => (thistleref02_block.f k C[i]).bind fun t190 => (if t190 ≥ 0 then thistleref02_pieces.l3 k C (acc ++ [⟨C[i], C[i + 1] - 1⟩]) ((i + 1 : Nat) : Int) else thistleref02_pieces.l3 k C acc ((i + 1 : Nat) : Int))) (fun k => ?_) (Ev.bind hbl ?_)
      · have e3 : wrap32 C[i] = C[i] := by unfold wrap32; omega
        rw [thistleref02_pieces.l3, e1, if_pos (by omega), if_pos (by omega), if_pos (by omega), g1, g2, if_pos (by omega), if_pos (by omega), e3, if_pos (by omega), if_pos (by omega), w64i (C[i + 1] - 1) (by omega) (by omega)]
      · exact Ev.congr (fun k => if_pos hb0) ih
    · rw [if_neg hb0, List.append_nil]
      have ih := pl3_ev C hC hw (n + 1) (i + 1) acc (by omega) (by omega)
      by_cases hz : C[i] ≥ 0 ∧ C[i] ≤ 1114367
      · have hbl : Ev (fun k => thistleref02_block.f k C[i]) (bandI C[i]) := block_ev _ (by unfold w32; omega)
        refine Ev.step (f := fun k => (thistleref02_block.f k C[i]).bind fun t190 => (if t190 ≥ 0 then thistleref02_pieces.l3 k C (acc ++ [⟨C[i], C[i + 1] - 1⟩]) ((i + 1 : Nat) : Int) else thistleref02_pieces.l3 k C acc ((i + 1 : Nat) : Int))) (fun k => ?_) (Ev.bind hbl ?_)
        · have e3 : wrap32 C[i] = C[i] := by unfold wrap32; omega
          rw [thistleref02_pieces.l3, e1, if_pos (by omega), if_pos (by omega), if_pos (by omega), g1, g2, if_pos hz.1, if_pos hz.2, e3, if_pos (by omega), if_pos (by omega), w64i (C[i + 1] - 1) (by omega) (by omega)]
        · exact Ev.congr (fun k => if_neg hb0) ih
      · refine Ev.step (fun k => ?_) ih
        rw [thistleref02_pieces.l3, e1, if_pos (by omega), if_pos (by omega), if_pos (by omega), g1]
        by_cases hz1 : C[i] ≥ 0
        · rw [if_pos hz1, if_neg (by omega)]
        · rw [if_neg hz1]
theorem pieces_ev (L : List (List Rg)) (hL : L.length ≤ 1000000) (hw : ∀ l ∈ L, (∀ x ∈ l, wR x) ∧ l.length ≤ 100000000) (hb : (L.flatMap cutsOf).length ≤ 100000000) :
    ∃ C : List Int, C.Pairwise (· < ·) ∧ (∀ x, x ∈ C ↔ x ∈ base ∨ x ∈ L.flatMap cutsOf) ∧ C.length ≤ (L.flatMap cutsOf).length + 6 ∧ Ev (fun k => thistleref02_pieces.f k L) (pcs C) := by
  obtain ⟨C, h1, h2, h3, h4⟩ := sorted_ev (base ++ L.flatMap cutsOf) (by rw [List.length_append, show base.length = 6 from rfl]; omega)
  rw [List.length_append, show base.length = 6 from rfl] at h4
  have hw2 : ∀ x ∈ C, -2147483648 ≤ x ∧ x ≤ 2147483648 := by
    intro x hx
    rcases List.mem_append.1 ((h3 x).1 hx) with h | h
    · simp only [base, List.mem_cons, List.not_mem_nil, or_false] at h
      omega
    · obtain ⟨l, hl, h⟩ := List.mem_flatMap.1 h
      obtain ⟨y, hy, h⟩ := List.mem_flatMap.1 h
      have := (hw l hl).1 y hy
      unfold wR w32 at this
      simp only [List.mem_cons, List.not_mem_nil, or_false] at h
      omega
  refine ⟨C, h2, fun x => (h3 x).trans List.mem_append, by omega, ?_⟩
  have h5 := pl3_ev C (by omega) hw2 C.length 0 [] (by omega) (by simp)
  rw [List.nil_append, List.drop_zero] at h5
  have h6 := pl1_ev L hL hw (pcs C) (base ++ L.flatMap cutsOf) L.length 0 base (by omega) (by rw [List.drop_zero, show base.length = 6 from rfl]; omega) (by rw [List.drop_zero]) (Ev.bind h1 h5)
  have hgo : ∀ k, thistleref02_pieces.f (k + 4) L = thistleref02_pieces.l1 k L base ((0 : Nat) : Int) := by
    intro k
    have r0 : rd_T47 [(⟨0, 55295⟩ : Pc), ⟨57344, 1114111⟩, ⟨1114240, 1114367⟩] 0 = ⟨0, 55295⟩ := rfl
    have r1 : rd_T47 [(⟨0, 55295⟩ : Pc), ⟨57344, 1114111⟩, ⟨1114240, 1114367⟩] 1 = ⟨57344, 1114111⟩ := rfl
    have r2 : rd_T47 [(⟨0, 55295⟩ : Pc), ⟨57344, 1114111⟩, ⟨1114240, 1114367⟩] 2 = ⟨1114240, 1114367⟩ := rfl
    have e1 : wrap64 (0 + 1) = 1 := by unfold wrap64; omega
    have e2 : wrap64 (1 + 1) = 2 := by unfold wrap64; omega
    have e3 : wrap64 (2 + 1) = 3 := by unfold wrap64; omega
    have f1 : wrap64 (55295 + 1) = 55296 := by unfold wrap64; omega
    have f2 : wrap64 (1114111 + 1) = 1114112 := by unfold wrap64; omega
    have f3 : wrap64 (1114367 + 1) = 1114368 := by unfold wrap64; omega
    show thistleref02_pieces.l0 (k + 4) L [] [(⟨0, 55295⟩ : Pc), ⟨57344, 1114111⟩, ⟨1114240, 1114367⟩] 0 = _
    rw [thistleref02_pieces.l0, if_pos (by simp), if_pos (by omega), if_pos (by simp), Option.bind_some, if_pos (by simp), r0, e1, f1]
    rw [thistleref02_pieces.l0, if_pos (by simp), if_pos (by omega), if_pos (by simp), Option.bind_some, if_pos (by simp), r1, e2, f2]
    rw [thistleref02_pieces.l0, if_pos (by simp), if_pos (by omega), if_pos (by simp), Option.bind_some, if_pos (by simp), r2, e3, f3]
    rw [thistleref02_pieces.l0, if_neg (by simp)]
    rfl
  obtain ⟨K, hK⟩ := h6
  refine ⟨K + 4, fun k hk => ?_⟩
  obtain ⟨k, rfl⟩ : ∃ m, k = m + 4 := ⟨k - 4, by omega⟩
  show thistleref02_pieces.f (k + 4) L = _
  rw [hgo k]
  exact hK k (by omega)
/-! what pieces are -/
theorem pcs_mem : ∀ (C : List Int) (p : Pc), p ∈ pcs C → ∃ a b, a ∈ C ∧ b ∈ C ∧ p = ⟨a, b - 1⟩ ∧ 0 ≤ bandI a ∧ (C.Pairwise (· < ·) → a < b ∧ ∀ c ∈ C, c ≤ a ∨ b ≤ c)
  | [], p, h => by simp [pcs] at h
  | [_], p, h => by simp [pcs] at h
  | a :: b :: r, p, h => by
    rw [pcs] at h
    rcases List.mem_append.1 h with h | h
    · split at h
      · next hb =>
        rw [List.mem_singleton] at h
        refine ⟨a, b, List.mem_cons_self, List.mem_cons_of_mem _ List.mem_cons_self, h, hb, fun hs => ?_⟩
        have h1 := (List.pairwise_cons.1 hs).1
        have h2 := (List.pairwise_cons.1 (List.pairwise_cons.1 hs).2).1
        refine ⟨h1 b List.mem_cons_self, fun c hc => ?_⟩
        rcases List.mem_cons.1 hc with rfl | hc
        · exact .inl (Int.le_refl _)
        · rcases List.mem_cons.1 hc with rfl | hc
          · exact .inr (Int.le_refl _)
          · exact .inr (Int.le_of_lt (h2 c hc))
      · cases h
    · obtain ⟨a', b', h1, h2, h3, h4, h5⟩ := pcs_mem (b :: r) p h
      refine ⟨a', b', List.mem_cons_of_mem _ h1, List.mem_cons_of_mem _ h2, h3, h4, fun hs => ?_⟩
      obtain ⟨h6, h7⟩ := h5 (List.pairwise_cons.1 hs).2
      refine ⟨h6, fun c hc => ?_⟩
      rcases List.mem_cons.1 hc with rfl | hc
      · exact .inl (Int.le_of_lt ((List.pairwise_cons.1 hs).1 a' h1))
      · exact h7 c hc
theorem pcs_rise : ∀ (C : List Int), C.Pairwise (· < ·) → (pcs C).Pairwise (fun p q => p.f1 < q.f0)
  | [], _ => by simp [pcs]
  | [_], _ => by simp [pcs]
  | a :: b :: r, h => by
    rw [pcs]
    have h1 := (List.pairwise_cons.1 h).2
    refine List.pairwise_append.2 ⟨by split <;> simp, pcs_rise (b :: r) h1, fun p hp q hq => ?_⟩
    obtain ⟨a', b', g1, g2, rfl, _⟩ := pcs_mem (b :: r) q hq
    split at hp
    · rw [List.mem_singleton] at hp
      subst hp
      show b - 1 < a'
      rcases List.mem_cons.1 g1 with rfl | g1
      · omega
      · have := (List.pairwise_cons.1 h1).1 a' g1; omega
    · cases hp
theorem pcs_cover : ∀ (C : List Int) (u : Int), C.Pairwise (· < ·) → (∃ a ∈ C, a ≤ u) → (∃ b ∈ C, u < b) → (∀ a ∈ C, a ≤ u → (∀ c ∈ C, c ≤ a ∨ u < c) → 0 ≤ bandI a) → ∃ p ∈ pcs C, p.f0 ≤ u ∧ u ≤ p.f1
  | [], u, _, ⟨a, ha, _⟩, _, _ => by cases ha
  | [x], u, _, ⟨a, ha, h1⟩, ⟨b, hb, h2⟩, _ => by
    rw [List.mem_singleton] at ha hb
    subst ha; subst hb; omega
  | x :: y :: r, u, hs, ha, hb, hk => by
    have h1 := (List.pairwise_cons.1 hs).1
    have h2 := (List.pairwise_cons.1 hs).2
    by_cases hy : y ≤ u
    · obtain ⟨p, hp, h⟩ := pcs_cover (y :: r) u h2 ⟨y, List.mem_cons_self, hy⟩ (by
        obtain ⟨b, hb, h⟩ := hb
        rcases List.mem_cons.1 hb with rfl | hb
        · have := h1 y List.mem_cons_self; omega
        · exact ⟨b, hb, h⟩) (fun a ha2 h3 h4 => hk a (List.mem_cons_of_mem _ ha2) h3 (fun c hc => by
          rcases List.mem_cons.1 hc with he | hc
          · subst he; exact .inl (Int.le_of_lt (h1 a ha2))
          · exact h4 c hc))
      refine ⟨p, ?_, h⟩
      rw [pcs]
      exact List.mem_append_right _ hp
    · have hx : x ≤ u := by
        obtain ⟨a, ha, h⟩ := ha
        rcases List.mem_cons.1 ha with rfl | ha
        · exact h
        · have := h1 a ha; omega
      have hb0 := hk x List.mem_cons_self hx (fun c hc => by
        rcases List.mem_cons.1 hc with rfl | hc
        · exact .inl (Int.le_refl _)
        · rcases List.mem_cons.1 hc with rfl | hc
          · exact .inr (by omega)
          · have := (List.pairwise_cons.1 h2).1 c hc; exact .inr (by omega))
      refine ⟨⟨x, y - 1⟩, ?_, hx, by show u ≤ y - 1; omega⟩
      rw [pcs, if_pos hb0]
      exact List.mem_append_left _ (List.mem_singleton.2 rfl)
/-- cuts that hold the base's: each piece lies in one band, and pieces cover the units -/
structure Cuts (C : List Int) : Prop where
  rise : C.Pairwise (· < ·)
  base : ∀ x ∈ base, x ∈ C
theorem Cuts.okR {C : List Int} (h : Cuts C) (p : Pc) (hp : p ∈ pcs C) : okR (pp p) := by
  obtain ⟨a, b, ha, hb, rfl, hk, hg⟩ := pcs_mem C p hp
  obtain ⟨h1, h2⟩ := hg h.rise
  have hu := (band_isU a).1 hk
  have g1 := h2 55296 (h.base _ (by simp [XM.base]))
  have g2 := h2 1114112 (h.base _ (by simp [XM.base]))
  have g3 := h2 1114368 (h.base _ (by simp [XM.base]))
  unfold isU at hu
  unfold XSets.okR pp
  simp only
  omega
theorem Cuts.cover {C : List Int} (h : Cuts C) (u : Int) (hu : isU u) : ∃ p ∈ pcs C, p.f0 ≤ u ∧ u ≤ p.f1 := by
  have b0 := h.base 0 (by simp [XM.base])
  have b1 := h.base 55296 (by simp [XM.base])
  have b2 := h.base 57344 (by simp [XM.base])
  have b3 := h.base 1114112 (by simp [XM.base])
  have b4 := h.base 1114240 (by simp [XM.base])
  have b5 := h.base 1114368 (by simp [XM.base])
  unfold isU at hu
  refine pcs_cover C u h.rise ⟨0, b0, by omega⟩ ⟨1114368, b5, by omega⟩ (fun a ha h1 h2 => (band_isU a).2 ?_)
  have c1 := h2 _ b0
  have c2 := h2 _ b1
  have c3 := h2 _ b2
  have c4 := h2 _ b3
  have c5 := h2 _ b4
  unfold isU
  omega
/-- a cut does not fall into a piece -/
theorem Cuts.same {C : List Int} (h : Cuts C) (p : Pc) (hp : p ∈ pcs C) (u : Int) (h0 : p.f0 ≤ u) (h1 : u ≤ p.f1) (c : Int) (hc : c ∈ C) : c ≤ u ↔ c ≤ p.f0 := by
  obtain ⟨a, b, ha, hb, rfl, hk, hg⟩ := pcs_mem C p hp
  obtain ⟨h3, h4⟩ := hg h.rise
  have := h4 c hc
  simp only at h0 h1 ⊢
  omega
theorem cuts_mem (l : List Rg) (x : Rg) (hx : x ∈ l) : x.f0 ∈ cutsOf l ∧ x.f1 + 1 ∈ cutsOf l :=
  ⟨List.mem_flatMap.2 ⟨x, hx, by simp⟩, List.mem_flatMap.2 ⟨x, hx, by simp⟩⟩
theorem Cuts.whole {C : List Int} (h : Cuts C) (l : List Rg) (hl : ∀ c ∈ cutsOf l, c ∈ C) (p : Pc) (hp : p ∈ pcs C) (u : Int) (h0 : p.f0 ≤ u) (h1 : u ≤ p.f1) : mem (prs l) u ↔ mem (prs l) p.f0 := by
  rw [mem_prs, mem_prs]
  have key : ∀ x ∈ l, (x.f0 ≤ u ∧ u ≤ x.f1) ↔ (x.f0 ≤ p.f0 ∧ p.f0 ≤ x.f1) := by
    intro x hx
    have c1 := h.same p hp u h0 h1 _ (hl _ (cuts_mem l x hx).1)
    have c2 := h.same p hp u h0 h1 _ (hl _ (cuts_mem l x hx).2)
    omega
  exact ⟨fun ⟨x, hx, h⟩ => ⟨x, hx, (key x hx).1 h⟩, fun ⟨x, hx, h⟩ => ⟨x, hx, (key x hx).2 h⟩⟩
/-! inside: how many numbers of a rising list are at most x -/
theorem cnt_at (P : Int → Bool) : ∀ (s : List Int) (i : Nat), (∀ j (h : j < s.length), j < i → P s[j] = true) → (∀ j (h : j < s.length), i ≤ j → P s[j] = false) → i ≤ s.length → s.countP P = i
  | [], i, _, _, h => by simp at h ⊢; omega
  | x :: s, 0, _, h2, _ => by
    rw [List.countP_eq_zero]
    intro a ha
    obtain ⟨j, hj, rfl⟩ := List.mem_iff_getElem.1 ha
    rw [h2 j hj (Nat.zero_le _)]
    simp
  | x :: s, i + 1, h1, h2, h3 => by
    rw [List.countP_cons, cnt_at P s i (fun j h hj => h1 (j + 1) (by simpa using h) (by omega)) (fun j h hj => h2 (j + 1) (by simpa using h) (by omega)) (by simpa using h3), if_pos (show P x = true from h1 0 (by simp) (by omega))]
def inB (l : List Rg) (p : Pc) : Bool := l.any fun x => decide (x.f0 ≤ p.f0) && decide (p.f0 ≤ x.f1)
theorem inB_mem (l : List Rg) (p : Pc) : inB l p = true ↔ mem (prs l) p.f0 := by
  rw [mem_prs]
  unfold inB
  simp only [List.any_eq_true, Bool.and_eq_true, decide_eq_true_eq]
theorem cnt_split (l : List Rg) (hl : ∀ x ∈ l, x.f0 ≤ x.f1) (p : Pc) : (l.countP fun x => decide (x.f0 ≤ p.f0)) = (l.countP fun x => decide (x.f0 ≤ p.f0) && decide (p.f0 ≤ x.f1)) + (l.countP fun x => decide (x.f1 < p.f0)) := by
  induction l with
  | nil => rfl
  | cons x l ih =>
    have h0 := hl x List.mem_cons_self
    rw [List.countP_cons, List.countP_cons, List.countP_cons, ih (fun y hy => hl y (List.mem_cons_of_mem _ hy))]
    by_cases h1 : x.f0 ≤ p.f0
    · by_cases h2 : p.f0 ≤ x.f1
      · have h3 : ¬ x.f1 < p.f0 := by omega
        simp only [h1, h2, h3, decide_true, decide_false, Bool.and_true, if_true, Bool.false_eq_true, if_false]; omega
      · have h3 : x.f1 < p.f0 := by omega
        simp only [h1, h2, h3, decide_true, decide_false, Bool.and_false, if_true, Bool.false_eq_true, if_false]; omega
    · have h3 : ¬ x.f1 < p.f0 := by omega
      simp only [h1, h3, decide_false, Bool.false_and, Bool.false_eq_true, if_false]; omega
theorem inB_cnt (l : List Rg) (hl : ∀ x ∈ l, x.f0 ≤ x.f1) (p : Pc) : inB l p = decide ((l.countP fun x => decide (x.f1 < p.f0)) < (l.countP fun x => decide (x.f0 ≤ p.f0))) := by
  have h := cnt_split l hl p
  rw [Bool.eq_iff_iff, decide_eq_true_eq]
  have h2 : inB l p = true ↔ 0 < (l.countP fun x => decide (x.f0 ≤ p.f0) && decide (p.f0 ≤ x.f1)) := by
    rw [List.countP_pos_iff]
    unfold inB
    rw [List.any_eq_true]
  rw [h2]
  omega
theorem il2_ev (A B : List Int) (ps : List Pc) (out : List Bool) (y : Int) (k0 : Nat) (hk : k0 < ps.length) (hA : A.length ≤ 1000000000) (hAs : A.Pairwise (· ≤ ·)) (r : List Bool) (n : Nat) :
    ∀ (d i : Nat), A.length - i ≤ d → i ≤ A.length → (∀ j (h : j < A.length), j < i → A[j] ≤ ps[k0].f0) →
    Ev (fun k => thistleref02_inside.j3 k ps A B out ((A.countP fun a => decide (a ≤ ps[k0].f0) : Nat) : Int) y (k0 : Int)) r → Ev (fun k => thistleref02_inside.l2 k ps A B out (i : Int) y (k0 : Int)) r
  | d, i, hd, hi, hlow, h => by
    by_cases hlt : i < A.length
    · by_cases hc : A[i] ≤ ps[k0].f0
      · match d, hd with
        | 0, hd => omega
        | d + 1, hd =>
          have ih := il2_ev A B ps out y k0 hk hA hAs r n d (i + 1) (by omega) (by omega) (fun j hj h2 => by
            rcases Nat.lt_or_ge j i with h3 | h3
            · exact hlow j hj h3
            · have : j = i := by omega
              subst this; exact hc) h
          refine Ev.step (fun k => ?_) ih
          rw [thistleref02_inside.l2, if_pos (by omega), if_pos (by omega), if_pos (by omega), if_pos (by omega), rd_get A i hlt, rdP_get ps k0 hk, if_pos hc, w64i _ (by omega) (by omega)]
          rfl
      · have hcn : (A.countP fun a => decide (a ≤ ps[k0].f0)) = i := cnt_at _ A i (fun j hj h2 => decide_eq_true (hlow j hj h2)) (fun j hj h2 => decide_eq_false (by
          rcases Nat.lt_or_ge i j with h3 | h3
          · have := List.pairwise_iff_getElem.1 hAs i j hlt hj h3; omega
          · have : j = i := by omega
            subst this; exact hc)) hi
        rw [hcn] at h
        refine Ev.step (fun k => ?_) h
        rw [thistleref02_inside.l2, if_pos (by omega), if_pos (by omega), if_pos (by omega), if_pos (by omega), rd_get A i hlt, rdP_get ps k0 hk, if_neg hc]
    · have hcn : (A.countP fun a => decide (a ≤ ps[k0].f0)) = i := cnt_at _ A i (fun j hj h2 => decide_eq_true (hlow j hj h2)) (fun j hj h2 => by omega) hi
      rw [hcn] at h
      refine Ev.step (fun k => ?_) h
      rw [thistleref02_inside.l2, if_neg (by omega)]
theorem il3_ev (A B : List Int) (ps : List Pc) (out : List Bool) (y : Int) (k0 : Nat) (hk : k0 < ps.length) (hko : k0 < out.length) (hps : ps.length ≤ 1000000000) (hB : B.length ≤ 1000000000) (hBs : B.Pairwise (· ≤ ·)) (r : List Bool) :
    ∀ (d i : Nat), B.length - i ≤ d → i ≤ B.length → (∀ j (h : j < B.length), j < i → B[j] < ps[k0].f0) →
    Ev (fun k => thistleref02_inside.l1 k ps A B (out.set k0 (decide (y > ((B.countP fun a => decide (a < ps[k0].f0) : Nat) : Int)))) y ((B.countP fun a => decide (a < ps[k0].f0) : Nat) : Int) ((k0 + 1 : Nat) : Int)) r → Ev (fun k => thistleref02_inside.l3 k ps A B out y (i : Int) (k0 : Int)) r
  | d, i, hd, hi, hlow, h => by
    by_cases hlt : i < B.length
    · by_cases hc : B[i] < ps[k0].f0
      · match d, hd with
        | 0, hd => omega
        | d + 1, hd =>
          have ih := il3_ev A B ps out y k0 hk hko hps hB hBs r d (i + 1) (by omega) (by omega) (fun j hj h2 => by
            rcases Nat.lt_or_ge j i with h3 | h3
            · exact hlow j hj h3
            · have : j = i := by omega
              subst this; exact hc) h
          refine Ev.step (fun k => ?_) ih
          rw [thistleref02_inside.l3, if_pos (by omega), if_pos (by omega), if_pos (by omega), if_pos (by omega), rd_get B i hlt, rdP_get ps k0 hk, if_pos hc, w64i _ (by omega) (by omega)]
          rfl
      · have hcn : (B.countP fun a => decide (a < ps[k0].f0)) = i := cnt_at _ B i (fun j hj h2 => decide_eq_true (hlow j hj h2)) (fun j hj h2 => decide_eq_false (by
          rcases Nat.lt_or_ge i j with h3 | h3
          · have := List.pairwise_iff_getElem.1 hBs i j hlt hj h3; omega
          · have : j = i := by omega
            subst this; exact hc)) hi
        rw [hcn] at h
        refine Ev.step (fun k => ?_) h
        rw [thistleref02_inside.l3, if_pos (by omega), if_pos (by omega), if_pos (by omega), if_pos (by omega), rd_get B i hlt, rdP_get ps k0 hk, if_neg hc, if_pos (by omega), w64i _ (by omega) (by omega), Int.toNat_natCast]
        rfl
    · have hcn : (B.countP fun a => decide (a < ps[k0].f0)) = i := cnt_at _ B i (fun j hj h2 => decide_eq_true (hlow j hj h2)) (fun j hj h2 => by omega) hi
      rw [hcn] at h
      refine Ev.step (fun k => ?_) h
      rw [thistleref02_inside.l3, if_neg (by omega), if_pos (by omega), if_pos (by omega), w64i _ (by omega) (by omega), Int.toNat_natCast]
      rfl
theorem il1_ev (l : List Rg) (hl : ∀ x ∈ l, x.f0 ≤ x.f1) (A B : List Int) (ps : List Pc) (hps : ps.length ≤ 1000000000) (hrise : ps.Pairwise (fun p q => p.f0 ≤ q.f0)) (hA : A.Perm (l.map fun x => x.f0)) (hB : B.Perm (l.map fun x => x.f1)) (hlen : l.length ≤ 1000000000) (hAs : A.Pairwise (· ≤ ·)) (hBs : B.Pairwise (· ≤ ·)) :
    ∀ (n k0 i j : Nat), k0 + n = ps.length → i ≤ A.length → j ≤ B.length → (∀ q (h : q < A.length), q < i → ∀ m (hm : m < ps.length), k0 ≤ m → A[q] ≤ ps[m].f0) → (∀ q (h : q < B.length), q < j → ∀ m (hm : m < ps.length), k0 ≤ m → B[q] < ps[m].f0) → ∀ out : List Bool, out.length = ps.length → out.take k0 = (ps.take k0).map (inB l) →
    Ev (fun k => thistleref02_inside.l1 k ps A B out (i : Int) (j : Int) (k0 : Int)) (ps.map (inB l))
  | 0, k0, i, j, hk, hi, hj, h1, h2, out, ho, ht => by
    rw [List.take_of_length_le (by omega), List.take_of_length_le (by omega)] at ht
    subst ht
    refine Ev.step (f := fun _ => some (ps.map (inB l))) (fun k => ?_) (Ev.now _)
    rw [thistleref02_inside.l1, if_neg (by omega)]
  | n + 1, k0, i, j, hk, hi, hj, h1, h2, out, ho, ht => by
    have hlt : k0 < ps.length := by omega
    have hAl : A.length = l.length := by rw [hA.length_eq, List.length_map]
    have hBl : B.length = l.length := by rw [hB.length_eq, List.length_map]
    have cA : (A.countP fun a => decide (a ≤ ps[k0].f0)) = l.countP fun x => decide (x.f0 ≤ ps[k0].f0) := by rw [hA.countP_eq, List.countP_map]; rfl
    have cB : (B.countP fun a => decide (a < ps[k0].f0)) = l.countP fun x => decide (x.f1 < ps[k0].f0) := by rw [hB.countP_eq, List.countP_map]; rfl
    have up : ∀ m (hm : m < ps.length), k0 ≤ m → ps[k0].f0 ≤ ps[m].f0 := by
      intro m hm hkm
      rcases Nat.lt_or_ge k0 m with h | h
      · exact List.pairwise_iff_getElem.1 hrise k0 m hlt hm h
      · have : m = k0 := by omega
        subst this; exact Int.le_refl _
    have sortedA : ∀ q (h : q < A.length), q < (A.countP fun a => decide (a ≤ ps[k0].f0)) → A[q] ≤ ps[k0].f0 := by
      intro q hq hqc
      rcases Int.lt_or_le ps[k0].f0 A[q] with h | h
      · exfalso
        have hle : (A.countP fun a => decide (a ≤ ps[k0].f0)) ≤ q := by
          rw [← List.take_append_drop q A, List.countP_append]
          have e0 : (A.drop q).countP (fun a => decide (a ≤ ps[k0].f0)) = 0 := by
            rw [List.countP_eq_zero]
            intro a ha
            obtain ⟨t, ht, rfl⟩ := List.mem_iff_getElem.1 ha
            rw [List.getElem_drop]
            have : A[q] ≤ A[q + t]'(by rw [List.length_drop] at ht; omega) := by
              rcases Nat.eq_zero_or_pos t with h0 | h0
              · subst h0; exact Int.le_refl _
              · exact List.pairwise_iff_getElem.1 hAs q (q + t) hq (by rw [List.length_drop] at ht; omega) (by omega)
            simp
            omega
          have := List.countP_le_length (p := fun a => decide (a ≤ ps[k0].f0)) (l := A.take q)
          rw [List.length_take] at this
          omega
        omega
      · exact h
    have sortedB : ∀ q (h : q < B.length), q < (B.countP fun a => decide (a < ps[k0].f0)) → B[q] < ps[k0].f0 := by
      intro q hq hqc
      rcases Int.lt_or_le B[q] ps[k0].f0 with h | h
      · exact h
      · exfalso
        have hle : (B.countP fun a => decide (a < ps[k0].f0)) ≤ q := by
          rw [← List.take_append_drop q B, List.countP_append]
          have e0 : (B.drop q).countP (fun a => decide (a < ps[k0].f0)) = 0 := by
            rw [List.countP_eq_zero]
            intro a ha
            obtain ⟨t, ht, rfl⟩ := List.mem_iff_getElem.1 ha
            rw [List.getElem_drop]
            have : B[q] ≤ B[q + t]'(by rw [List.length_drop] at ht; omega) := by
              rcases Nat.eq_zero_or_pos t with h0 | h0
              · subst h0; exact Int.le_refl _
              · exact List.pairwise_iff_getElem.1 hBs q (q + t) hq (by rw [List.length_drop] at ht; omega) (by omega)
            simp
            omega
          have := List.countP_le_length (p := fun a => decide (a < ps[k0].f0)) (l := B.take q)
          rw [List.length_take] at this
          omega
        omega
    have hcA := List.countP_le_length (p := fun a => decide (a ≤ ps[k0].f0)) (l := A)
    have hcB := List.countP_le_length (p := fun a => decide (a < ps[k0].f0)) (l := B)
    have ih := il1_ev l hl A B ps hps hrise hA hB hlen hAs hBs n (k0 + 1) _ _ (by omega) hcA hcB (fun q hq hqi m hm hkm => Int.le_trans (sortedA q hq hqi) (up m hm (by omega))) (fun q hq hqi m hm hkm => Int.lt_of_lt_of_le (sortedB q hq hqi) (up m hm (by omega))) (out.set k0 (inB l ps[k0])) (by rw [List.length_set]; exact ho) (by
      rw [List.take_succ_eq_append_getElem (by rw [List.length_set]; omega), List.take_succ_eq_append_getElem hlt, List.map_append, List.getElem_set_self, List.take_set_of_le (Nat.le_refl _), ht]
      rfl)
    refine Ev.step (f := fun k => thistleref02_inside.l2 k ps A B out (i : Int) (j : Int) (k0 : Int)) (fun k => ?_) (il2_ev A B ps out (j : Int) k0 hlt (by omega) hAs _ 0 _ i (Nat.le_refl _) hi (fun q hq hqi => h1 q hq hqi k0 hlt (Nat.le_refl _)) ?_)
    · rw [thistleref02_inside.l1, if_pos (by omega)]
    · refine Ev.step (f := fun k => thistleref02_inside.l3 k ps A B out ((A.countP fun a => decide (a ≤ ps[k0].f0) : Nat) : Int) (j : Int) (k0 : Int)) (fun k => ?_) (il3_ev A B ps out _ k0 hlt (by omega) hps (by omega) hBs _ _ j (Nat.le_refl _) hj (fun q hq hqi => h2 q hq hqi k0 hlt (Nat.le_refl _)) ?_)
      · rw [thistleref02_inside.j3]
      · have e : decide (((A.countP fun a => decide (a ≤ ps[k0].f0) : Nat) : Int) > ((B.countP fun a => decide (a < ps[k0].f0) : Nat) : Int)) = inB l ps[k0] := by
          rw [inB_cnt l hl, cA, cB]
          rw [Bool.eq_iff_iff, decide_eq_true_eq, decide_eq_true_eq]
          omega
        rw [e]
        exact ih
theorem il0_ev (l : List Rg) (hw : ∀ x ∈ l, wR x) (hlen : l.length ≤ 100000000) (ps : List Pc) (r : List Bool) (A B : List Int) (hA : Ev (fun k => thistleref02_merged.f k (l.map fun x => x.f0)) A) (hB : Ev (fun k => thistleref02_merged.f k (l.map fun x => x.f1)) B) (hp : ps.length ≤ 1000000000)
    (h : Ev (fun k => thistleref02_inside.l1 k ps A B (List.replicate ps.length false) 0 0 0) r) : ∀ (n i : Nat), i + n = l.length → Ev (fun k => thistleref02_inside.l0 k l ps ((l.take i).map fun x => x.f0) ((l.take i).map fun x => x.f1) (i : Int)) r
  | 0, i, hi => by
    rw [List.take_of_length_le (by omega)]
    refine Ev.step (f := fun k => (thistleref02_merged.f k (l.map fun x => x.f0)).bind fun t204 => ((thistleref02_merged.f k (l.map fun x => x.f1)).bind fun t207 => thistleref02_inside.l1 k ps t204 t207 (List.replicate ps.length false) 0 0 0)) (fun k => ?_) (Ev.bind hA (Ev.bind hB h))
    rw [thistleref02_inside.l0, if_neg (by omega)]
    congr 1
    funext t1
    congr 1
    funext t2
    rw [if_pos (by omega), if_pos (by omega), Int.toNat_natCast]
  | n + 1, i, hi => by
    have hlt : i < l.length := by omega
    have hx := hw _ (List.getElem_mem hlt)
    unfold wR w32 at hx
    have ih := il0_ev l hw hlen ps r A B hA hB hp h n (i + 1) (by omega)
    rw [List.take_succ_eq_append_getElem hlt, List.map_append, List.map_append] at ih
    refine Ev.step (fun k => ?_) ih
    rw [thistleref02_inside.l0, if_pos (by omega), if_pos (by omega), if_pos (by rw [List.length_map, List.length_take]; omega), if_pos (by rw [List.length_map, List.length_take]; omega), rdT_get l i hlt, w64i l[i].f0 (by omega) (by omega), w64i l[i].f1 (by omega) (by omega), w64i _ (by omega) (by omega)]
    rfl
theorem inside_ev (l : List Rg) (hw : ∀ x ∈ l, wR x) (hl : ∀ x ∈ l, x.f0 ≤ x.f1) (hlen : l.length ≤ 100000000) (ps : List Pc) (hp : ps.length ≤ 1000000000) (hrise : ps.Pairwise (fun p q => p.f0 ≤ q.f0)) : Ev (fun k => thistleref02_inside.f k l ps) (ps.map (inB l)) := by
  obtain ⟨A, a1, a2, a3⟩ := merged_ev (l.map fun x => x.f0) (by rw [List.length_map]; omega)
  obtain ⟨B, b1, b2, b3⟩ := merged_ev (l.map fun x => x.f1) (by rw [List.length_map]; omega)
  exact il0_ev l hw hlen ps _ A B a1 b1 hp (il1_ev l hl A B ps hp hrise a2 b2 (by omega) a3 b3 ps.length 0 0 0 (by omega) (Nat.zero_le _) (Nat.zero_le _) (fun q _ h => by omega) (fun q _ h => by omega) (List.replicate ps.length false) (by simp) (by simp)) l.length 0 (by omega)
/-! join, Make -/
theorem prs_append (a b : List Rg) : prs (a ++ b) = prs a ++ prs b := List.map_append
theorem join_ok (l : List Rg) (p : R) (hs : Sound (prs l)) (hp : okR p) (hg : ∀ q ∈ prs l, q.2 < p.1) (hl : l.length ≤ 1000000000) :
    ∃ r, thistleref02_join.f l p.1 p.2 = some r ∧ Sound (prs r) ∧ (∀ u, mem (prs r) u ↔ mem (prs l) u ∨ (p.1 ≤ u ∧ u ≤ p.2)) ∧ (∀ q ∈ prs r, q.2 ≤ p.2) ∧ r.length ≤ l.length + 1 := by
  have hp0 := hp
  unfold XSets.okR at hp0
  have w1 : wrap32 p.1 = p.1 := by unfold wrap32; omega
  have w2 : wrap32 p.2 = p.2 := by unfold wrap32; omega
  have add : (∀ q ∈ prs l, q.2 + 1 < p.1) → Sound (prs (l ++ [⟨p.1, p.2⟩])) ∧ (∀ u, mem (prs (l ++ [⟨p.1, p.2⟩])) u ↔ mem (prs l) u ∨ (p.1 ≤ u ∧ u ≤ p.2)) ∧ (∀ q ∈ prs (l ++ [⟨p.1, p.2⟩]), q.2 ≤ p.2) ∧ (l ++ [(⟨p.1, p.2⟩ : Rg)]).length ≤ l.length + 1 := by
    intro hg2
    rw [prs_append]
    refine ⟨Sound.snoc hs hp hg2, fun u => ?_, fun q hq => ?_, by simp⟩
    · rw [mem_append, show prs [(⟨p.1, p.2⟩ : Rg)] = [p] from rfl, mem_cons]
      simp only [mem_nil, or_false]
    · rcases List.mem_append.1 hq with h | h
      · have := hg q h; omega
      · rw [show prs [(⟨p.1, p.2⟩ : Rg)] = [p] from rfl, List.mem_singleton] at h
        subst h; exact Int.le_refl _
  unfold thistleref02_join.f
  rcases List.eq_nil_or_concat l with rfl | ⟨a, q, rfl⟩
  · rw [if_neg (by simp), if_pos (by simp), w1, w2]
    exact ⟨_, rfl, add (fun q hq => by cases hq)⟩
  · rw [List.concat_eq_append] at *
    have hlen : (a ++ [q]).length = a.length + 1 := by simp
    rw [prs_append] at hs
    obtain ⟨g1, g2, g3⟩ := Sound.init hs
    have hq0 := g2
    unfold XSets.okR pr at hq0
    simp only at hq0
    have hgq : q.f1 < p.1 := hg (pr q) (List.mem_map.2 ⟨q, by simp, rfl⟩)
    have hr : rd_T31 (a ++ [q]) (wrap64 (((a ++ [q]).length : Int) - 1)) = q := by
      rw [hlen, w64i _ (by omega) (by omega), show (((a.length + 1 : Nat) : Int) - 1) = ((a.length : Nat) : Int) by omega, rdT_get _ _ (by simp)]
      simp
    rw [if_pos (by rw [hlen]; omega), if_pos (by rw [hlen, w64i _ (by omega) (by omega)]; omega), if_pos (by rw [hlen, w64i _ (by omega) (by omega)]; omega), hr, w64i q.f1 (by omega) (by omega), w64i (q.f1 + 1) (by omega) (by omega)]
    by_cases hc : q.f1 + 1 = p.1
    · rw [if_pos hc, w2]
      have hset : (a ++ [q]).set (wrap64 (((a ++ [q]).length : Int) - 1)).toNat (⟨q.f0, p.2⟩ : Rg) = a ++ [⟨q.f0, p.2⟩] := by
        rw [hlen, w64i _ (by omega) (by omega), show (((a.length + 1 : Nat) : Int) - 1) = ((a.length : Nat) : Int) by omega, Int.toNat_natCast, List.set_append_right _ _ (Nat.le_refl _), Nat.sub_self]
        rfl
      rw [hset]
      refine ⟨_, rfl, ?_, fun u => ?_, fun r hr => ?_, by simp⟩
      · rw [prs_append]
        refine Sound.snoc g1 ?_ (fun r hr => g3 r hr)
        unfold XSets.okR pr
        simp only
        omega
      · rw [prs_append, prs_append, mem_append, mem_append, show prs [q] = [pr q] from rfl, show prs [(⟨q.f0, p.2⟩ : Rg)] = [(q.f0, p.2)] from rfl, mem_cons, mem_cons]
        simp only [mem_nil, or_false, pr]
        constructor
        · rintro (h | h)
          · exact .inl (.inl h)
          · by_cases hu : u ≤ q.f1
            · exact .inl (.inr ⟨h.1, hu⟩)
            · exact .inr ⟨by omega, h.2⟩
        · rintro ((h | h) | h)
          · exact .inl h
          · exact .inr ⟨h.1, by omega⟩
          · exact .inr ⟨by omega, h.2⟩
      · rw [prs_append] at hr
        rcases List.mem_append.1 hr with h | h
        · have := g3 r h
          simp only [pr] at this
          omega
        · rw [show prs [(⟨q.f0, p.2⟩ : Rg)] = [(q.f0, p.2)] from rfl, List.mem_singleton] at h
          subst h; exact Int.le_refl _
    · rw [if_neg hc, if_pos (by omega), w1, w2]
      refine ⟨_, rfl, add (fun r hr => ?_)⟩
      rw [prs_append] at hr
      rcases List.mem_append.1 hr with h | h
      · have := g3 r h
        simp only [pr] at this
        omega
      · rw [show prs [q] = [pr q] from rfl, List.mem_singleton] at h
        subst h
        simp only [pr]
        omega
theorem ml1_ev (ps : List Pc) (B : List Bool) (hB : B.length = ps.length) (hps : ps.length ≤ 500000000) (hok : ∀ p ∈ ps, okR (pp p)) (hrise : ps.Pairwise (fun p q => p.f1 < q.f0)) : ∀ (n i : Nat) (l : List Rg), i + n = ps.length → l.length ≤ i → Sound (prs l) →
    (∀ q ∈ prs l, ∀ j (hj : j < ps.length), i ≤ j → q.2 < ps[j].f0) → (∀ u, mem (prs l) u ↔ ∃ j, ∃ hj : j < ps.length, j < i ∧ B[j]'(by omega) = true ∧ ps[j].f0 ≤ u ∧ u ≤ ps[j].f1) →
    ∃ r, Ev (fun k => thistleref02_Make.l1 k l ps B (i : Int)) (r, 0) ∧ Sound (prs r) ∧ (∀ u, mem (prs r) u ↔ ∃ j, ∃ hj : j < ps.length, B[j]'(by omega) = true ∧ ps[j].f0 ≤ u ∧ u ≤ ps[j].f1) ∧ r.length ≤ ps.length
  | 0, i, l, hi, hl, hs, hg, hm => by
    refine ⟨l, Ev.step (f := fun _ => some (l, 0)) (fun k => ?_) (Ev.now _), hs, fun u => ?_, by omega⟩
    · rw [thistleref02_Make.l1, if_neg (by omega)]
    · rw [hm u]
      exact ⟨fun ⟨j, hj, _, h⟩ => ⟨j, hj, h⟩, fun ⟨j, hj, h⟩ => ⟨j, hj, by omega, h⟩⟩
  | n + 1, i, l, hi, hl, hs, hg, hm => by
    have hlt : i < ps.length := by omega
    have hltB : i < B.length := by omega
    have hrB : rdOf false B (i : Int) = B[i] := by
      unfold rdOf
      rw [Int.toNat_natCast, List.getD_eq_getElem?_getD, List.getElem?_eq_getElem hltB]
      rfl
    have hpi := hok _ (List.getElem_mem hlt)
    have hp1 : ps[i].f0 ≤ ps[i].f1 := hpi.1
    have later : ∀ j (hj : j < ps.length), i + 1 ≤ j → ps[i].f1 < ps[j].f0 := fun j hj hij => List.pairwise_iff_getElem.1 hrise i j hlt hj (by omega)
    cases hb : B[i] with
    | true =>
      obtain ⟨l2, e1, e2, e3, e4, e5⟩ := join_ok l (pp ps[i]) hs hpi (fun q hq => hg q hq i hlt (Nat.le_refl _)) (by omega)
      obtain ⟨r, r1, r2⟩ := ml1_ev ps B hB hps hok hrise n (i + 1) l2 (by omega) (by omega) e2 (fun q hq j hj hij => Int.lt_of_le_of_lt (e4 q hq) (later j hj hij)) (fun u => by
        rw [e3 u, hm u]
        constructor
        · rintro (⟨j, hj, h1, h2⟩ | h)
          · exact ⟨j, hj, by omega, h2⟩
          · exact ⟨i, hlt, by omega, hb, h⟩
        · rintro ⟨j, hj, h1, h2⟩
          rcases Nat.lt_or_ge j i with h | h
          · exact .inl ⟨j, hj, h, h2⟩
          · have : j = i := by omega
            subst this
            exact .inr h2.2)
      refine ⟨r, Ev.step (fun k => ?_) r1, r2⟩
      have e1' : thistleref02_join.f l ps[i].f0 ps[i].f1 = some l2 := e1
      rw [thistleref02_Make.l1, if_pos (by omega), if_pos (by omega), if_pos (by omega), hrB, hb, if_pos rfl, rdP_get ps i hlt, e1', Option.bind_some, w64i _ (by omega) (by omega)]
      rfl
    | false =>
      obtain ⟨r, r1, r2⟩ := ml1_ev ps B hB hps hok hrise n (i + 1) l (by omega) (by omega) hs (fun q hq j hj hij => hg q hq j hj (by omega)) (fun u => by
        rw [hm u]
        constructor
        · rintro ⟨j, hj, h1, h2⟩
          exact ⟨j, hj, by omega, h2⟩
        · rintro ⟨j, hj, h1, h2⟩
          rcases Nat.lt_or_ge j i with h | h
          · exact ⟨j, hj, h, h2⟩
          · have : j = i := by omega
            subst this
            rw [hb] at h2
            exact absurd h2.1 (by simp))
      refine ⟨r, Ev.step (fun k => ?_) r1, r2⟩
      rw [thistleref02_Make.l1, if_pos (by omega), if_pos (by omega), if_pos (by omega), hrB, hb, if_neg (by simp), w64i _ (by omega) (by omega)]
      rfl
theorem ml0_ev (l : List Rg) (hlen : l.length ≤ 1000000000) (r : List Rg × Int) (h : Ev (fun k => (thistleref02_pieces.f k [l]).bind fun t233 => ((thistleref02_inside.f k l t233).bind fun t236 => thistleref02_Make.l1 k [] t233 t236 0)) r) : ∀ (n i : Nat), i + n = l.length → (∀ x ∈ l.drop i, x.f0 ≤ x.f1) → Ev (fun k => thistleref02_Make.l0 k l (i : Int)) r
  | 0, i, hi, _ => by
    refine Ev.step (fun k => ?_) h
    rw [thistleref02_Make.l0, if_neg (by omega)]
  | n + 1, i, hi, ho => by
    have hlt : i < l.length := by omega
    rw [List.drop_eq_getElem_cons hlt] at ho
    have hx := ho _ List.mem_cons_self
    refine Ev.step (fun k => ?_) (ml0_ev l hlen r h n (i + 1) (by omega) (fun x hx => ho x (List.mem_cons_of_mem _ hx)))
    rw [thistleref02_Make.l0, if_pos (by omega), if_pos (by omega), rdT_get l i hlt, if_neg (by omega), w64i _ (by omega) (by omega)]
    rfl
/-- Make: ranges that aren't wrong way round -/
theorem makeR_ok (l : List Rg) (hw : ∀ x ∈ l, wR x) (hl : ∀ x ∈ l, x.f0 ≤ x.f1) (hlen : l.length ≤ 10000000) :
    ∃ r, Ev (fun k => thistleref02_Make.f k l) (r, 0) ∧ Sound (prs r) ∧ (∀ u, mem (prs r) u ↔ mem (prs l) u ∧ isU u) ∧ r.length ≤ 2 * l.length + 6 := by
  have hfl : ([l].flatMap cutsOf).length = 2 * l.length := by rw [List.flatMap_cons, List.flatMap_nil, List.append_nil, cuts_len]
  obtain ⟨C, c1, c2, c3, c4⟩ := pieces_ev [l] (by simp) (fun l' hl' => by rw [List.mem_singleton] at hl'; subst hl'; exact ⟨hw, by omega⟩) (by omega)
  have hC : Cuts C := ⟨c1, fun x hx => (c2 x).2 (.inl hx)⟩
  have hCl : ∀ c ∈ cutsOf l, c ∈ C := fun c hc => (c2 c).2 (.inr (by rw [List.flatMap_cons, List.flatMap_nil, List.append_nil]; exact hc))
  have hpl := pcs_len C
  have hrise := pcs_rise C c1
  have hrise0 : (pcs C).Pairwise (fun p q => p.f0 ≤ q.f0) := by
    rw [List.pairwise_iff_getElem] at hrise ⊢
    intro i j hi hj hij
    have := hrise i j hi hj hij
    have h1 := (hC.okR _ (List.getElem_mem hi)).1
    simp only [pp] at h1
    omega
  have hin := inside_ev l hw hl (by omega) (pcs C) (by omega) hrise0
  obtain ⟨r, r1, r2, r3, r4⟩ := ml1_ev (pcs C) ((pcs C).map (inB l)) (by rw [List.length_map]) (by omega) (fun p hp => hC.okR p hp) hrise (pcs C).length 0 [] (by omega) (by simp) trivial (fun q hq => by cases hq) (fun u => ⟨fun h => absurd h (mem_nil u), fun ⟨j, _, h, _⟩ => by omega⟩)
  refine ⟨r, ml0_ev l (by omega) (r, 0) (Ev.bind c4 (Ev.bind hin r1)) l.length 0 (by omega) (fun x hx => hl x (by simpa using hx)), r2, fun u => ?_, by omega⟩
  rw [r3 u]
  constructor
  · rintro ⟨j, hj, h1, h2, h3⟩
    rw [List.getElem_map] at h1
    have hp := List.getElem_mem hj
    have hok := hC.okR _ hp
    refine ⟨(hC.whole l hCl _ hp u h2 h3).2 ((inB_mem l _).1 h1), ?_⟩
    unfold XSets.okR pp at hok
    unfold isU
    simp only at hok
    omega
  · rintro ⟨h1, h2⟩
    obtain ⟨p, hp, h3, h4⟩ := hC.cover u h2
    obtain ⟨j, hj, rfl⟩ := List.mem_iff_getElem.1 hp
    refine ⟨j, hj, ?_, h3, h4⟩
    rw [List.getElem_map]
    exact (inB_mem l _).2 ((hC.whole l hCl _ hp u h3 h4).1 h1)
/-- Make: a range that is wrong way round -/
theorem makeR_bad (l : List Rg) (hlen : l.length ≤ 1000000000) : ∀ (n i : Nat), i + n = l.length → (∃ x ∈ l.drop i, x.f1 < x.f0) → Ev (fun k => thistleref02_Make.l0 k l (i : Int)) ([], 2)
  | 0, i, hi, ⟨x, hx, _⟩ => by
    rw [List.drop_of_length_le (by omega)] at hx
    cases hx
  | n + 1, i, hi, ho => by
    have hlt : i < l.length := by omega
    by_cases hc : l[i].f0 > l[i].f1
    · refine Ev.step (f := fun _ => some ([], 2)) (fun k => ?_) (Ev.now _)
      rw [thistleref02_Make.l0, if_pos (by omega), if_pos (by omega), rdT_get l i hlt, if_pos hc]
    · rw [List.drop_eq_getElem_cons hlt] at ho
      obtain ⟨x, hx, h⟩ := ho
      rcases List.mem_cons.1 hx with rfl | hx
      · omega
      · refine Ev.step (fun k => ?_) (makeR_bad l hlen n (i + 1) (by omega) ⟨x, hx, h⟩)
        rw [thistleref02_Make.l0, if_pos (by omega), if_pos (by omega), rdT_get l i hlt, if_neg hc, w64i _ (by omega) (by omega)]
        rfl
theorem makeR_wrong (l : List Rg) (hlen : l.length ≤ 1000000000) (h : ∃ x ∈ l, x.f1 < x.f0) : Ev (fun k => thistleref02_Make.f k l) ([], 2) := makeR_bad l hlen l.length 0 (by omega) (by simpa using h)
end XM
end Go.Proofs.YtmokclfiifmhpaaDoor.XS
