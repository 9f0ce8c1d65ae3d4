/- NamedPlays in plain Lean: every name, letter and number is answered as the document's answer says. -/
import Derived.Test.YtpobhkniekcciaaDoorXNPNamesK
import Derived.Test.YtpobhkniekcciaaDoorXN6
namespace Go.Proofs.YtpobhkniekcciaaDoor.XN
open Go.RowKit Go.Proofs.YtpobhkniekcciaaDoorW.PrintWords Go.Proofs.YtpobhkniekcciaaDoorW.PrintLast
set_option linter.unusedVariables false
set_option linter.unusedSimpArgs false
theorem w64p (x : Int) (h0 : -1000 ≤ x) (h1 : x ≤ 100000) : wrap64 x = x := by unfold wrap64; omega
def refTab : List S139 := (thistleref04_table.f).getD []
theorem refTab_eq : thistleref04_table.f = some refTab := rfl
theorem refTab_len : refTab.length = 20 := by kernel_rfl
def prsU (l : List (Int × Int)) : List Rng := l.map fun p => ⟨p.1, p.2⟩
theorem prsU_prs (l : List Rng) : prsU (prs l) = l := by
  unfold prsU prs
  rw [List.map_map]
  exact List.map_id' l
theorem prs_inj {a b : List Rng} (h : prs a = prs b) : a = b := by rw [← prsU_prs a, h, prsU_prs]
def pairsU : List Int → List (Int × Int)
  | a :: b :: r => (a, b) :: pairsU r
  | _ => []
def evenB : List Int → Bool
  | _ :: _ :: r => evenB r
  | [] => true
  | _ => false
def cT (i : Nat) : ByteArray × List Rng := classTab.getD i (ByteArray.empty, [])
def rowB (i : Nat) : Bool := decide ((rd_T139 refTab (i : Int)).f0.data.toList = (cT i).1.data.toList) && (decide ((thistleref04_set.f 40 (rd_T139 refTab (i : Int)).f1).map prs = some (prs (cT i).2)) && (decide (prs (cT i).2 = pairsU (rd_T139 refTab (i : Int)).f1) && (evenB (rd_T139 refTab (i : Int)).f1 && decide ((rd_T139 refTab (i : Int)).f1.length < 60))))
theorem rows_same : (List.range 20).all rowB = true := by kernel_rfl
theorem str_ext {a b : ByteArray} (h : a.data.toList = b.data.toList) : a = b := by
  cases a; cases b
  congr 1
  exact Array.toList_inj.mp h
theorem row_at (i : Nat) (h : i < 20) : (rd_T139 refTab (i : Int)).f0 = (cT i).1 ∧ (∀ k, 40 ≤ k → thistleref04_set.f k (rd_T139 refTab (i : Int)).f1 = some (cT i).2) ∧ prs (cT i).2 = pairsU (rd_T139 refTab (i : Int)).f1 ∧ evenB (rd_T139 refTab (i : Int)).f1 = true ∧ (rd_T139 refTab (i : Int)).f1.length < 60 := by
  have hb := List.all_eq_true.mp rows_same i (List.mem_range.mpr h)
  unfold rowB at hb
  simp only [Bool.and_eq_true, decide_eq_true_eq] at hb
  obtain ⟨h1, h2, h3, h4, h5⟩ := hb
  refine ⟨str_ext h1, fun k hk => ?_, h3, h4, h5⟩
  obtain ⟨l, hl, he⟩ := Option.map_eq_some_iff.mp h2
  have h6 := up (g := fun k => thistleref04_set.f k (rd_T139 refTab (i : Int)).f1) (fun k => thistleref04_set.mono _ k) hl k hk
  rw [h6, prs_inj he]
theorem cT_drop (i : Nat) (h : i < 20) : classTab.drop i = cT i :: classTab.drop (i + 1) := by
  rw [List.drop_eq_getElem_cons (by rw [tab_len]; exact h)]
  congr 1
  unfold cT
  rw [List.getD_eq_getElem?_getD, List.getElem?_eq_getElem (by rw [tab_len]; exact h)]
  rfl
theorem class_go (s : ByteArray) : ∀ (m i j k : Nat), i + m = 20 → m + 60 ≤ k → thistleref04_Class.l0 k s refTab (i : Int) = some (match XLib.findIn s (classTab.drop i) j with | some (_, l) => (l, 0) | none => ([], 9))
  | 0, i, j, k + 1, hi, _ => by
    obtain rfl : i = 20 := by omega
    rw [thistleref04_Class.l0, if_neg (by rw [refTab_len]; omega), List.drop_of_length_le (by rw [tab_len]; omega)]
    rfl
  | m + 1, i, j, k + 1, hi, hk => by
    obtain ⟨h1, h2, _⟩ := row_at i (by omega)
    have ih := class_go s m (i + 1) (j + 1) k (by omega) (by omega)
    rw [thistleref04_Class.l0, if_pos (by rw [refTab_len]; omega), if_pos (by omega), h1, cT_drop i (by omega), XLib.findIn]
    by_cases hs : s = (cT i).1
    · rw [if_pos (by rw [hs]), if_pos hs, h2 k (by omega)]
      rfl
    · rw [if_neg (fun h => hs (str_ext (by rw [← ByteArray.toList_eq, ← ByteArray.toList_eq, h]))), if_neg hs, w64p _ (by omega) (by omega)]
      exact ih
theorem class_ref (s : ByteArray) (k : Nat) (hk : 80 ≤ k) : thistleref04_Class.f k s = named_Class.f s := by
  unfold thistleref04_Class.f named_Class.f
  rw [refTab_eq, Option.bind_some]
  have h := class_go s 20 0 0 k (by omega) (by omega)
  rw [List.drop_zero] at h
  refine Eq.trans h ?_
  cases XLib.findIn s classTab 0 with
  | none => rfl
  | some p => rfl
theorem class_len (s : ByteArray) : ∃ l e, named_Class.f s = some (l, e) ∧ l.length < 60 := by
  unfold named_Class.f
  cases hf : XLib.findIn s classTab 0 with
  | none => exact ⟨[], 9, rfl, by decide⟩
  | some p =>
    obtain ⟨j, l⟩ := p
    refine ⟨l, 0, rfl, ?_⟩
    have hmem : ∀ (L : List (ByteArray × List Rng)) i j l, XLib.findIn s L i = some (j, l) → (s, l) ∈ L := by
      intro L
      induction L with
      | nil => intro i j l h; simp [XLib.findIn] at h
      | cons p L ih =>
        intro i j l h
        obtain ⟨n, l2⟩ := p
        rw [XLib.findIn] at h
        by_cases hs : s = n
        · rw [if_pos hs] at h
          obtain ⟨rfl, rfl⟩ := Prod.mk.inj (Option.some.inj h)
          subst hs
          exact List.mem_cons_self
        · rw [if_neg hs] at h
          exact List.mem_cons_of_mem _ (ih _ _ _ h)
    have h := List.all_eq_true.mp rows_ok (s, l) (hmem classTab 0 j l hf)
    unfold rowOk at h
    simp only [Bool.and_eq_true, beq_iff_eq, decide_eq_true_eq] at h
    exact h.2.2.2
theorem same_go (l : List Rng) (hl : l.length < 100) : ∀ (m i k : Nat), i + m = l.length → m < k → thistlelaw04_same.l0 k l l (i : Int) = some true
  | 0, i, k + 1, hi, _ => by rw [thistlelaw04_same.l0, if_neg (by omega)]
  | m + 1, i, k + 1, hi, hk => by
    have ih := same_go l hl m (i + 1) k (by omega) (by omega)
    rw [thistlelaw04_same.l0, if_pos (by omega), if_pos (by omega), if_pos (by omega), if_pos rfl, if_pos rfl, w64p _ (by omega) (by omega)]
    exact ih
theorem same_self (l : List Rng) (hl : l.length < 100) (k : Nat) (hk : 100 ≤ k) : thistlelaw04_same.f k l l = some true := by
  unfold thistlelaw04_same.f
  rw [if_pos rfl]
  exact same_go l hl l.length 0 k (by omega) (by omega)
theorem sameNames_go (l : List ByteArray) (hl : l.length < 100) : ∀ (m i k : Nat), i + m = l.length → m < k → thistlelaw04_sameNames.l0 k l l (i : Int) = some true
  | 0, i, k + 1, hi, _ => by rw [thistlelaw04_sameNames.l0, if_neg (by omega)]
  | m + 1, i, k + 1, hi, hk => by
    have ih := sameNames_go l hl m (i + 1) k (by omega) (by omega)
    rw [thistlelaw04_sameNames.l0, if_pos (by omega), if_pos (by omega), if_pos (by omega), if_pos rfl, w64p _ (by omega) (by omega)]
    exact ih
theorem sameNames_self (l : List ByteArray) (hl : l.length < 100) (k : Nat) (hk : 100 ≤ k) : thistlelaw04_sameNames.f k l l = some true := by
  unfold thistlelaw04_sameNames.f
  rw [if_pos rfl]
  exact sameNames_go l hl l.length 0 k (by omega) (by omega)
/-! the letters -/
def escB (c : Nat) : Bool := match named_Escape.f 60 (c : Int), thistleref04_Escape.f 60 (c : Int) with
  | some (a, e), some (b, e2) => decide (e = e2) && (decide (prs a = prs b) && decide (a.length < 60))
  | _, _ => false
def escL : List Nat := [100, 68, 119, 87, 115, 83, 67, 89]
theorem escs_ok : escL.all escB = true := by kernel_rfl
theorem esc_at (c : Int) : ∃ l e, l.length < 60 ∧ ∀ k, 60 ≤ k → named_Escape.f k c = some (l, e) ∧ thistleref04_Escape.f k c = some (l, e) := by
  by_cases hm : ∃ n ∈ escL, c = (n : Int)
  · obtain ⟨n, hn, rfl⟩ := hm
    have h := List.all_eq_true.mp escs_ok n hn
    unfold escB at h
    split at h
    · next a e b e2 h1 h2 =>
      simp only [Bool.and_eq_true, decide_eq_true_eq] at h
      obtain ⟨rfl, h3, h4⟩ := h
      obtain rfl := prs_inj h3
      exact ⟨a, e, h4, fun k hk => ⟨up (g := fun k => named_Escape.f k (n : Int)) (fun k => named_Escape.mono _ k) h1 k hk, up (g := fun k => thistleref04_Escape.f k (n : Int)) (fun k => thistleref04_Escape.mono _ k) h2 k hk⟩⟩
    · cases h
  · have hne : ∀ n : Nat, n ∈ escL → c ≠ (n : Int) := fun n hn e => hm ⟨n, hn, e⟩
    have a1 : c ≠ 100 := hne 100 (by decide)
    have a2 : c ≠ 68 := hne 68 (by decide)
    have a3 : c ≠ 119 := hne 119 (by decide)
    have a4 : c ≠ 87 := hne 87 (by decide)
    have a5 : c ≠ 115 := hne 115 (by decide)
    have a6 : c ≠ 83 := hne 83 (by decide)
    have a7 : c ≠ 67 := hne 67 (by decide)
    have a8 : c ≠ 89 := hne 89 (by decide)
    refine ⟨[], 9, by decide, fun k hk => ⟨?_, ?_⟩⟩
    · obtain ⟨k, rfl⟩ : ∃ m, k = m + 2 := ⟨k - 2, by omega⟩
      rw [named_Escape.f, if_neg a1, if_neg a3, if_neg a5, if_neg a2, if_neg a4, named_Escape.j0, if_neg (by simpa using a6), if_neg a7, if_neg a8]
    · unfold thistleref04_Escape.f
      rw [if_neg a1, if_neg a3, if_neg a5, if_neg a7, if_neg a8, if_neg a2, if_neg a4, if_neg a6]
/-! the number -/
theorem hasR_go (u : Int) (L : List Int) (hL : L.length < 100) : ∀ (m i k : Nat) (r : List Int), L.drop i = r → r.length = 2 * m → evenB r = true → i ≤ L.length → m < k → thistleref04_has.l0 k L u (i : Int) = some (inP (pairsU r) u)
  | 0, i, k + 1, r, hr, hlen, _, hi, _ => by
    have hd := congrArg List.length hr
    rw [List.length_drop] at hd
    obtain rfl : r = [] := List.length_eq_zero_iff.mp (by omega)
    rw [thistleref04_has.l0, w64p _ (by omega) (by omega), if_neg (by simp at hd; omega)]
    rfl
  | m + 1, i, k + 1, r, hr, hlen, he, hi, hk => by
    match r, hlen, he with
    | a :: b :: r, hlen, he =>
      have hd := congrArg List.length hr
      simp only [List.length_drop, List.length_cons] at hd hlen
      have g0 : L[i]? = some a := by have := congrArg (fun l => l[0]?) hr; simpa using this
      have g1 : L[i + 1]? = some b := by have := congrArg (fun l => l[1]?) hr; simpa using this
      have r0 : rd L (i : Int) = a := by unfold rd; rw [Int.toNat_natCast, List.getD_eq_getElem?_getD, g0]; rfl
      have r1 : rd L ((i : Int) + 1) = b := by unfold rd; rw [show ((i : Int) + 1).toNat = i + 1 by omega, List.getD_eq_getElem?_getD, g1]; rfl
      have hr2 : L.drop (i + 2) = r := by rw [← List.drop_drop, hr]; rfl
      have ih := hasR_go u L hL m (i + 2) k r hr2 (by omega) he (by omega) (by omega)
      rw [thistleref04_has.l0, w64p ((i : Int) + 1) (by omega) (by omega), w64p ((i : Int) + 2) (by omega) (by omega), if_pos (by omega), if_pos (by omega), if_pos (by omega), r0, r1]
      rw [show ((i : Int) + 2) = ((i + 2 : Nat) : Int) by omega, ih]
      have hP : inP (pairsU (a :: b :: r)) u = ((decide (a ≤ u) && decide (u ≤ b)) || inP (pairsU r) u) := rfl
      rw [hP]
      by_cases h1 : a ≤ u
      · by_cases h2 : u ≤ b
        · rw [if_pos h1, if_pos (by omega), if_pos h2]; simp [h1, h2]
        · rw [if_pos h1, if_pos (by omega), if_neg h2]; simp [h2]
      · rw [if_neg h1]; simp [h1]
theorem evenB_len : ∀ (l : List Int), evenB l = true → ∃ m, l.length = 2 * m
  | [], _ => ⟨0, rfl⟩
  | [_], h => by cases h
  | a :: b :: r, h => by
    obtain ⟨m, hm⟩ := evenB_len r h
    exact ⟨m + 1, by simp only [List.length_cons]; omega⟩
theorem hasR_eq (u : Int) (i : Nat) (h : i < 20) (k : Nat) (hk : 60 ≤ k) : thistleref04_has.f k (rd_T139 refTab (i : Int)).f1 u = some (inL (cT i).2 u) := by
  obtain ⟨_, _, h3, h4, h5⟩ := row_at i h
  obtain ⟨m, hm⟩ := evenB_len _ h4
  unfold thistleref04_has.f
  rw [inL_prs, h3]
  exact hasR_go u _ (by omega) m 0 k _ rfl hm h4 (Nat.zero_le _) (by omega)
theorem sel_drop (u : Int) (i : Nat) (h : i < 20) : selL u (classTab.drop i) = (if inL (cT i).2 u = true then [(cT i).1] else []) ++ selL u (classTab.drop (i + 1)) := by
  rw [cT_drop i h]
  unfold selL
  rw [List.filter_cons]
  cases hi : inL (cT i).2 u with
  | true => simp
  | false => simp
theorem ofR_go (u : Int) : ∀ (m i k : Nat) (acc : List ByteArray), i + m = 20 → m + 60 ≤ k → acc.length ≤ i → thistleref04_Of.l0 k u acc refTab (i : Int) = some (acc ++ selL u (classTab.drop i))
  | 0, i, k + 1, acc, hi, _, _ => by
    obtain rfl : i = 20 := by omega
    rw [thistleref04_Of.l0, if_neg (by rw [refTab_len]; omega), List.drop_of_length_le (by rw [tab_len]; omega)]
    simp [selL]
  | m + 1, i, k + 1, acc, hi, hk, ha => by
    obtain ⟨h1, _⟩ := row_at i (by omega)
    rw [thistleref04_Of.l0, if_pos (by rw [refTab_len]; omega), if_pos (by omega), hasR_eq u i (by omega) k (by omega), Option.bind_some, sel_drop u i (by omega), w64p _ (by omega) (by omega), h1]
    cases hin : inL (cT i).2 u with
    | true =>
      rw [if_pos rfl, if_pos (by omega), if_pos rfl, show ((i : Int) + 1) = ((i + 1 : Nat) : Int) by omega, ofR_go u m (i + 1) k _ (by omega) (by omega) (by simp; omega)]
      simp
    | false =>
      rw [if_neg (by simp), if_neg (by simp), show ((i : Int) + 1) = ((i + 1 : Nat) : Int) by omega, ofR_go u m (i + 1) k _ (by omega) (by omega) (by omega)]
      simp
theorem ofR_eq (u : Int) (k : Nat) (hk : 80 ≤ k) : thistleref04_Of.f k u = some (selL u classTab) := by
  unfold thistleref04_Of.f
  rw [refTab_eq, Option.bind_some]
  exact ofR_go u 20 0 k [] (by omega) (by omega) (by simp)
theorem namesR_eq (k : Nat) (hk : 60 ≤ k) : thistleref04_Names.f k = some classNames :=
  up (g := fun k => thistleref04_Names.f k) (fun k => thistleref04_Names.mono k) (show thistleref04_Names.f 60 = some classNames by kernel_rfl) k hk
theorem sel_len (u : Int) : (selL u classTab).length < 100 := by
  unfold selL
  rw [List.length_map]
  have := List.length_filter_le (fun p : ByteArray × List Rng => inL p.2 u) classTab
  rw [tab_len] at this
  omega
end Go.Proofs.YtpobhkniekcciaaDoor.XN
