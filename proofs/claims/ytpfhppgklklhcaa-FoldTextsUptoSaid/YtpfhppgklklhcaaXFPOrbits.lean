/- The orbits of fold's rules and of the document's are the same, number by number: those that a rule may name by the kernel's count, all others by plain Lean. -/
import Derived.Test.YtpfhppgklklhcaaXF1
import Derived.Test.YtpfhppgklklhcaaXF3
import Derived.Test.YtpfhppgklklhcaaXF4
import Derived.Test.YtpfhppgklklhcaaXF5
import Derived.Test.YtpfhppgklklhcaaXF6
namespace Go.Proofs.Ytpfhppgklklhcaa.XF
open Go.RowKit Go.Proofs.YtpfhppgklklhcaaW.PrintWords Go.Proofs.YtpfhppgklklhcaaW.PrintLast
set_option linter.unusedVariables false
set_option linter.unusedSimpArgs false
def Out (u : Int) : Prop := (u < 65 ∨ 122 < u) ∧ (u < 181 ∨ 383 < u) ∧ (u < 913 ∨ 969 < u) ∧ (u < 1024 ∨ 1119 < u) ∧ (u < 7680 ∨ 7838 < u) ∧ (u < 8490 ∨ 8491 < u) ∧ (u < 65313 ∨ 65370 < u) ∧ (u < 66560 ∨ 66639 < u)
theorem nm_out (r : FRule) (n : Int) (h : n < r.lo ∨ r.hi < n) : nm r n = false := by
  unfold nm
  rcases h with h | h
  · rw [decide_eq_false (show ¬ (n ≥ r.lo) by omega)]; simp
  · rw [decide_eq_false (show ¬ (n ≤ r.hi) by omega)]; simp
theorem bs_out (u : Int) (r : FRule) (h1 : u < r.lo ∨ r.hi < u) (h2 : u - r.far < r.lo ∨ r.hi < u - r.far) (a : -2147483648 ≤ u) (b : u ≤ 2147483647) (hf : 0 ≤ r.far) : bsUp u r = [] ∧ bsDown u r = [] := by
  constructor
  · unfold bsUp; rw [nm_out r u h1]; rfl
  · unfold bsDown
    split
    · rename_i hg
      have hw : wrap32 (u - r.far) = u - r.far := by unfold wrap32; omega
      rw [hw, nm_out r _ h2]; rfl
    · rfl
theorem bsL_nil (u : Int) : ∀ L : List FRule, (∀ r ∈ L, bsUp u r = [] ∧ bsDown u r = []) → bsL u L = []
  | [], _ => rfl
  | r :: L, h => by
    have h1 := h r List.mem_cons_self
    rw [bsL, h1.1, h1.2, bsL_nil u L (fun x hx => h x (List.mem_cons_of_mem _ hx))]
    rfl
theorem bsL_out (u : Int) (h : Out u) (a : -2147483648 ≤ u) (b : u ≤ 2147483647) : bsL u ruleL = [] := by
  apply bsL_nil
  obtain ⟨h1, h2, h3, h4, h5, h6, h7, h8⟩ := h
  intro r hr
  unfold ruleL at hr
  simp only [List.mem_cons, List.not_mem_nil, or_false] at hr
  rcases hr with rfl | rfl | rfl | rfl | rfl | rfl | rfl | rfl | rfl | rfl | rfl | rfl | rfl | rfl | rfl | rfl | rfl | rfl | rfl | rfl | rfl | rfl <;> exact bs_out u _ (by dsimp only; omega) (by dsimp only; omega) a b (by decide)
theorem orbit_out (u : Int) (h : bsL u ruleL = []) : fold_Orbit.f 20 u = some [u] := by
  have h0 : fold_beside.f (rd [u] 0) = some [] := by
    show some (bsL u ruleL) = some []
    rw [h]
  show fold_Orbit.l0 20 [u] 0 = some [u]
  rw [fold_Orbit.l0, if_pos (by simp), if_pos (by omega), h0]
  show fold_Orbit.l1 19 [u] 0 [] 0 0 = some [u]
  rw [fold_Orbit.l1, if_neg (by omega)]
  rw [show wrap64 (0 + 1) = 1 by simp [wrap64]]
  rw [fold_Orbit.l0, if_neg (by simp)]
  show (slices_Sort_rune.f 17 [u]).bind _ = _
  have h2 : slices_Sort_rune.f 17 [u] = some [u] := by
    unfold slices_Sort_rune.f
    rw [if_pos (by simp)]
    show slices_insertionSortOrdered_rune.f 17 [u] 0 1 = some [u]
    unfold slices_insertionSortOrdered_rune.f
    rw [slices_insertionSortOrdered_rune.l0]
    simp [wrap64]
  rw [h2]
  rfl
def span (a : Int) (n : Nat) : List Int := (List.range n).map (fun i : Nat => a + (i : Int))
theorem span_mem (a : Int) (n : Nat) (u : Int) (h0 : a ≤ u) (h1 : u < a + (n : Int)) : u ∈ span a n := by
  unfold span
  rw [List.mem_map]
  exact ⟨(u - a).toNat, List.mem_range.mpr (by omega), by omega⟩
theorem up {α : Type} {f : Nat → Option α} (hm : ∀ k, LeO (f k) (f (k + 1))) {k k' : Nat} (hk : k ≤ k') {r : α} (h : f k = some r) : f k' = some r := by
  induction hk with
  | refl => exact h
  | step _ ih => exact hm _ _ ih
theorem up_partners (k k' : Nat) (hk : k ≤ k') (u : Int) (r : List Int) (h : thistleref03_partners.f k u = some r) : thistleref03_partners.f k' u = some r := up (f := fun k => thistleref03_partners.f k u) (fun k => thistleref03_partners.mono u k) hk h
def refL : List S55 := [⟨65, 90, 1, 32, 0⟩, ⟨192, 222, 1, 32, 215⟩, ⟨913, 937, 1, 32, 930⟩, ⟨1040, 1071, 1, 32, 0⟩, ⟨65313, 65338, 1, 32, 0⟩, ⟨1024, 1039, 1, 80, 0⟩, ⟨66560, 66599, 1, 40, 0⟩, ⟨256, 302, 2, 1, 0⟩, ⟨306, 310, 2, 1, 0⟩, ⟨330, 374, 2, 1, 0⟩, ⟨7680, 7828, 2, 1, 0⟩, ⟨313, 327, 2, 1, 0⟩, ⟨377, 381, 2, 1, 0⟩, ⟨255, 255, 1, 121, 0⟩, ⟨223, 223, 1, 7615, 0⟩, ⟨181, 181, 1, 775, 0⟩, ⟨931, 931, 1, 31, 0⟩, ⟨83, 83, 1, 300, 0⟩, ⟨75, 75, 1, 8415, 0⟩, ⟨197, 197, 1, 8294, 0⟩]
theorem refL_eq : thistleref03_Rules.f = some refL := rfl
theorem names_out (r : S55) (n : Int) (h : n < r.f0 ∨ r.f1 < n) : thistleref03_names.f r.f0 r.f1 r.f2 r.f3 r.f4 n = some false := by
  unfold thistleref03_names.f
  rcases h with h | h
  · rw [if_neg (by omega)]
  · split
    · rw [if_neg (by omega)]
    · rfl
theorem partners_step (u : Int) (RL : List S55) (hl : RL.length ≤ 1000) (h : (u < 0 ∨ 1114111 < u) ∨ ∀ r ∈ RL, thistleref03_names.f r.f0 r.f1 r.f2 r.f3 r.f4 u = some false ∧ thistleref03_names.f r.f0 r.f1 r.f2 r.f3 r.f4 (wrap32 (u - r.f3)) = some false) :
    ∀ (m i k : Nat), i + m = RL.length → 2 * m + 1 ≤ k → thistleref03_partners.l0 k u [] RL (i : Int) = some []
  | 0, i, k + 1, hi, _ => by
    rw [thistleref03_partners.l0, if_neg (by omega)]
  | m + 1, i, k + 2, hi, hk => by
    have hlt : i < RL.length := by omega
    rw [thistleref03_partners.l0, if_pos (by omega), if_pos (by omega)]
    have hw : wrap64 ((i : Int) + 1) = ((i + 1 : Nat) : Int) := by unfold wrap64; omega
    have ih := partners_step u RL hl h m (i + 1) k (by omega) (by omega)
    have hrd : rd_T55 RL (i : Int) ∈ RL := by
      unfold rd_T55
      rw [Int.toNat_natCast, List.getD_eq_getElem?_getD, List.getElem?_eq_getElem hlt]
      exact List.getElem_mem hlt
    generalize rd_T55 RL (i : Int) = r at hrd
    by_cases hu : u < 0
    · rw [if_pos hu, thistleref03_partners.j1, if_pos rfl, hw]
      exact ih
    · rw [if_neg hu, thistleref03_partners.j1]
      by_cases hu2 : u > 1114111
      · rw [if_pos (by simpa using hu2), hw]
        exact ih
      · rw [if_neg (by simpa using hu2)]
        rcases h with h | h
        · omega
        · have hr := h r hrd
          rw [hr.1]
          simp only [Option.bind_some, Bool.false_eq_true, if_false]
          rw [hr.2]
          simp only [Option.bind_some, Bool.false_eq_true, if_false]
          rw [hw]
          exact ih
theorem partners_out (u : Int) (h : Out u) (a : -2147483648 ≤ u) (b : u ≤ 2147483647) : thistleref03_partners.f 50 u = some [] := by
  unfold thistleref03_partners.f
  rw [refL_eq, Option.bind_some]
  have e : ((0 : Nat) : Int) = 0 := rfl
  rw [← e]
  refine partners_step u refL (by decide) ?_ 20 0 50 (by decide) (by omega)
  obtain ⟨h1, h2, h3, h4, h5, h6, h7, h8⟩ := h
  by_cases hu : u < 0 ∨ 1114111 < u
  · exact .inl hu
  · right
    intro r hr
    unfold refL at hr
    simp only [List.mem_cons, List.not_mem_nil, or_false] at hr
    rcases hr with rfl | rfl | rfl | rfl | rfl | rfl | rfl | rfl | rfl | rfl | rfl | rfl | rfl | rfl | rfl | rfl | rfl | rfl | rfl | rfl <;> exact ⟨names_out _ _ (by dsimp only; omega), names_out _ _ (by dsimp only; unfold wrap32; omega)⟩
theorem reforbit_out (u : Int) (h : thistleref03_partners.f 50 u = some []) : thistleref03_Orbit.f 60 u = some [u] := by
  unfold thistleref03_Orbit.f
  have h0 : thistleref03_partners.f 59 (rd [u] 0) = some [] := up_partners 50 59 (by omega) u [] h
  rw [thistleref03_Orbit.l0, if_pos (by simp), if_pos (by omega), h0]
  rw [Option.bind_some]
  rw [thistleref03_Orbit.l1, if_neg (by simp)]
  rw [show wrap64 (0 + 1) = 1 by simp [wrap64]]
  rw [thistleref03_Orbit.l0, if_neg (by simp)]
  rw [thistleref03_Orbit.l2, if_pos (by simp)]
  rw [thistleref03_Orbit.l3, if_neg (by omega)]
  rw [show wrap64 (0 + 1) = 1 by simp [wrap64]]
  rw [thistleref03_Orbit.l2, if_neg (by simp)]
def chk (k : Nat) (u : Int) : Bool :=
  match fold_Next.f k u, thistleref03_Next.f k u, fold_Least.f k u, thistleref03_Least.f k u, fold_Orbit.f k u, thistleref03_Orbit.f k u with
  | some n, some n', some l, some l', some o, some o' => n == n' && (l == l' && (o == o' && (thistleref02_SameRunes.f k o o == some true)))
  | _, _, _, _, _, _ => false
theorem chk1 : ((span 65 58).all fun u => chk 70 u) = true := by kernel_rfl
theorem chk2 : ((span 181 203).all fun u => chk 70 u) = true := by kernel_rfl
theorem chk3 : ((span 913 57).all fun u => chk 70 u) = true := by kernel_rfl
theorem chk4 : ((span 1024 96).all fun u => chk 70 u) = true := by kernel_rfl
theorem chk5 : ((span 7680 159).all fun u => chk 70 u) = true := by kernel_rfl
theorem chk6 : ((span 8490 2).all fun u => chk 70 u) = true := by kernel_rfl
theorem chk7 : ((span 65313 58).all fun u => chk 70 u) = true := by kernel_rfl
theorem chk8 : ((span 66560 80).all fun u => chk 70 u) = true := by kernel_rfl
theorem in_or_out (u : Int) : Out u ∨ u ∈ span 65 58 ∨ u ∈ span 181 203 ∨ u ∈ span 913 57 ∨ u ∈ span 1024 96 ∨ u ∈ span 7680 159 ∨ u ∈ span 8490 2 ∨ u ∈ span 65313 58 ∨ u ∈ span 66560 80 := by
  by_cases h1 : 65 ≤ u ∧ u < 65 + ((58 : Nat) : Int)
  · exact .inr (.inl (span_mem _ _ _ h1.1 h1.2))
  by_cases h2 : 181 ≤ u ∧ u < 181 + ((203 : Nat) : Int)
  · exact .inr (.inr (.inl (span_mem _ _ _ h2.1 h2.2)))
  by_cases h3 : 913 ≤ u ∧ u < 913 + ((57 : Nat) : Int)
  · exact .inr (.inr (.inr (.inl (span_mem _ _ _ h3.1 h3.2))))
  by_cases h4 : 1024 ≤ u ∧ u < 1024 + ((96 : Nat) : Int)
  · exact .inr (.inr (.inr (.inr (.inl (span_mem _ _ _ h4.1 h4.2)))))
  by_cases h5 : 7680 ≤ u ∧ u < 7680 + ((159 : Nat) : Int)
  · exact .inr (.inr (.inr (.inr (.inr (.inl (span_mem _ _ _ h5.1 h5.2))))))
  by_cases h6 : 8490 ≤ u ∧ u < 8490 + ((2 : Nat) : Int)
  · exact .inr (.inr (.inr (.inr (.inr (.inr (.inl (span_mem _ _ _ h6.1 h6.2)))))))
  by_cases h7 : 65313 ≤ u ∧ u < 65313 + ((58 : Nat) : Int)
  · exact .inr (.inr (.inr (.inr (.inr (.inr (.inr (.inl (span_mem _ _ _ h7.1 h7.2))))))))
  by_cases h8 : 66560 ≤ u ∧ u < 66560 + ((80 : Nat) : Int)
  · exact .inr (.inr (.inr (.inr (.inr (.inr (.inr (.inr (span_mem _ _ _ h8.1 h8.2))))))))
  left
  unfold Out
  omega
theorem chk_out (u : Int) (h : Out u) (a : -2147483648 ≤ u) (b : u ≤ 2147483647) : chk 70 u = true := by
  have h1 : fold_Orbit.f 70 u = some [u] := up (f := fun k => fold_Orbit.f k u) (fun k => fold_Orbit.mono u k) (by omega : 20 ≤ 70) (orbit_out u (bsL_out u h a b))
  have h2 : thistleref03_Orbit.f 70 u = some [u] := up (f := fun k => thistleref03_Orbit.f k u) (fun k => thistleref03_Orbit.mono u k) (by omega : 60 ≤ 70) (reforbit_out u (partners_out u h a b))
  have i1 : slices_Index_rune_rune.f 70 [u] u = some 0 := by
    unfold slices_Index_rune_rune.f
    rw [slices_Index_rune_rune.l0]
    simp [rd]
  have n1 : fold_Next.f 70 u = some u := by
    unfold fold_Next.f
    rw [h1, Option.bind_some, i1]
    simp [wrap64, rd]
  have l1 : fold_Least.f 70 u = some u := by
    unfold fold_Least.f
    rw [h1]
    simp [rd]
  have n2 : thistleref03_Next.f 70 u = some u := by
    unfold thistleref03_Next.f
    rw [h2, Option.bind_some, thistleref03_Next.l0]
    simp [wrap64, rd]
  have l2 : thistleref03_Least.f 70 u = some u := by
    unfold thistleref03_Least.f
    rw [h2]
    simp [rd]
  have s1 : thistleref02_SameRunes.f 70 [u] [u] = some true := by
    unfold thistleref02_SameRunes.f
    rw [if_pos rfl, thistleref02_SameRunes.l0, if_pos (by simp), if_pos (by omega), if_pos (by simp), if_pos rfl, show wrap64 (0 + 1) = 1 by simp [wrap64], thistleref02_SameRunes.l0, if_neg (by simp)]
  unfold chk
  rw [h1, h2, n1, l1, n2, l2]
  simp [s1]
theorem chk_all (u : Int) (a : -2147483648 ≤ u) (b : u ≤ 2147483647) : chk 70 u = true := by
  rcases in_or_out u with h | h | h | h | h | h | h | h | h
  · exact chk_out u h a b
  · exact List.all_eq_true.mp chk1 u h
  · exact List.all_eq_true.mp chk2 u h
  · exact List.all_eq_true.mp chk3 u h
  · exact List.all_eq_true.mp chk4 u h
  · exact List.all_eq_true.mp chk5 u h
  · exact List.all_eq_true.mp chk6 u h
  · exact List.all_eq_true.mp chk7 u h
  · exact List.all_eq_true.mp chk8 u h
theorem chk_get (u : Int) (h : chk 70 u = true) : ∃ n l o, fold_Next.f 70 u = some n ∧ thistleref03_Next.f 70 u = some n ∧ fold_Least.f 70 u = some l ∧ thistleref03_Least.f 70 u = some l ∧ fold_Orbit.f 70 u = some o ∧ thistleref03_Orbit.f 70 u = some o ∧ thistleref02_SameRunes.f 70 o o = some true := by
  unfold chk at h
  cases h1 : fold_Next.f 70 u with
  | none => rw [h1] at h; simp at h
  | some n =>
  cases h2 : thistleref03_Next.f 70 u with
  | none => rw [h1, h2] at h; simp at h
  | some n' =>
  cases h3 : fold_Least.f 70 u with
  | none => rw [h1, h2, h3] at h; simp at h
  | some l =>
  cases h4 : thistleref03_Least.f 70 u with
  | none => rw [h1, h2, h3, h4] at h; simp at h
  | some l' =>
  cases h5 : fold_Orbit.f 70 u with
  | none => rw [h1, h2, h3, h4, h5] at h; simp at h
  | some o =>
  cases h6 : thistleref03_Orbit.f 70 u with
  | none => rw [h1, h2, h3, h4, h5, h6] at h; simp at h
  | some o' =>
  rw [h1, h2, h3, h4, h5, h6] at h
  simp only [Bool.and_eq_true, beq_iff_eq] at h
  obtain ⟨rfl, rfl, rfl, h7⟩ := h
  exact ⟨n, l, o, rfl, rfl, rfl, rfl, rfl, rfl, h7⟩
theorem awake_ok : thistlelaw03_awake.f 60 = some true := by kernel_rfl
end Go.Proofs.Ytpfhppgklklhcaa.XF
