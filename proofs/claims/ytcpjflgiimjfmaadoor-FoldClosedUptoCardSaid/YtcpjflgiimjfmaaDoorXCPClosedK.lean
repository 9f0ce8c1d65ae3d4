/- Kernel counts for FoldClosed: the orbit of each number that a rule may name is the orbit of each of its numbers, and all but itself are named. -/
import Derived.Test.YtcpjflgiimjfmaaDoorXC8
import Derived.Test.YtcpjflgiimjfmaaDoorXC4
namespace Go.Proofs.YtcpjflgiimjfmaaDoor.XC
open Go.RowKit Go.Proofs.YtcpjflgiimjfmaaDoorW.PrintWords Go.Proofs.YtcpjflgiimjfmaaDoorW.PrintLast Go.Proofs.YtcpjflgiimjfmaaDoorW.PrintMore
set_option linter.unusedVariables false
set_option linter.unusedSimpArgs false
def Out (u : Int) : Prop := (u < 65 ∨ 122 < u) ∧ (u < 181 ∨ 383 < u) ∧ (u < 913 ∨ 969 < u) ∧ (u < 1024 ∨ 1119 < u) ∧ (u < 7680 ∨ 7838 < u) ∧ (u < 8490 ∨ 8491 < u) ∧ (u < 65313 ∨ 65370 < u) ∧ (u < 66560 ∨ 66639 < u)
theorem nm_out (r : FRule) (n : Int) (h : n < r.lo ∨ r.hi < n) : nm r n = false := by
  unfold nm
  rcases h with h | h
  · rw [decide_eq_false (show ¬ (n ≥ r.lo) by omega)]; simp
  · rw [decide_eq_false (show ¬ (n ≤ r.hi) by omega)]; simp
theorem bs_out (u : Int) (r : FRule) (h1 : u < r.lo ∨ r.hi < u) (h2 : u - r.far < r.lo ∨ r.hi < u - r.far) (a : -2147483648 ≤ u) (b : u ≤ 2147483647) (hf : 0 ≤ r.far) : bsUp u r = [] ∧ bsDown u r = [] := by
  constructor
  · unfold bsUp; rw [nm_out r u h1]; rfl
  · unfold bsDown
    split
    · rename_i hg
      have hw : wrap32 (u - r.far) = u - r.far := by unfold wrap32; omega
      rw [hw, nm_out r _ h2]; rfl
    · rfl
theorem bsL_nil (u : Int) : ∀ L : List FRule, (∀ r ∈ L, bsUp u r = [] ∧ bsDown u r = []) → bsL u L = []
  | [], _ => rfl
  | r :: L, h => by
    have h1 := h r List.mem_cons_self
    rw [bsL, h1.1, h1.2, bsL_nil u L (fun x hx => h x (List.mem_cons_of_mem _ hx))]
    rfl
theorem bsL_out (u : Int) (h : Out u) (a : -2147483648 ≤ u) (b : u ≤ 2147483647) : bsL u ruleL = [] := by
  apply bsL_nil
  obtain ⟨h1, h2, h3, h4, h5, h6, h7, h8⟩ := h
  intro r hr
  unfold ruleL at hr
  simp only [List.mem_cons, List.not_mem_nil, or_false] at hr
  rcases hr with rfl | rfl | rfl | rfl | rfl | rfl | rfl | rfl | rfl | rfl | rfl | rfl | rfl | rfl | rfl | rfl | rfl | rfl | rfl | rfl | rfl | rfl <;> exact bs_out u _ (by dsimp only; omega) (by dsimp only; omega) a b (by decide)
theorem orbit_out (u : Int) (h : bsL u ruleL = []) : fold_Orbit.f 20 u = some [u] := by
  have h0 : fold_beside.f (rd [u] 0) = some [] := by
    show some (bsL u ruleL) = some []
    rw [h]
  show fold_Orbit.l0 20 [u] 0 = some [u]
  rw [fold_Orbit.l0, if_pos (by simp), if_pos (by omega), h0]
  show fold_Orbit.l1 19 [u] 0 [] 0 0 = some [u]
  rw [fold_Orbit.l1, if_neg (by omega)]
  rw [show wrap64 (0 + 1) = 1 by simp [wrap64]]
  rw [fold_Orbit.l0, if_neg (by simp)]
  show (slices_Sort_rune.f 17 [u]).bind _ = _
  have h2 : slices_Sort_rune.f 17 [u] = some [u] := by
    unfold slices_Sort_rune.f
    rw [if_pos (by simp)]
    show slices_insertionSortOrdered_rune.f 17 [u] 0 1 = some [u]
    unfold slices_insertionSortOrdered_rune.f
    rw [slices_insertionSortOrdered_rune.l0]
    simp [wrap64]
  rw [h2]
  rfl
def span (a : Int) (n : Nat) : List Int := (List.range n).map (fun i : Nat => a + (i : Int))
theorem span_mem (a : Int) (n : Nat) (u : Int) (h0 : a ≤ u) (h1 : u < a + (n : Int)) : u ∈ span a n := by
  unfold span
  rw [List.mem_map]
  exact ⟨(u - a).toNat, List.mem_range.mpr (by omega), by omega⟩
theorem in_or_out (u : Int) : Out u ∨ u ∈ span 65 58 ∨ u ∈ span 181 203 ∨ u ∈ span 913 57 ∨ u ∈ span 1024 96 ∨ u ∈ span 7680 159 ∨ u ∈ span 8490 2 ∨ u ∈ span 65313 58 ∨ u ∈ span 66560 80 := by
  by_cases h1 : 65 ≤ u ∧ u < 65 + ((58 : Nat) : Int)
  · exact .inr (.inl (span_mem _ _ _ h1.1 h1.2))
  by_cases h2 : 181 ≤ u ∧ u < 181 + ((203 : Nat) : Int)
  · exact .inr (.inr (.inl (span_mem _ _ _ h2.1 h2.2)))
  by_cases h3 : 913 ≤ u ∧ u < 913 + ((57 : Nat) : Int)
  · exact .inr (.inr (.inr (.inl (span_mem _ _ _ h3.1 h3.2))))
  by_cases h4 : 1024 ≤ u ∧ u < 1024 + ((96 : Nat) : Int)
  · exact .inr (.inr (.inr (.inr (.inl (span_mem _ _ _ h4.1 h4.2)))))
  by_cases h5 : 7680 ≤ u ∧ u < 7680 + ((159 : Nat) : Int)
  · exact .inr (.inr (.inr (.inr (.inr (.inl (span_mem _ _ _ h5.1 h5.2))))))
  by_cases h6 : 8490 ≤ u ∧ u < 8490 + ((2 : Nat) : Int)
  · exact .inr (.inr (.inr (.inr (.inr (.inr (.inl (span_mem _ _ _ h6.1 h6.2)))))))
  by_cases h7 : 65313 ≤ u ∧ u < 65313 + ((58 : Nat) : Int)
  · exact .inr (.inr (.inr (.inr (.inr (.inr (.inr (.inl (span_mem _ _ _ h7.1 h7.2))))))))
  by_cases h8 : 66560 ≤ u ∧ u < 66560 + ((80 : Nat) : Int)
  · exact .inr (.inr (.inr (.inr (.inr (.inr (.inr (.inr (span_mem _ _ _ h8.1 h8.2))))))))
  left
  unfold Out
  omega
namespace FSets
def U : List Int := FC.unitsFrom 0
def orb (u : Int) : List Int := (fold_Orbit.f 70 u).getD []
def okC (u : Int) : Bool := match fold_Orbit.f 70 u with
  | some o => decide (o.length ≤ 3) && (o.contains u && o.all fun x => (x == u) || (U.contains x && (match fold_Orbit.f 70 x with
    | some o2 => o2 == o
    | none => false)))
  | none => false
def inH (u : Int) : Bool := (decide (65 ≤ u) && decide (u ≤ 122)) || (decide (181 ≤ u) && decide (u ≤ 383)) || (decide (913 ≤ u) && decide (u ≤ 969)) || (decide (1024 ≤ u) && decide (u ≤ 1119)) || (decide (7680 ≤ u) && decide (u ≤ 7838)) || (decide (8490 ≤ u) && decide (u ≤ 8491)) || (decide (65313 ≤ u) && decide (u ≤ 65370)) || (decide (66560 ≤ u) && decide (u ≤ 66639))
set_option maxRecDepth 100000 in
theorem u_hull : U.all inH = true := by kernel_rfl
set_option maxRecDepth 100000 in
theorem u_count : decide (U.length ≤ 2000) = true := by kernel_rfl
set_option maxRecDepth 100000 in
theorem c1 : ((span 65 58).all okC) = true := by kernel_rfl
set_option maxRecDepth 100000 in
theorem c2 : ((span 181 203).all okC) = true := by kernel_rfl
set_option maxRecDepth 100000 in
theorem c3 : ((span 913 57).all okC) = true := by kernel_rfl
set_option maxRecDepth 100000 in
theorem c4 : ((span 1024 96).all okC) = true := by kernel_rfl
set_option maxRecDepth 100000 in
theorem c5 : ((span 7680 159).all okC) = true := by kernel_rfl
set_option maxRecDepth 100000 in
theorem c6 : ((span 8490 2).all okC) = true := by kernel_rfl
set_option maxRecDepth 100000 in
theorem c7 : ((span 65313 58).all okC) = true := by kernel_rfl
set_option maxRecDepth 100000 in
theorem c8 : ((span 66560 80).all okC) = true := by kernel_rfl
end FSets
end Go.Proofs.YtcpjflgiimjfmaaDoor.XC
