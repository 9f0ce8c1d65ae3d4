/- FoldRings in plain Lean: whatever number is asked, the law says true. -/
import Derived.Test.YtpfhppgklklhcaaXFPOrbits
import Derived.Test.YtpfhppgklklhcaaXF8
namespace Go.Proofs.Ytpfhppgklklhcaa.XF
open Go.RowKit Go.Proofs.YtpfhppgklklhcaaW.PrintWords Go.Proofs.YtpfhppgklklhcaaW.PrintLast
set_option linter.unusedVariables false
set_option linter.unusedSimpArgs false
def ringF (k : Nat) (a0 : Int) : Option Bool := (fold_Orbit.f k a0).bind fun t216 => (if (t216.length : Int) = 0 then (thistlelaw03_FoldRings.j0 k a0 t216 true) else (if (t216.length : Int) > 3 then (thistlelaw03_FoldRings.j0 k a0 t216 true) else ((fold_Least.f k a0).bind fun t219 => (if 0 < (t216.length : Int) then (thistlelaw03_FoldRings.j0 k a0 t216 (t219 != (rd t216 0))) else (none)))))
theorem ringF_eq (k : Nat) (a0 : Int) (h : thistlelaw03_awake.f k = some true) : thistlelaw03_FoldRings.f k a0 = ringF k a0 := by
  unfold thistlelaw03_FoldRings.f ringF
  rw [h, Option.bind_some, if_pos rfl]
theorem ring1 : ((span 65 58).all fun u => ringF 90 u == some true) = true := by kernel_rfl
theorem ring2 : ((span 181 203).all fun u => ringF 90 u == some true) = true := by kernel_rfl
theorem ring3 : ((span 913 57).all fun u => ringF 90 u == some true) = true := by kernel_rfl
theorem ring4 : ((span 1024 96).all fun u => ringF 90 u == some true) = true := by kernel_rfl
theorem ring5 : ((span 7680 159).all fun u => ringF 90 u == some true) = true := by kernel_rfl
theorem ring6 : ((span 8490 2).all fun u => ringF 90 u == some true) = true := by kernel_rfl
theorem ring7 : ((span 65313 58).all fun u => ringF 90 u == some true) = true := by kernel_rfl
theorem ring8 : ((span 66560 80).all fun u => ringF 90 u == some true) = true := by kernel_rfl
theorem ring_out (u : Int) (h : Out u) (a : -2147483648 ≤ u) (b : u ≤ 2147483647) : ringF 90 u = some true := by
  have hb := bsL_out u h a b
  have ho : ∀ k, 20 ≤ k → fold_Orbit.f k u = some [u] := fun k hk => up (f := fun k => fold_Orbit.f k u) (fun k => fold_Orbit.mono u k) hk (orbit_out u hb)
  have l1 : fold_Least.f 90 u = some u := by
    unfold fold_Least.f
    rw [ho 90 (by omega)]
    simp [rd]
  have i1 : ∀ k, slices_Index_rune_rune.f (k + 1) [u] u = some 0 := by
    intro k
    unfold slices_Index_rune_rune.f
    rw [slices_Index_rune_rune.l0]
    simp [rd]
  have n1 : ∀ k, 20 ≤ k → fold_Next.f (k + 1) u = some u := by
    intro k hk
    unfold fold_Next.f
    rw [ho (k + 1) (by omega), Option.bind_some, i1]
    simp [wrap64, rd]
  have s1 : ∀ k, thistleref02_SameRunes.f (k + 2) [u] [u] = some true := by
    intro k
    unfold thistleref02_SameRunes.f
    rw [if_pos rfl, thistleref02_SameRunes.l0, if_pos (by simp), if_pos (by omega), if_pos (by simp), if_pos rfl, show wrap64 (0 + 1) = 1 by simp [wrap64], thistleref02_SameRunes.l0, if_neg (by simp)]
  obtain ⟨iu, hiu⟩ : ∃ b, thistleref01_IsUnit.f u = some b := by
    unfold thistleref01_IsUnit.f thistleref01_IsChar.f
    repeat' split
    all_goals first | exact ⟨_, rfl⟩ | (simp only [Option.bind_some]; repeat' split) | skip
    all_goals first | exact ⟨_, rfl⟩ | skip
  have r0 : rd [u] 0 = u := by simp [rd]
  have l0 : thistlelaw03_FoldRings.l0 88 u [u] false 0 = some true := by
    rw [thistlelaw03_FoldRings.l0, if_pos (by simp), if_pos (by simp), show wrap64 (0 + 1) = 1 by simp [wrap64], if_neg (by simp), r0]
    rw [thistlelaw03_FoldRings.j3, if_pos (by omega), if_pos (by simp), r0, n1 85 (by omega), Option.bind_some, if_pos rfl, ho 86 (by omega), Option.bind_some, s1 84, Option.bind_some, if_pos rfl, if_neg (by simp), show wrap64 (0 + 1) = 1 by simp [wrap64]]
    rw [thistlelaw03_FoldRings.l0, if_neg (by simp)]
    simp
  have j1 : thistlelaw03_FoldRings.j1 89 u [u] false = some true := by
    rw [thistlelaw03_FoldRings.j1, if_neg (by simp)]
    exact l0
  unfold ringF
  rw [ho 90 (by omega), Option.bind_some, if_neg (by simp), if_neg (by simp), l1, Option.bind_some, if_pos (by simp), r0]
  rw [thistlelaw03_FoldRings.j0, if_neg (by simp), hiu, Option.bind_some]
  cases iu with
  | true => rw [if_pos rfl]; exact j1
  | false =>
    rw [if_neg (by simp), if_pos (by simp), if_pos (by simp), r0, show (u != u) = false by simp]
    exact j1
theorem ring_all (u : Int) (a : -2147483648 ≤ u) (b : u ≤ 2147483647) : ringF 90 u = some true := by
  rcases in_or_out u with h | h | h | h | h | h | h | h | h
  · exact ring_out u h a b
  · exact eq_of_beq (List.all_eq_true.mp ring1 u h)
  · exact eq_of_beq (List.all_eq_true.mp ring2 u h)
  · exact eq_of_beq (List.all_eq_true.mp ring3 u h)
  · exact eq_of_beq (List.all_eq_true.mp ring4 u h)
  · exact eq_of_beq (List.all_eq_true.mp ring5 u h)
  · exact eq_of_beq (List.all_eq_true.mp ring6 u h)
  · exact eq_of_beq (List.all_eq_true.mp ring7 u h)
  · exact eq_of_beq (List.all_eq_true.mp ring8 u h)
theorem foldRings_pure : thistlelaw03_FoldRings.Pure := by
  intro u hw
  have hb : -2147483648 ≤ u ∧ u ≤ 2147483647 := by
    simp [Lit.wf, IntKind.min, IntKind.max, IntKind.signed, IntKind.bits] at hw
    omega
  refine ⟨90, ?_⟩
  rw [ringF_eq 90 u (up (f := fun k => thistlelaw03_awake.f k) (fun k => thistlelaw03_awake.mono k) (by omega : 60 ≤ 90) awake_ok)]
  exact ring_all u hb.1 hb.2
theorem pure_FoldRings (u : Int) (h : (Lit.int .i32 u).wf = true) : ∃ k, thistlelaw03_FoldRings.f k u = some true := foldRings_pure u h
end Go.Proofs.Ytpfhppgklklhcaa.XF
