/- FoldUnits in plain Lean: whatever numbers are asked, the law's loop says true. -/
import Derived.Test.YtpfhppgklklhcaaXFPOrbits
import Derived.Test.YtpfhppgklklhcaaXF7
namespace Go.Proofs.Ytpfhppgklklhcaa.XF
open Go.RowKit Go.Proofs.YtpfhppgklklhcaaW.PrintWords Go.Proofs.YtpfhppgklklhcaaW.PrintLast
set_option linter.unusedVariables false
theorem units_loop (l0 : List Int) (hm : l0.length ≤ maxLen) (hw : ∀ x ∈ l0, (Lit.int .i32 x).wf = true) : ∀ (m i k : Nat), i + m = l0.length → 70 + m + 1 ≤ k → thistlelaw03_FoldUnits.l0 k l0 (i : Int) = some true
  | 0, i, k + 1, hi, _ => by
    rw [thistlelaw03_FoldUnits.l0, if_neg (by omega)]
  | m + 1, i, k + 1, hi, hk => by
    have hlt : i < l0.length := by omega
    rw [thistlelaw03_FoldUnits.l0, if_pos (by omega), if_pos (by omega)]
    have hw2 : wrap64 ((i : Int) + 1) = ((i + 1 : Nat) : Int) := by unfold maxLen at hm; unfold wrap64; omega
    have hrd : rd l0 (i : Int) ∈ l0 := by
      unfold rd
      rw [Int.toNat_natCast, List.getD_eq_getElem?_getD, List.getElem?_eq_getElem hlt]
      exact List.getElem_mem hlt
    have hr := hw _ hrd
    generalize rd l0 (i : Int) = u at hr
    have hb : -2147483648 ≤ u ∧ u ≤ 2147483647 := by
      simp [Lit.wf, IntKind.min, IntKind.max, IntKind.signed, IntKind.bits] at hr
      omega
    obtain ⟨n, l, o, h1, h2, h3, h4, h5, h6, h7⟩ := chk_get u (chk_all u hb.1 hb.2)
    have hk2 : 70 ≤ k := by omega
    rw [up (f := fun k => fold_Next.f k u) (fun k => fold_Next.mono u k) hk2 h1, Option.bind_some]
    rw [up (f := fun k => thistleref03_Next.f k u) (fun k => thistleref03_Next.mono u k) hk2 h2, Option.bind_some, if_pos rfl]
    rw [up (f := fun k => fold_Least.f k u) (fun k => fold_Least.mono u k) hk2 h3, Option.bind_some]
    rw [up (f := fun k => thistleref03_Least.f k u) (fun k => thistleref03_Least.mono u k) hk2 h4, Option.bind_some, if_pos rfl]
    rw [up (f := fun k => fold_Orbit.f k u) (fun k => fold_Orbit.mono u k) hk2 h5, Option.bind_some]
    rw [up (f := fun k => thistleref03_Orbit.f k u) (fun k => thistleref03_Orbit.mono u k) hk2 h6, Option.bind_some]
    rw [up (f := fun k => thistleref02_SameRunes.f k o o) (fun k => thistleref02_SameRunes.mono o o k) hk2 h7, Option.bind_some, if_pos rfl, hw2]
    exact units_loop l0 hm hw m (i + 1) k (by omega) (by omega)
theorem foldUnits_pure : thistlelaw03_FoldUnits.Pure := by
  intro l0 hm _ hw
  refine ⟨70 + l0.length + 1, ?_⟩
  unfold thistlelaw03_FoldUnits.f
  rw [up (f := fun k => thistlelaw03_awake.f k) (fun k => thistlelaw03_awake.mono k) (by omega : 60 ≤ 70 + l0.length + 1) awake_ok, Option.bind_some, if_pos rfl]
  exact units_loop l0 hm hw l0.length 0 _ (by omega) (by omega)
theorem pure_FoldUnits (l0 : List Int) (h : l0.length ≤ maxLen ∧ ∀ x ∈ l0, (Lit.int .i32 x).wf = true) : ∃ k, thistlelaw03_FoldUnits.f k l0 = some true := by
  refine ⟨70 + l0.length + 1, ?_⟩
  unfold thistlelaw03_FoldUnits.f
  rw [up (f := fun k => thistlelaw03_awake.f k) (fun k => thistlelaw03_awake.mono k) (by omega : 60 ≤ 70 + l0.length + 1) awake_ok, Option.bind_some, if_pos rfl]
  exact units_loop l0 h.1 h.2 l0.length 0 _ (by omega) (by omega)
end Go.Proofs.Ytpfhppgklklhcaa.XF
