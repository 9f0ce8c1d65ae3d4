/- NamedOf in plain Lean: whatever number is asked, the law says true. -/
import Derived.Test.YtoonmdkcacafeaaDoorXNPNames
import Derived.Test.YtoonmdkcacafeaaDoorXN3
namespace Go.Proofs.YtoonmdkcacafeaaDoor.XN
open Go.RowKit Go.Proofs.YtoonmdkcacafeaaDoorW.PrintWords Go.Proofs.YtoonmdkcacafeaaDoorW.PrintLast
set_option linter.unusedVariables false
set_option linter.unusedSimpArgs false
theorem names_less : ((List.range 19).all fun i => Op.bytesLess ((rdOf ByteArray.empty classNames (i : Int)).toList) ((rdOf ByteArray.empty classNames ((i + 1 : Nat) : Int)).toList)) = true := by kernel_rfl
theorem w64n (x : Int) (h0 : -1000 ≤ x) (h1 : x ≤ 100000) : wrap64 x = x := by unfold wrap64; omega
theorem nof_loop (u : Int) : ∀ (m i k : Nat), i + m = 20 → 3 * m + 70 ≤ k → thistlelaw04_NamedOf.l0 k u classNames (selL u classTab) ((selL u (classTab.take i)).length : Int) (i : Int) = some true
  | 0, i, k + 1, hi, _ => by
    obtain rfl : i = 20 := by omega
    rw [thistlelaw04_NamedOf.l0, if_neg (by rw [show classNames.length = 20 from rfl]; omega), List.take_of_length_le (by rw [tab_len]; omega), if_pos rfl]
    rfl
  | m + 1, i, k + 3, hi, hk => by
    have hc : classNames.length = 20 := rfl
    have hlt : i < classTab.length := by rw [tab_len]; omega
    have hmem : classTab[i] ∈ classTab := List.getElem_mem hlt
    have hn := names_at i hlt
    have hsp := sel_split u i hlt
    have htk := sel_take u i hlt
    have hs20 : (selL u (classTab.take i)).length ≤ 20 := by
      unfold selL
      rw [List.length_map]
      refine Nat.le_trans (List.length_filter_le _ _) ?_
      rw [List.length_take]
      omega
    have ih := nof_loop u m (i + 1) k (by omega) (by omega)
    have e1 : wrap64 ((i : Int) + 1) = ((i + 1 : Nat) : Int) := by rw [w64n _ (by omega) (by omega)]; omega
    have hj2 : thistlelaw04_NamedOf.j2 (k + 1) u classNames (selL u classTab) ((selL u (classTab.take i)).length : Int) (i : Int) (inL classTab[i].2 u) false = some true := by
      rw [htk] at ih
      cases hin : inL classTab[i].2 u with
      | true =>
        rw [hin, if_pos rfl, List.length_append, List.length_singleton] at ih
        rw [thistlelaw04_NamedOf.j2, if_neg (by simp), if_pos rfl, if_pos (by omega), if_pos (by omega), hn, e1, w64n _ (by omega) (by omega)]
        rw [show ((selL u (classTab.take i)).length : Int) + 1 = (((selL u (classTab.take i)).length + 1 : Nat) : Int) by omega, ih]
        by_cases hw : classTab[i].1.toList = [119, 111, 114, 100]
        · rw [if_pos hw, word_row _ hmem u hw, Option.bind_some, hin, if_neg (by simp)]
        · rw [if_neg hw]
      | false =>
        rw [hin, if_neg (by simp), List.append_nil] at ih
        rw [thistlelaw04_NamedOf.j2, if_neg (by simp), if_neg (by simp), if_pos (by omega), if_pos (by omega), hn, e1, ih]
        by_cases hw : classTab[i].1.toList = [119, 111, 114, 100]
        · rw [if_pos hw, word_row _ hmem u hw, Option.bind_some, hin, if_neg (by simp)]
        · rw [if_neg hw]
    have hj1 : thistlelaw04_NamedOf.j1 (k + 2) u classNames (selL u classTab) ((selL u (classTab.take i)).length : Int) (i : Int) false = some true := by
      rw [thistlelaw04_NamedOf.j1, if_neg (by simp), if_pos (by omega), if_pos (by omega), hn, class_at i hlt, Option.bind_some, has_row _ hmem u (k + 1) (by omega), Option.bind_some, if_pos rfl, if_pos rfl]
      cases hin : inL classTab[i].2 u with
      | true =>
        rw [hin] at hj2
        have hget : rdOf ByteArray.empty (selL u classTab) ((selL u (classTab.take i)).length : Int) = classTab[i].1 := by
          rw [hsp, hin, if_pos rfl]
          unfold rdOf
          rw [Int.toNat_natCast, List.getD_eq_getElem?_getD, List.getElem?_append_right (Nat.le_refl _), Nat.sub_self]
          rfl
        have hlen : (selL u (classTab.take i)).length < (selL u classTab).length := by
          rw [hsp, hin, if_pos rfl]
          simp
        rw [if_pos rfl, if_neg (by omega), if_pos (by omega), if_pos (by omega), hget, bne_self_eq_false]
        exact hj2
      | false =>
        rw [hin] at hj2
        rw [if_neg (by simp)]
        exact hj2
    rw [thistlelaw04_NamedOf.l0, if_pos (by omega)]
    by_cases h0 : i = 0
    · rw [if_neg (by omega)]
      exact hj1
    · have hb := List.all_eq_true.mp names_less (i - 1) (List.mem_range.mpr (by omega))
      rw [show ((i - 1 + 1 : Nat) : Int) = (i : Int) by omega] at hb
      rw [if_pos (by omega), if_pos (by omega), show wrap64 ((i : Int) - 1) = ((i - 1 : Nat) : Int) by rw [w64n _ (by omega) (by omega)]; omega, if_pos (by omega), if_pos (by omega), hb]
      exact hj1
theorem pure_NamedOf (u : Int) (h : (Lit.int .i32 u).wf = true) : ∃ k, thistlelaw04_NamedOf.f k u = some true := by
  refine ⟨200, ?_⟩
  unfold thistlelaw04_NamedOf.f
  rw [show thistlelaw04_awake.f = some true by kernel_rfl, Option.bind_some, if_pos rfl, show named_Names.f = some classNames from rfl, Option.bind_some, of_eq 200 (by omega) u, Option.bind_some]
  exact nof_loop u 20 0 200 (by omega) (by omega)
end Go.Proofs.YtoonmdkcacafeaaDoor.XN
