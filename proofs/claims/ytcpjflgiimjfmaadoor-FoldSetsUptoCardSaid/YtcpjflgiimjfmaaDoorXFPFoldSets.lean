/- FoldSets in plain Lean: within the form's bound the law's loop says true. -/
import Derived.Test.YtcpjflgiimjfmaaDoorXFPCloseB
import Derived.Test.YtcpjflgiimjfmaaDoorXF17
import Derived.Test.YtcpjflgiimjfmaaDoorXLibOpen
namespace Go.Proofs.YtcpjflgiimjfmaaDoor.XF
open Go.RowKit Go.Proofs.YtcpjflgiimjfmaaDoorW.PrintWords Go.Proofs.YtcpjflgiimjfmaaDoorW.PrintLast Go.Proofs.YtcpjflgiimjfmaaDoorW.PrintMore XSets XM
set_option linter.unusedVariables false
set_option linter.unusedSimpArgs false
namespace FSets
theorem same_ev (l : List Rg) (hlen : l.length ≤ 1000000000) : ∀ (n i : Nat), i + n = l.length → Ev (fun k => thistleref02_SameRanges.l0 k l l (i : Int)) true
 | 0, i, hi => by
  refine ⟨1, fun k hk => ?_⟩
  obtain ⟨k, rfl⟩ : ∃ m, k = m + 1 := ⟨k - 1, by omega⟩
  show thistleref02_SameRanges.l0 (k + 1) l l (i : Int) = _
  rw [thistleref02_SameRanges.l0, if_neg (by omega)]
 | n + 1, i, hi => by
  have hw1 : wrap64 ((i : Int) + 1) = ((i + 1 : Nat) : Int) := by rw [w64i _ (by omega) (by omega)]; omega
  obtain ⟨K, h⟩ := same_ev l hlen n (i + 1) (by omega)
  refine ⟨K + 1, fun k hk => ?_⟩
  obtain ⟨k, rfl⟩ : ∃ m, k = m + 1 := ⟨k - 1, by omega⟩
  show thistleref02_SameRanges.l0 (k + 1) l l (i : Int) = _
  rw [thistleref02_SameRanges.l0, if_pos (by omega), if_pos (by omega), if_pos (by omega), if_neg (by simp), hw1]
  exact h k (by omega)
theorem awake_sets : thistlelaw03_awake.f 60 = some true := by kernel_rfl
theorem sets_go (L : List (List Rg)) (hL : L.length ≤ 5000000) (hw : ∀ l ∈ L, (∀ x ∈ l, wR x) ∧ l.length ≤ 5000000) : ∀ (n i : Nat), i + n = L.length → Ev (fun k => thistlelaw03_FoldSets.l0 k L (i : Int)) true
 | 0, i, hi => by
  refine ⟨1, fun k hk => ?_⟩
  obtain ⟨k, rfl⟩ : ∃ m, k = m + 1 := ⟨k - 1, by omega⟩
  show thistlelaw03_FoldSets.l0 (k + 1) L (i : Int) = _
  rw [thistlelaw03_FoldSets.l0, if_neg (by omega)]
 | n + 1, i, hi => by
  have hlt : i < L.length := by omega
  have hw1 : wrap64 ((i : Int) + 1) = ((i + 1 : Nat) : Int) := by rw [w64i _ (by omega) (by omega)]; omega
  have hrd := rdL_get L i hlt
  obtain ⟨h1, h2⟩ := hw _ (List.getElem_mem hlt)
  obtain ⟨r, e, ⟨K1, g1⟩, ⟨K2, g2⟩, hrl⟩ := close_ev2 L[i] h1 h2
  obtain ⟨K3, g3⟩ := same_ev r hrl r.length 0 (by omega)
  obtain ⟨K, ih⟩ := sets_go L hL hw n (i + 1) (by omega)
  refine ⟨K + K1 + K2 + K3 + 1, fun k hk => ?_⟩
  obtain ⟨k, rfl⟩ : ∃ m, k = m + 1 := ⟨k - 1, by omega⟩
  have g1 := g1 k (by omega)
  have g2 := g2 k (by omega)
  have g3 : thistleref02_SameRanges.f k r r = some true := by
   unfold thistleref02_SameRanges.f
   rw [if_pos rfl]
   exact g3 k (by omega)
  simp only at g1 g2
  have gc : thistleref02_CopyRanges.f L[i] = some L[i] := by
   unfold thistleref02_CopyRanges.f
   rw [Option.bind_some, if_pos (by simp only [List.length_nil]; omega), List.nil_append]
  show thistlelaw03_FoldSets.l0 (k + 1) L (i : Int) = _
  rw [thistlelaw03_FoldSets.l0, if_pos (by omega), if_pos (by omega), hrd, g2, Option.bind_some, gc, Option.bind_some, g1, Option.bind_some, if_pos rfl, g3, Option.bind_some, if_pos rfl, hw1]
  exact ih k (by omega)
end FSets
theorem pure_FoldSets (x0 : List (List S41)) (h0 : x0.length ≤ maxLen ∧ ∀ x ∈ x0, (x.length ≤ maxLen ∧ ∀ y ∈ x, (Lit.int .i32 y.f0).wf = true ∧ (Lit.int .i32 y.f1).wf = true))
  (h : XLib.sumMu (fun l : List S41 => XLib.sumMu (fun x : S41 => ((fun _ : Int => 1) x.f0 + (fun _ : Int => 1) x.f1) + 1) l + 1) x0 + 1 ≤ 1048576) : ∃ k, thistlelaw03_FoldSets.f k x0 = some true := by
 have hlen := XLib.sumMu_length (fun l : List S41 => XLib.sumMu (fun x : S41 => ((fun _ : Int => 1) x.f0 + (fun _ : Int => 1) x.f1) + 1) l + 1) (fun x => by omega) x0
 have hin : ∀ l ∈ x0, (∀ x ∈ l, XM.wR x) ∧ l.length ≤ 5000000 := by
  intro l hl
  constructor
  ·intro x hx
   obtain ⟨a, b⟩ := (h0.2 l hl).2 x hx
   simp [Lit.wf, IntKind.min, IntKind.max, IntKind.signed, IntKind.bits] at a b
   unfold XM.wR XM.w32
   omega
  ·have h1 := XLib.sumMu_mem (fun l : List S41 => XLib.sumMu (fun x : S41 => ((fun _ : Int => 1) x.f0 + (fun _ : Int => 1) x.f1) + 1) l + 1) hl
   have h2 := XLib.sumMu_length (fun x : S41 => ((fun _ : Int => 1) x.f0 + (fun _ : Int => 1) x.f1) + 1) (fun x => by omega) l
   simp only at h h1 h2
   omega
 obtain ⟨K, g⟩ := FSets.sets_go x0 (by omega) hin x0.length 0 (by omega)
 refine ⟨K + 60, ?_⟩
 unfold thistlelaw03_FoldSets.f
 rw [upHas (g := fun k => thistlelaw03_awake.f k) (fun k => thistlelaw03_awake.mono k) FSets.awake_sets (K + 60) (by omega), Option.bind_some, if_pos rfl]
 exact g (K + 60) (by omega)
end Go.Proofs.YtcpjflgiimjfmaaDoor.XF
