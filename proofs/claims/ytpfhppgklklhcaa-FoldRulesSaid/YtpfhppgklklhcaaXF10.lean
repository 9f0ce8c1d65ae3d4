/- WRITTEN BY A PROGRAM OF THIS SESSION (wip/tools/xprint.py, over the kit's printer): contracts of the functions that the seat's laws reach. -/
import Derived.Test.YtpfhppgklklhcaaXF0
import Derived.Test.YtpfhppgklklhcaaXF1
import Derived.Test.YtpfhppgklklhcaaXF3
import Derived.Test.YtpfhppgklklhcaaXF4
import Derived.Test.YtpfhppgklklhcaaXF9
namespace Go.Proofs.Ytpfhppgklklhcaa.XF
open Go.RowKit Go.Proofs.YtpfhppgklklhcaaW.PrintWords Go.Proofs.YtpfhppgklklhcaaW.PrintLast Go.Proofs.YtpfhppgklklhcaaW.PrintMore
attribute [local go_sem] max2_int min2_int max_two min_two max_three min_three max_four min_four   -- for this text's walks alone
set_option linter.unusedVariables false
set_option linter.unusedSimpArgs false

/-! ### thistlelaw03_FoldRules: function 5 -/
mutual
def thistlelaw03_FoldRules.j0 : Nat → Bool → Option (Bool)
  | 0, _ => none
  | k + 1, x1 => (thistlelaw03_pairs.f k 65 10 1 32 0).bind fun t240 => (if t240 = true then ((thistlelaw03_pairs.f k 76 7 1 32 0).bind fun t241 => (if t241 = true then ((thistlelaw03_pairs.f k 84 7 1 32 0).bind fun t242 => (if t242 = true then ((thistlelaw03_pairs.f k 192 5 1 32 0).bind fun t243 => (if t243 = true then ((thistlelaw03_pairs.f k 198 25 1 32 215).bind fun t244 => (thistlelaw03_FoldRules.j1 k x1 t244)) else (thistlelaw03_FoldRules.j1 k x1 false))) else (thistlelaw03_FoldRules.j1 k x1 false))) else (thistlelaw03_FoldRules.j1 k x1 false))) else (thistlelaw03_FoldRules.j1 k x1 false))
def thistlelaw03_FoldRules.j1 : Nat → Bool → Bool → Option (Bool)
  | 0, _, _ => none
  | k + 1, x1, x2 => (thistlelaw03_pairs.f k 1040 32 1 32 0).bind fun t245 => (if t245 = true then ((thistlelaw03_pairs.f k 65313 26 1 32 0).bind fun t246 => (if t246 = true then ((thistlelaw03_pairs.f k 1024 16 1 80 0).bind fun t247 => (if t247 = true then ((thistlelaw03_pairs.f k 66560 40 1 40 0).bind fun t248 => (thistlelaw03_FoldRules.j2 k x1 x2 t248)) else (thistlelaw03_FoldRules.j2 k x1 x2 false))) else (thistlelaw03_FoldRules.j2 k x1 x2 false))) else (thistlelaw03_FoldRules.j2 k x1 x2 false))
def thistlelaw03_FoldRules.j2 : Nat → Bool → Bool → Bool → Option (Bool)
  | 0, _, _, _ => none
  | k + 1, x1, x2, x3 => (thistlelaw03_pairs.f k 256 48 2 1 0).bind fun t249 => (if t249 = true then ((thistlelaw03_pairs.f k 306 6 2 1 0).bind fun t250 => (if t250 = true then ((thistlelaw03_pairs.f k 330 46 2 1 0).bind fun t251 => (if t251 = true then ((thistlelaw03_pairs.f k 7680 150 2 1 0).bind fun t252 => (if t252 = true then ((thistlelaw03_pairs.f k 313 16 2 1 0).bind fun t253 => (if t253 = true then ((thistlelaw03_pairs.f k 377 6 2 1 0).bind fun t254 => (thistlelaw03_FoldRules.j3 k x1 x2 x3 t254)) else (thistlelaw03_FoldRules.j3 k x1 x2 x3 false))) else (thistlelaw03_FoldRules.j3 k x1 x2 x3 false))) else (thistlelaw03_FoldRules.j3 k x1 x2 x3 false))) else (thistlelaw03_FoldRules.j3 k x1 x2 x3 false))) else (thistlelaw03_FoldRules.j3 k x1 x2 x3 false))
def thistlelaw03_FoldRules.j3 : Nat → Bool → Bool → Bool → Bool → Option (Bool)
  | 0, _, _, _, _ => none
  | k + 1, x1, x2, x3, x4 => (fold_Next.f k 255).bind fun t255 => (if t255 = 376 then ((fold_Next.f k 376).bind fun t256 => (if t256 = 255 then ((fold_Next.f k 223).bind fun t257 => (if t257 = 7838 then ((fold_Next.f k 7838).bind fun t258 => (thistlelaw03_FoldRules.j4 k x1 x2 x3 x4 (t258 == 223))) else (thistlelaw03_FoldRules.j4 k x1 x2 x3 x4 false))) else (thistlelaw03_FoldRules.j4 k x1 x2 x3 x4 false))) else (thistlelaw03_FoldRules.j4 k x1 x2 x3 x4 false))
def thistlelaw03_FoldRules.j4 : Nat → Bool → Bool → Bool → Bool → Bool → Option (Bool)
  | 0, _, _, _, _, _ => none
  | k + 1, x1, x2, x3, x4, x5 => if x1 = true then (if x2 = true then (if x3 = true then (if x4 = true then (thistlelaw03_FoldRules.j5 k (!x5)) else (thistlelaw03_FoldRules.j5 k true)) else (thistlelaw03_FoldRules.j5 k true)) else (thistlelaw03_FoldRules.j5 k true)) else (thistlelaw03_FoldRules.j5 k true)
def thistlelaw03_FoldRules.j5 : Nat → Bool → Option (Bool)
  | 0, _ => none
  | k + 1, x89 => if x89 = true then (some false) else (thistlelaw03_FoldRules.l0 k (([(([75, 107, 8490] : List Int)), (([83, 115, 383] : List Int)), (([181, 924, 956] : List Int)), (([197, 229, 8491] : List Int)), (([931, 962, 963] : List Int))] : List (List Int))) 0)
def thistlelaw03_FoldRules.l0 : Nat → List (List Int) → Int → Option (Bool)
  | 0, _, _ => none
  | k + 1, x6, x7 => if x7 < (x6.length : Int) then (if 0 ≤ x7 then (if 1 < ((rd_L1 x6 x7).length : Int) then ((fold_Orbit.f k (rd (rd_L1 x6 x7) 1)).bind fun t279 => ((thistleref02_SameRunes.f k t279 (rd_L1 x6 x7)).bind fun t283 => (if t283 = true then (thistlelaw03_FoldRules.l0 k x6 (wrap64 (x7 + 1))) else (some false)))) else (none)) else (none)) else (thistlelaw03_FoldRules.l1 k (([215, 247, 304, 305, 312, 329, 930, 7830, 64, 91, 96, 123, 938, 1120, 66640, 65339, 1114240, 1114305] : List Int)) 0)
def thistlelaw03_FoldRules.l1 : Nat → List Int → Int → Option (Bool)
  | 0, _, _ => none
  | k + 1, x8, x9 => if x9 < (x8.length : Int) then (if 0 ≤ x9 then ((fold_Next.f k (rd x8 x9)).bind fun t288 => (if t288 = (rd x8 x9) then (thistlelaw03_FoldRules.l1 k x8 (wrap64 (x9 + 1))) else (some false))) else (none)) else (some true)
end
def thistlelaw03_FoldRules.f (k : Nat)  : Option (Bool) := (thistlelaw03_awake.f k).bind fun t236 => (if t236 = true then ((thistlelaw03_pairs.f k 913 11 1 32 0).bind fun t237 => (if t237 = true then ((thistlelaw03_pairs.f k 925 5 1 32 0).bind fun t238 => (if t238 = true then ((thistlelaw03_pairs.f k 932 6 1 32 0).bind fun t239 => (thistlelaw03_FoldRules.j0 k t239)) else (thistlelaw03_FoldRules.j0 k false))) else (thistlelaw03_FoldRules.j0 k false))) else (some false))
theorem thistlelaw03_FoldRules.mono_l : ∀ k, (∀ y0, LeO (thistlelaw03_FoldRules.j0 k y0) (thistlelaw03_FoldRules.j0 (k + 1) y0)) ∧ (∀ y0 y1, LeO (thistlelaw03_FoldRules.j1 k y0 y1) (thistlelaw03_FoldRules.j1 (k + 1) y0 y1)) ∧ (∀ y0 y1 y2, LeO (thistlelaw03_FoldRules.j2 k y0 y1 y2) (thistlelaw03_FoldRules.j2 (k + 1) y0 y1 y2)) ∧ (∀ y0 y1 y2 y3, LeO (thistlelaw03_FoldRules.j3 k y0 y1 y2 y3) (thistlelaw03_FoldRules.j3 (k + 1) y0 y1 y2 y3)) ∧ (∀ y0 y1 y2 y3 y4, LeO (thistlelaw03_FoldRules.j4 k y0 y1 y2 y3 y4) (thistlelaw03_FoldRules.j4 (k + 1) y0 y1 y2 y3 y4)) ∧ (∀ y0, LeO (thistlelaw03_FoldRules.j5 k y0) (thistlelaw03_FoldRules.j5 (k + 1) y0)) ∧ (∀ y0 y1, LeO (thistlelaw03_FoldRules.l0 k y0 y1) (thistlelaw03_FoldRules.l0 (k + 1) y0 y1)) ∧ (∀ y0 y1, LeO (thistlelaw03_FoldRules.l1 k y0 y1) (thistlelaw03_FoldRules.l1 (k + 1) y0 y1))
  | 0 => ⟨fun _ r h => by simp [thistlelaw03_FoldRules.j0] at h, fun _ _ r h => by simp [thistlelaw03_FoldRules.j1] at h, fun _ _ _ r h => by simp [thistlelaw03_FoldRules.j2] at h, fun _ _ _ _ r h => by simp [thistlelaw03_FoldRules.j3] at h, fun _ _ _ _ _ r h => by simp [thistlelaw03_FoldRules.j4] at h, fun _ r h => by simp [thistlelaw03_FoldRules.j5] at h, fun _ _ r h => by simp [thistlelaw03_FoldRules.l0] at h, fun _ _ r h => by simp [thistlelaw03_FoldRules.l1] at h⟩
  | k + 1 => by
    obtain ⟨ih0, ih1, ih2, ih3, ih4, ih5, ih6, ih7⟩ := thistlelaw03_FoldRules.mono_l k
    refine ⟨?_, ?_, ?_, ?_, ?_, ?_, ?_, ?_⟩
    · intro y0
      unfold thistlelaw03_FoldRules.j0
      repeat' first
      | (with_reducible exact ih0 _)
      | (with_reducible exact ih1 _ _)
      | (with_reducible exact ih2 _ _ _)
      | (with_reducible exact ih3 _ _ _ _)
      | (with_reducible exact ih4 _ _ _ _ _)
      | (with_reducible exact ih5 _)
      | (with_reducible exact ih6 _ _)
      | (with_reducible exact ih7 _ _)
      | (with_reducible exact fold_Next.mono _ _)
      | (with_reducible exact fold_Orbit.mono _ _)
      | (with_reducible exact thistlelaw03_awake.mono _)
      | (with_reducible exact thistlelaw03_pairs.mono _ _ _ _ _ _)
      | (with_reducible exact thistleref02_SameRunes.mono _ _ _)
      | (with_reducible exact LeO.refl _)
      | (with_reducible exact LeO.none _)
      | (with_reducible refine LeO.ite ?_ ?_)
      | (with_reducible refine LeO.bind ?_ (fun _ => ?_))
      | exact ih0 _
      | exact ih1 _ _
      | exact ih2 _ _ _
      | exact ih3 _ _ _ _
      | exact ih4 _ _ _ _ _
      | exact ih5 _
      | exact ih6 _ _
      | exact ih7 _ _
      | exact fold_Next.mono _ _
      | exact fold_Orbit.mono _ _
      | exact thistlelaw03_awake.mono _
      | exact thistlelaw03_pairs.mono _ _ _ _ _ _
      | exact thistleref02_SameRunes.mono _ _ _
      | exact LeO.none _
      | refine LeO.ite ?_ ?_
      | refine LeO.bind ?_ (fun _ => ?_)
    · intro y0 y1
      unfold thistlelaw03_FoldRules.j1
      repeat' first
      | (with_reducible exact ih0 _)
      | (with_reducible exact ih1 _ _)
      | (with_reducible exact ih2 _ _ _)
      | (with_reducible exact ih3 _ _ _ _)
      | (with_reducible exact ih4 _ _ _ _ _)
      | (with_reducible exact ih5 _)
      | (with_reducible exact ih6 _ _)
      | (with_reducible exact ih7 _ _)
      | (with_reducible exact fold_Next.mono _ _)
      | (with_reducible exact fold_Orbit.mono _ _)
      | (with_reducible exact thistlelaw03_awake.mono _)
      | (with_reducible exact thistlelaw03_pairs.mono _ _ _ _ _ _)
      | (with_reducible exact thistleref02_SameRunes.mono _ _ _)
      | (with_reducible exact LeO.refl _)
      | (with_reducible exact LeO.none _)
      | (with_reducible refine LeO.ite ?_ ?_)
      | (with_reducible refine LeO.bind ?_ (fun _ => ?_))
      | exact ih0 _
      | exact ih1 _ _
      | exact ih2 _ _ _
      | exact ih3 _ _ _ _
      | exact ih4 _ _ _ _ _
      | exact ih5 _
      | exact ih6 _ _
      | exact ih7 _ _
      | exact fold_Next.mono _ _
      | exact fold_Orbit.mono _ _
      | exact thistlelaw03_awake.mono _
      | exact thistlelaw03_pairs.mono _ _ _ _ _ _
      | exact thistleref02_SameRunes.mono _ _ _
      | exact LeO.none _
      | refine LeO.ite ?_ ?_
      | refine LeO.bind ?_ (fun _ => ?_)
    · intro y0 y1 y2
      unfold thistlelaw03_FoldRules.j2
      repeat' first
      | (with_reducible exact ih0 _)
      | (with_reducible exact ih1 _ _)
      | (with_reducible exact ih2 _ _ _)
      | (with_reducible exact ih3 _ _ _ _)
      | (with_reducible exact ih4 _ _ _ _ _)
      | (with_reducible exact ih5 _)
      | (with_reducible exact ih6 _ _)
      | (with_reducible exact ih7 _ _)
      | (with_reducible exact fold_Next.mono _ _)
      | (with_reducible exact fold_Orbit.mono _ _)
      | (with_reducible exact thistlelaw03_awake.mono _)
      | (with_reducible exact thistlelaw03_pairs.mono _ _ _ _ _ _)
      | (with_reducible exact thistleref02_SameRunes.mono _ _ _)
      | (with_reducible exact LeO.refl _)
      | (with_reducible exact LeO.none _)
      | (with_reducible refine LeO.ite ?_ ?_)
      | (with_reducible refine LeO.bind ?_ (fun _ => ?_))
      | exact ih0 _
      | exact ih1 _ _
      | exact ih2 _ _ _
      | exact ih3 _ _ _ _
      | exact ih4 _ _ _ _ _
      | exact ih5 _
      | exact ih6 _ _
      | exact ih7 _ _
      | exact fold_Next.mono _ _
      | exact fold_Orbit.mono _ _
      | exact thistlelaw03_awake.mono _
      | exact thistlelaw03_pairs.mono _ _ _ _ _ _
      | exact thistleref02_SameRunes.mono _ _ _
      | exact LeO.none _
      | refine LeO.ite ?_ ?_
      | refine LeO.bind ?_ (fun _ => ?_)
    · intro y0 y1 y2 y3
      unfold thistlelaw03_FoldRules.j3
      repeat' first
      | (with_reducible exact ih0 _)
      | (with_reducible exact ih1 _ _)
      | (with_reducible exact ih2 _ _ _)
      | (with_reducible exact ih3 _ _ _ _)
      | (with_reducible exact ih4 _ _ _ _ _)
      | (with_reducible exact ih5 _)
      | (with_reducible exact ih6 _ _)
      | (with_reducible exact ih7 _ _)
      | (with_reducible exact fold_Next.mono _ _)
      | (with_reducible exact fold_Orbit.mono _ _)
      | (with_reducible exact thistlelaw03_awake.mono _)
      | (with_reducible exact thistlelaw03_pairs.mono _ _ _ _ _ _)
      | (with_reducible exact thistleref02_SameRunes.mono _ _ _)
      | (with_reducible exact LeO.refl _)
      | (with_reducible exact LeO.none _)
      | (with_reducible refine LeO.ite ?_ ?_)
      | (with_reducible refine LeO.bind ?_ (fun _ => ?_))
      | exact ih0 _
      | exact ih1 _ _
      | exact ih2 _ _ _
      | exact ih3 _ _ _ _
      | exact ih4 _ _ _ _ _
      | exact ih5 _
      | exact ih6 _ _
      | exact ih7 _ _
      | exact fold_Next.mono _ _
      | exact fold_Orbit.mono _ _
      | exact thistlelaw03_awake.mono _
      | exact thistlelaw03_pairs.mono _ _ _ _ _ _
      | exact thistleref02_SameRunes.mono _ _ _
      | exact LeO.none _
      | refine LeO.ite ?_ ?_
      | refine LeO.bind ?_ (fun _ => ?_)
    · intro y0 y1 y2 y3 y4
      unfold thistlelaw03_FoldRules.j4
      repeat' first
      | (with_reducible exact ih0 _)
      | (with_reducible exact ih1 _ _)
      | (with_reducible exact ih2 _ _ _)
      | (with_reducible exact ih3 _ _ _ _)
      | (with_reducible exact ih4 _ _ _ _ _)
      | (with_reducible exact ih5 _)
      | (with_reducible exact ih6 _ _)
      | (with_reducible exact ih7 _ _)
      | (with_reducible exact fold_Next.mono _ _)
      | (with_reducible exact fold_Orbit.mono _ _)
      | (with_reducible exact thistlelaw03_awake.mono _)
      | (with_reducible exact thistlelaw03_pairs.mono _ _ _ _ _ _)
      | (with_reducible exact thistleref02_SameRunes.mono _ _ _)
      | (with_reducible exact LeO.refl _)
      | (with_reducible exact LeO.none _)
      | (with_reducible refine LeO.ite ?_ ?_)
      | (with_reducible refine LeO.bind ?_ (fun _ => ?_))
      | exact ih0 _
      | exact ih1 _ _
      | exact ih2 _ _ _
      | exact ih3 _ _ _ _
      | exact ih4 _ _ _ _ _
      | exact ih5 _
      | exact ih6 _ _
      | exact ih7 _ _
      | exact fold_Next.mono _ _
      | exact fold_Orbit.mono _ _
      | exact thistlelaw03_awake.mono _
      | exact thistlelaw03_pairs.mono _ _ _ _ _ _
      | exact thistleref02_SameRunes.mono _ _ _
      | exact LeO.none _
      | refine LeO.ite ?_ ?_
      | refine LeO.bind ?_ (fun _ => ?_)
    · intro y0
      unfold thistlelaw03_FoldRules.j5
      repeat' first
      | (with_reducible exact ih0 _)
      | (with_reducible exact ih1 _ _)
      | (with_reducible exact ih2 _ _ _)
      | (with_reducible exact ih3 _ _ _ _)
      | (with_reducible exact ih4 _ _ _ _ _)
      | (with_reducible exact ih5 _)
      | (with_reducible exact ih6 _ _)
      | (with_reducible exact ih7 _ _)
      | (with_reducible exact fold_Next.mono _ _)
      | (with_reducible exact fold_Orbit.mono _ _)
      | (with_reducible exact thistlelaw03_awake.mono _)
      | (with_reducible exact thistlelaw03_pairs.mono _ _ _ _ _ _)
      | (with_reducible exact thistleref02_SameRunes.mono _ _ _)
      | (with_reducible exact LeO.refl _)
      | (with_reducible exact LeO.none _)
      | (with_reducible refine LeO.ite ?_ ?_)
      | (with_reducible refine LeO.bind ?_ (fun _ => ?_))
      | exact ih0 _
      | exact ih1 _ _
      | exact ih2 _ _ _
      | exact ih3 _ _ _ _
      | exact ih4 _ _ _ _ _
      | exact ih5 _
      | exact ih6 _ _
      | exact ih7 _ _
      | exact fold_Next.mono _ _
      | exact fold_Orbit.mono _ _
      | exact thistlelaw03_awake.mono _
      | exact thistlelaw03_pairs.mono _ _ _ _ _ _
      | exact thistleref02_SameRunes.mono _ _ _
      | exact LeO.none _
      | refine LeO.ite ?_ ?_
      | refine LeO.bind ?_ (fun _ => ?_)
    · intro y0 y1
      unfold thistlelaw03_FoldRules.l0
      repeat' first
      | (with_reducible exact ih0 _)
      | (with_reducible exact ih1 _ _)
      | (with_reducible exact ih2 _ _ _)
      | (with_reducible exact ih3 _ _ _ _)
      | (with_reducible exact ih4 _ _ _ _ _)
      | (with_reducible exact ih5 _)
      | (with_reducible exact ih6 _ _)
      | (with_reducible exact ih7 _ _)
      | (with_reducible exact fold_Next.mono _ _)
      | (with_reducible exact fold_Orbit.mono _ _)
      | (with_reducible exact thistlelaw03_awake.mono _)
      | (with_reducible exact thistlelaw03_pairs.mono _ _ _ _ _ _)
      | (with_reducible exact thistleref02_SameRunes.mono _ _ _)
      | (with_reducible exact LeO.refl _)
      | (with_reducible exact LeO.none _)
      | (with_reducible refine LeO.ite ?_ ?_)
      | (with_reducible refine LeO.bind ?_ (fun _ => ?_))
      | exact ih0 _
      | exact ih1 _ _
      | exact ih2 _ _ _
      | exact ih3 _ _ _ _
      | exact ih4 _ _ _ _ _
      | exact ih5 _
      | exact ih6 _ _
      | exact ih7 _ _
      | exact fold_Next.mono _ _
      | exact fold_Orbit.mono _ _
      | exact thistlelaw03_awake.mono _
      | exact thistlelaw03_pairs.mono _ _ _ _ _ _
      | exact thistleref02_SameRunes.mono _ _ _
      | exact LeO.none _
      | refine LeO.ite ?_ ?_
      | refine LeO.bind ?_ (fun _ => ?_)
    · intro y0 y1
      unfold thistlelaw03_FoldRules.l1
      repeat' first
      | (with_reducible exact ih0 _)
      | (with_reducible exact ih1 _ _)
      | (with_reducible exact ih2 _ _ _)
      | (with_reducible exact ih3 _ _ _ _)
      | (with_reducible exact ih4 _ _ _ _ _)
      | (with_reducible exact ih5 _)
      | (with_reducible exact ih6 _ _)
      | (with_reducible exact ih7 _ _)
      | (with_reducible exact fold_Next.mono _ _)
      | (with_reducible exact fold_Orbit.mono _ _)
      | (with_reducible exact thistlelaw03_awake.mono _)
      | (with_reducible exact thistlelaw03_pairs.mono _ _ _ _ _ _)
      | (with_reducible exact thistleref02_SameRunes.mono _ _ _)
      | (with_reducible exact LeO.refl _)
      | (with_reducible exact LeO.none _)
      | (with_reducible refine LeO.ite ?_ ?_)
      | (with_reducible refine LeO.bind ?_ (fun _ => ?_))
      | exact ih0 _
      | exact ih1 _ _
      | exact ih2 _ _ _
      | exact ih3 _ _ _ _
      | exact ih4 _ _ _ _ _
      | exact ih5 _
      | exact ih6 _ _
      | exact ih7 _ _
      | exact fold_Next.mono _ _
      | exact fold_Orbit.mono _ _
      | exact thistlelaw03_awake.mono _
      | exact thistlelaw03_pairs.mono _ _ _ _ _ _
      | exact thistleref02_SameRunes.mono _ _ _
      | exact LeO.none _
      | refine LeO.ite ?_ ?_
      | refine LeO.bind ?_ (fun _ => ?_)
theorem thistlelaw03_FoldRules.mono : ∀ k, LeO (thistlelaw03_FoldRules.f k ) (thistlelaw03_FoldRules.f (k + 1) ) := by
  intro  k
  obtain ⟨ih0, ih1, ih2, ih3, ih4, ih5, ih6, ih7⟩ := thistlelaw03_FoldRules.mono_l k
  unfold thistlelaw03_FoldRules.f
  repeat' first
      | (with_reducible exact ih0 _)
      | (with_reducible exact ih1 _ _)
      | (with_reducible exact ih2 _ _ _)
      | (with_reducible exact ih3 _ _ _ _)
      | (with_reducible exact ih4 _ _ _ _ _)
      | (with_reducible exact ih5 _)
      | (with_reducible exact ih6 _ _)
      | (with_reducible exact ih7 _ _)
      | (with_reducible exact fold_Next.mono _ _)
      | (with_reducible exact fold_Orbit.mono _ _)
      | (with_reducible exact thistlelaw03_awake.mono _)
      | (with_reducible exact thistlelaw03_pairs.mono _ _ _ _ _ _)
      | (with_reducible exact thistleref02_SameRunes.mono _ _ _)
      | (with_reducible exact LeO.refl _)
      | (with_reducible exact LeO.none _)
      | (with_reducible refine LeO.ite ?_ ?_)
      | (with_reducible refine LeO.bind ?_ (fun _ => ?_))
      | exact ih0 _
      | exact ih1 _ _
      | exact ih2 _ _ _
      | exact ih3 _ _ _ _
      | exact ih4 _ _ _ _ _
      | exact ih5 _
      | exact ih6 _ _
      | exact ih7 _ _
      | exact fold_Next.mono _ _
      | exact fold_Orbit.mono _ _
      | exact thistlelaw03_awake.mono _
      | exact thistlelaw03_pairs.mono _ _ _ _ _ _
      | exact thistleref02_SameRunes.mono _ _ _
      | exact LeO.none _
      | refine LeO.ite ?_ ?_
      | refine LeO.bind ?_ (fun _ => ?_)
def thistlelaw03_FoldRules.T14 : Bool × List (List Nat × List Nat) := (true, [([], []), ([], []), ([0, 1], [0, 1]), ([2], [2]), ([3], [3]), ([4], [4]), ([5], [5]), ([], []), ([], []), ([7, 8], [7, 8]), ([9], [9]), ([6, 10, 6], [6, 10]), ([11], [11])])
def thistlelaw03_FoldRules.B14 : List Nat := [0, 0, 3, 7, 15, 31, 63, 0, 0, 384, 896, 2047, 4095]
theorem thistlelaw03_FoldRules.tab14 : rtab .any (opsOf Try.f5 14) = thistlelaw03_FoldRules.T14 := by kernel_rfl
theorem thistlelaw03_FoldRules.bits14 : waitsOk thistlelaw03_FoldRules.T14.2 thistlelaw03_FoldRules.B14 = true := by kernel_rfl
def thistlelaw03_FoldRules.T20 : Bool × List (List Nat × List Nat) := (true, [([], []), ([], []), ([0, 1], [0, 1]), ([2], [2]), ([3], [3]), ([], []), ([], []), ([5, 6], [5, 6]), ([7], [7]), ([4, 8], [4, 8])])
def thistlelaw03_FoldRules.B20 : List Nat := [0, 0, 3, 7, 15, 0, 0, 96, 224, 511]
theorem thistlelaw03_FoldRules.tab20 : rtab .any (opsOf Try.f5 20) = thistlelaw03_FoldRules.T20 := by kernel_rfl
theorem thistlelaw03_FoldRules.bits20 : waitsOk thistlelaw03_FoldRules.T20.2 thistlelaw03_FoldRules.B20 = true := by kernel_rfl
set_option maxHeartbeats 8000000 in
set_option maxRecDepth 100000 in
theorem thistlelaw03_FoldRules.calls (k : Nat)  (r : Bool) (w : World) (h : thistlelaw03_FoldRules.f k  = some r) :
    Calls Try.prog 5 #[] w fun e w' => e = .returned (.bool r) ∧ Below w.heap.size w w' := by
  have HB := Aside0.mk (Below.refl w.heap.size w)
  have H : ((thistlelaw03_awake.f k).bind fun t236 => (if t236 = true then ((thistlelaw03_pairs.f k 913 11 1 32 0).bind fun t237 => (if t237 = true then ((thistlelaw03_pairs.f k 925 5 1 32 0).bind fun t238 => (if t238 = true then ((thistlelaw03_pairs.f k 932 6 1 32 0).bind fun t239 => (thistlelaw03_FoldRules.j0 k t239)) else (thistlelaw03_FoldRules.j0 k false))) else (thistlelaw03_FoldRules.j0 k false))) else (some false))) = some r := h
  clear h
  replace H := Option.bind_eq_some_iff.mp H
  obtain ⟨t236, A10, H⟩ := H
  replace H : (if t236 = true then ((thistlelaw03_pairs.f k 913 11 1 32 0).bind fun t237 => (if t237 = true then ((thistlelaw03_pairs.f k 925 5 1 32 0).bind fun t238 => (if t238 = true then ((thistlelaw03_pairs.f k 932 6 1 32 0).bind fun t239 => (thistlelaw03_FoldRules.j0 k t239)) else (thistlelaw03_FoldRules.j0 k false))) else (thistlelaw03_FoldRules.j0 k false))) else (some false)) = some r := H
  have A1 := Aside0.mk A10
  clear A10
  by_cases c2 : t236 = true
  · subst c2
    have H1 : ((thistlelaw03_pairs.f k 913 11 1 32 0).bind fun t237 => (if t237 = true then ((thistlelaw03_pairs.f k 925 5 1 32 0).bind fun t238 => (if t238 = true then ((thistlelaw03_pairs.f k 932 6 1 32 0).bind fun t239 => (thistlelaw03_FoldRules.j0 k t239)) else (thistlelaw03_FoldRules.j0 k false))) else (thistlelaw03_FoldRules.j0 k false))) = some r := by rw [if_pos rfl] at H; exact H
    clear H
    have H := H1
    clear H1
    have HC3 := Aside0.mk H
    clear H
    go_enter Try.func5, Try.ntmps5
    go_upto_region 3 with (first | ((with_reducible refine gate_callee (f := 7) rfl ?_); refine goesL_ (some 10) rfl rfl Try.func7 (by kernel_rfl) rfl #[] rfl (by (try simp only [List.map_toArray, List.map_cons, List.map_nil]); first | done | rfl | (simp only [List.length_drop, List.length_take]; rfl)) ?_; (with_reducible refine (thistlelaw03_awake.calls k  true _ A1.out).mono ?_); rintro e w4 ⟨rfl, hb⟩; refine ⟨_, rfl, ?_⟩; have n0_ := Aside0.mk (below_step (by repeat (first | (with_reducible first | exact HB.out | apply below_alloc | apply pw_below_drewN | apply below_drew1) | exact HB.out)) hb); clear HB; have HB := n0_; clear n0_; (try clear hb); (try clear hb2); (try clear hk); (try clear hi)))
    (try simp only [Act.put, List.setIfInBounds_toArray, List.set_cons_zero, List.set_cons_succ])
    go_cut [1] (fun v1 wc => ∃ (kq : Nat) (x1_2 : Bool), v1 = .bool x1_2 ∧ Aside0 (thistlelaw03_FoldRules.j0 kq x1_2 = some r) ∧ Aside0 (kq ≤ k) ∧ Aside0 (Below w.heap.size w wc))
    case first =>
      have H := HC3.out
      clear HC3
      replace H := Option.bind_eq_some_iff.mp H
      obtain ⟨t237, A50, H⟩ := H
      replace H : (if t237 = true then ((thistlelaw03_pairs.f k 925 5 1 32 0).bind fun t238 => (if t238 = true then ((thistlelaw03_pairs.f k 932 6 1 32 0).bind fun t239 => (thistlelaw03_FoldRules.j0 k t239)) else (thistlelaw03_FoldRules.j0 k false))) else (thistlelaw03_FoldRules.j0 k false)) = some r := H
      have A5 := Aside0.mk A50
      clear A50
      by_cases c6 : t237 = true
      · subst c6
        have H1 : ((thistlelaw03_pairs.f k 925 5 1 32 0).bind fun t238 => (if t238 = true then ((thistlelaw03_pairs.f k 932 6 1 32 0).bind fun t239 => (thistlelaw03_FoldRules.j0 k t239)) else (thistlelaw03_FoldRules.j0 k false))) = some r := by rw [if_pos rfl] at H; exact H
        clear H
        have H := H1
        clear H1
        replace H := Option.bind_eq_some_iff.mp H
        obtain ⟨t238, A70, H⟩ := H
        replace H : (if t238 = true then ((thistlelaw03_pairs.f k 932 6 1 32 0).bind fun t239 => (thistlelaw03_FoldRules.j0 k t239)) else (thistlelaw03_FoldRules.j0 k false)) = some r := H
        have A7 := Aside0.mk A70
        clear A70
        by_cases c8 : t238 = true
        · subst c8
          have H1 : ((thistlelaw03_pairs.f k 932 6 1 32 0).bind fun t239 => (thistlelaw03_FoldRules.j0 k t239)) = some r := by rw [if_pos rfl] at H; exact H
          clear H
          have H := H1
          clear H1
          replace H := Option.bind_eq_some_iff.mp H
          obtain ⟨t239, A90, H⟩ := H
          replace H : (thistlelaw03_FoldRules.j0 k t239) = some r := H
          have A9 := Aside0.mk A90
          clear A90
          have H' := Aside0.mk H
          clear H
          go_wp2_with (first | ((with_reducible refine gate_callee (f := 16) rfl ?_); refine goesL_ (some 12) rfl rfl Try.func16 (by kernel_rfl) rfl #[.int .i32 913, .int .i32 11, .int .i32 1, .int .i32 32, .int .i32 0] rfl (by (try simp only [List.map_toArray, List.map_cons, List.map_nil]); first | done | rfl | (simp only [List.length_drop, List.length_take]; rfl)) ?_; (with_reducible refine (thistlelaw03_pairs.calls k 913 11 1 32 0 true _ A5.out).mono ?_); rintro e w10 ⟨rfl, hb⟩; refine ⟨_, rfl, ?_⟩; have n0_ := Aside0.mk (below_step (by repeat (first | (with_reducible first | exact HB.out | apply below_alloc | apply pw_below_drewN | apply below_drew1) | exact HB.out)) hb); clear HB; have HB := n0_; clear n0_; (try clear hb); (try clear hb2); (try clear hk); (try clear hi)) | (go_at_call 16; (with_reducible refine (thistlelaw03_pairs.calls k 925 5 1 32 0 true _ A7.out).mono ?_); rintro e w11 ⟨rfl, hb⟩; have n0_ := Aside0.mk (below_step (by repeat (first | (with_reducible first | exact HB.out | apply below_alloc | apply pw_below_drewN | apply below_drew1) | exact HB.out)) hb); clear HB; have HB := n0_; clear n0_; (try clear hb); (try clear hb2); (try clear hk); (try clear hi)) | (go_at_call 16; (with_reducible refine (thistlelaw03_pairs.calls k 932 6 1 32 0 t239 _ A9.out).mono ?_); rintro e w12 ⟨rfl, hb⟩; have n0_ := Aside0.mk (below_step (by repeat (first | (with_reducible first | exact HB.out | apply below_alloc | apply pw_below_drewN | apply below_drew1) | exact HB.out)) hb); clear HB; have HB := n0_; clear n0_; (try clear hb); (try clear hb2); (try clear hk); (try clear hi)))
          go_meet
          case rel => exact ⟨_, (t239), (by first | rfl | (simp; done) | (simp [*]; done)), H', ⟨by first | omega | exact Nat.le_refl _⟩, ⟨by repeat (first | (with_reducible first | exact HB.out | apply below_alloc | apply pw_below_drewN | apply below_drew1) | exact HB.out)⟩⟩
        · replace c8 := Bool.eq_false_iff.mpr c8
          subst c8
          have H1 : (thistlelaw03_FoldRules.j0 k false) = some r := by rw [if_neg (show ¬ (false = true) by decide)] at H; exact H
          clear H
          have H := H1
          clear H1
          have H' := Aside0.mk H
          clear H
          go_wp2_with (first | ((with_reducible refine gate_callee (f := 16) rfl ?_); refine goesL_ (some 12) rfl rfl Try.func16 (by kernel_rfl) rfl #[.int .i32 913, .int .i32 11, .int .i32 1, .int .i32 32, .int .i32 0] rfl (by (try simp only [List.map_toArray, List.map_cons, List.map_nil]); first | done | rfl | (simp only [List.length_drop, List.length_take]; rfl)) ?_; (with_reducible refine (thistlelaw03_pairs.calls k 913 11 1 32 0 true _ A5.out).mono ?_); rintro e w13 ⟨rfl, hb⟩; refine ⟨_, rfl, ?_⟩; have n0_ := Aside0.mk (below_step (by repeat (first | (with_reducible first | exact HB.out | apply below_alloc | apply pw_below_drewN | apply below_drew1) | exact HB.out)) hb); clear HB; have HB := n0_; clear n0_; (try clear hb); (try clear hb2); (try clear hk); (try clear hi)) | (go_at_call 16; (with_reducible refine (thistlelaw03_pairs.calls k 925 5 1 32 0 false _ A7.out).mono ?_); rintro e w14 ⟨rfl, hb⟩; have n0_ := Aside0.mk (below_step (by repeat (first | (with_reducible first | exact HB.out | apply below_alloc | apply pw_below_drewN | apply below_drew1) | exact HB.out)) hb); clear HB; have HB := n0_; clear n0_; (try clear hb); (try clear hb2); (try clear hk); (try clear hi)))
          go_meet
          case rel => exact ⟨_, (false), (by first | rfl | (simp; done) | (simp [*]; done)), H', ⟨by first | omega | exact Nat.le_refl _⟩, ⟨by repeat (first | (with_reducible first | exact HB.out | apply below_alloc | apply pw_below_drewN | apply below_drew1) | exact HB.out)⟩⟩
      · replace c6 := Bool.eq_false_iff.mpr c6
        subst c6
        have H1 : (thistlelaw03_FoldRules.j0 k false) = some r := by rw [if_neg (show ¬ (false = true) by decide)] at H; exact H
        clear H
        have H := H1
        clear H1
        have H' := Aside0.mk H
        clear H
        go_wp2_with (first | ((with_reducible refine gate_callee (f := 16) rfl ?_); refine goesL_ (some 12) rfl rfl Try.func16 (by kernel_rfl) rfl #[.int .i32 913, .int .i32 11, .int .i32 1, .int .i32 32, .int .i32 0] rfl (by (try simp only [List.map_toArray, List.map_cons, List.map_nil]); first | done | rfl | (simp only [List.length_drop, List.length_take]; rfl)) ?_; (with_reducible refine (thistlelaw03_pairs.calls k 913 11 1 32 0 false _ A5.out).mono ?_); rintro e w15 ⟨rfl, hb⟩; refine ⟨_, rfl, ?_⟩; have n0_ := Aside0.mk (below_step (by repeat (first | (with_reducible first | exact HB.out | apply below_alloc | apply pw_below_drewN | apply below_drew1) | exact HB.out)) hb); clear HB; have HB := n0_; clear n0_; (try clear hb); (try clear hb2); (try clear hk); (try clear hi)))
        go_meet
        case rel => exact ⟨_, (false), (by first | rfl | (simp; done) | (simp [*]; done)), H', ⟨by first | omega | exact Nat.le_refl _⟩, ⟨by repeat (first | (with_reducible first | exact HB.out | apply below_alloc | apply pw_below_drewN | apply below_drew1) | exact HB.out)⟩⟩
    case rest =>
      clear HC3
      try clear c1
      try clear c2
      try clear p2
      try clear c5
      try clear c6
      try clear c7
      try clear c8
      obtain ⟨kq, x1_2, rfl, HA, HJ2, HB⟩ := hcut
      cases kq with
      | zero => exact absurd HA.out (by simp [thistlelaw03_FoldRules.j0])
      | succ kj2 =>
        have H := HA.out
        clear HA
        simp only [thistlelaw03_FoldRules.j0] at H
        have HC16 := Aside0.mk H
        clear H
        go_upto_region 4 with (fail)
        go_cut [2] (fun v2 wc => ∃ (kq : Nat) (x2_15 : Bool), v2 = .bool x2_15 ∧ Aside0 (thistlelaw03_FoldRules.j1 kq x1_2 x2_15 = some r) ∧ Aside0 (kq ≤ kj2) ∧ Aside0 (Below w.heap.size w wc))
        case first =>
          have H := HC16.out
          clear HC16
          replace H := Option.bind_eq_some_iff.mp H
          obtain ⟨t240, A170, H⟩ := H
          replace H : (if t240 = true then ((thistlelaw03_pairs.f kj2 76 7 1 32 0).bind fun t241 => (if t241 = true then ((thistlelaw03_pairs.f kj2 84 7 1 32 0).bind fun t242 => (if t242 = true then ((thistlelaw03_pairs.f kj2 192 5 1 32 0).bind fun t243 => (if t243 = true then ((thistlelaw03_pairs.f kj2 198 25 1 32 215).bind fun t244 => (thistlelaw03_FoldRules.j1 kj2 x1_2 t244)) else (thistlelaw03_FoldRules.j1 kj2 x1_2 false))) else (thistlelaw03_FoldRules.j1 kj2 x1_2 false))) else (thistlelaw03_FoldRules.j1 kj2 x1_2 false))) else (thistlelaw03_FoldRules.j1 kj2 x1_2 false)) = some r := H
          have A17 := Aside0.mk A170
          clear A170
          by_cases c18 : t240 = true
          · subst c18
            have H1 : ((thistlelaw03_pairs.f kj2 76 7 1 32 0).bind fun t241 => (if t241 = true then ((thistlelaw03_pairs.f kj2 84 7 1 32 0).bind fun t242 => (if t242 = true then ((thistlelaw03_pairs.f kj2 192 5 1 32 0).bind fun t243 => (if t243 = true then ((thistlelaw03_pairs.f kj2 198 25 1 32 215).bind fun t244 => (thistlelaw03_FoldRules.j1 kj2 x1_2 t244)) else (thistlelaw03_FoldRules.j1 kj2 x1_2 false))) else (thistlelaw03_FoldRules.j1 kj2 x1_2 false))) else (thistlelaw03_FoldRules.j1 kj2 x1_2 false))) = some r := by rw [if_pos rfl] at H; exact H
            clear H
            have H := H1
            clear H1
            replace H := Option.bind_eq_some_iff.mp H
            obtain ⟨t241, A190, H⟩ := H
            replace H : (if t241 = true then ((thistlelaw03_pairs.f kj2 84 7 1 32 0).bind fun t242 => (if t242 = true then ((thistlelaw03_pairs.f kj2 192 5 1 32 0).bind fun t243 => (if t243 = true then ((thistlelaw03_pairs.f kj2 198 25 1 32 215).bind fun t244 => (thistlelaw03_FoldRules.j1 kj2 x1_2 t244)) else (thistlelaw03_FoldRules.j1 kj2 x1_2 false))) else (thistlelaw03_FoldRules.j1 kj2 x1_2 false))) else (thistlelaw03_FoldRules.j1 kj2 x1_2 false)) = some r := H
            have A19 := Aside0.mk A190
            clear A190
            by_cases c20 : t241 = true
            · subst c20
              have H1 : ((thistlelaw03_pairs.f kj2 84 7 1 32 0).bind fun t242 => (if t242 = true then ((thistlelaw03_pairs.f kj2 192 5 1 32 0).bind fun t243 => (if t243 = true then ((thistlelaw03_pairs.f kj2 198 25 1 32 215).bind fun t244 => (thistlelaw03_FoldRules.j1 kj2 x1_2 t244)) else (thistlelaw03_FoldRules.j1 kj2 x1_2 false))) else (thistlelaw03_FoldRules.j1 kj2 x1_2 false))) = some r := by rw [if_pos rfl] at H; exact H
              clear H
              have H := H1
              clear H1
              replace H := Option.bind_eq_some_iff.mp H
              obtain ⟨t242, A210, H⟩ := H
              replace H : (if t242 = true then ((thistlelaw03_pairs.f kj2 192 5 1 32 0).bind fun t243 => (if t243 = true then ((thistlelaw03_pairs.f kj2 198 25 1 32 215).bind fun t244 => (thistlelaw03_FoldRules.j1 kj2 x1_2 t244)) else (thistlelaw03_FoldRules.j1 kj2 x1_2 false))) else (thistlelaw03_FoldRules.j1 kj2 x1_2 false)) = some r := H
              have A21 := Aside0.mk A210
              clear A210
              by_cases c22 : t242 = true
              · subst c22
                have H1 : ((thistlelaw03_pairs.f kj2 192 5 1 32 0).bind fun t243 => (if t243 = true then ((thistlelaw03_pairs.f kj2 198 25 1 32 215).bind fun t244 => (thistlelaw03_FoldRules.j1 kj2 x1_2 t244)) else (thistlelaw03_FoldRules.j1 kj2 x1_2 false))) = some r := by rw [if_pos rfl] at H; exact H
                clear H
                have H := H1
                clear H1
                replace H := Option.bind_eq_some_iff.mp H
                obtain ⟨t243, A230, H⟩ := H
                replace H : (if t243 = true then ((thistlelaw03_pairs.f kj2 198 25 1 32 215).bind fun t244 => (thistlelaw03_FoldRules.j1 kj2 x1_2 t244)) else (thistlelaw03_FoldRules.j1 kj2 x1_2 false)) = some r := H
                have A23 := Aside0.mk A230
                clear A230
                by_cases c24 : t243 = true
                · subst c24
                  have H1 : ((thistlelaw03_pairs.f kj2 198 25 1 32 215).bind fun t244 => (thistlelaw03_FoldRules.j1 kj2 x1_2 t244)) = some r := by rw [if_pos rfl] at H; exact H
                  clear H
                  have H := H1
                  clear H1
                  replace H := Option.bind_eq_some_iff.mp H
                  obtain ⟨t244, A250, H⟩ := H
                  replace H : (thistlelaw03_FoldRules.j1 kj2 x1_2 t244) = some r := H
                  have A25 := Aside0.mk A250
                  clear A250
                  have H' := Aside0.mk H
                  clear H
                  go_wp2_with (first | ((with_reducible refine gate_callee (f := 16) rfl ?_); refine goesL_ (some 19) rfl rfl Try.func16 (by kernel_rfl) rfl #[.int .i32 65, .int .i32 10, .int .i32 1, .int .i32 32, .int .i32 0] rfl (by (try simp only [List.map_toArray, List.map_cons, List.map_nil]); first | done | rfl | (simp only [List.length_drop, List.length_take]; rfl)) ?_; (with_reducible refine (thistlelaw03_pairs.calls kj2 65 10 1 32 0 true _ A17.out).mono ?_); rintro e w26 ⟨rfl, hb⟩; refine ⟨_, rfl, ?_⟩; have n0_ := Aside0.mk (below_step (by repeat (first | (with_reducible first | exact HB.out | apply below_alloc | apply pw_below_drewN | apply below_drew1) | exact HB.out)) hb); clear HB; have HB := n0_; clear n0_; (try clear hb); (try clear hb2); (try clear hk); (try clear hi)) | (go_at_call 16; (with_reducible refine (thistlelaw03_pairs.calls kj2 76 7 1 32 0 true _ A19.out).mono ?_); rintro e w27 ⟨rfl, hb⟩; have n0_ := Aside0.mk (below_step (by repeat (first | (with_reducible first | exact HB.out | apply below_alloc | apply pw_below_drewN | apply below_drew1) | exact HB.out)) hb); clear HB; have HB := n0_; clear n0_; (try clear hb); (try clear hb2); (try clear hk); (try clear hi)) | (go_at_call 16; (with_reducible refine (thistlelaw03_pairs.calls kj2 84 7 1 32 0 true _ A21.out).mono ?_); rintro e w28 ⟨rfl, hb⟩; have n0_ := Aside0.mk (below_step (by repeat (first | (with_reducible first | exact HB.out | apply below_alloc | apply pw_below_drewN | apply below_drew1) | exact HB.out)) hb); clear HB; have HB := n0_; clear n0_; (try clear hb); (try clear hb2); (try clear hk); (try clear hi)) | (go_at_call 16; (with_reducible refine (thistlelaw03_pairs.calls kj2 192 5 1 32 0 true _ A23.out).mono ?_); rintro e w29 ⟨rfl, hb⟩; have n0_ := Aside0.mk (below_step (by repeat (first | (with_reducible first | exact HB.out | apply below_alloc | apply pw_below_drewN | apply below_drew1) | exact HB.out)) hb); clear HB; have HB := n0_; clear n0_; (try clear hb); (try clear hb2); (try clear hk); (try clear hi)) | (go_at_call 16; (with_reducible refine (thistlelaw03_pairs.calls kj2 198 25 1 32 215 t244 _ A25.out).mono ?_); rintro e w30 ⟨rfl, hb⟩; have n0_ := Aside0.mk (below_step (by repeat (first | (with_reducible first | exact HB.out | apply below_alloc | apply pw_below_drewN | apply below_drew1) | exact HB.out)) hb); clear HB; have HB := n0_; clear n0_; (try clear hb); (try clear hb2); (try clear hk); (try clear hi)))
                  go_meet
                  case rel => exact ⟨_, (t244), (by first | rfl | (simp; done) | (simp [*]; done)), H', ⟨by have := HJ2.out; first | omega | exact Nat.le_refl _⟩, ⟨by repeat (first | (with_reducible first | exact HB.out | apply below_alloc | apply pw_below_drewN | apply below_drew1) | exact HB.out)⟩⟩
                · replace c24 := Bool.eq_false_iff.mpr c24
                  subst c24
                  have H1 : (thistlelaw03_FoldRules.j1 kj2 x1_2 false) = some r := by rw [if_neg (show ¬ (false = true) by decide)] at H; exact H
                  clear H
                  have H := H1
                  clear H1
                  have H' := Aside0.mk H
                  clear H
                  go_wp2_with (first | ((with_reducible refine gate_callee (f := 16) rfl ?_); refine goesL_ (some 19) rfl rfl Try.func16 (by kernel_rfl) rfl #[.int .i32 65, .int .i32 10, .int .i32 1, .int .i32 32, .int .i32 0] rfl (by (try simp only [List.map_toArray, List.map_cons, List.map_nil]); first | done | rfl | (simp only [List.length_drop, List.length_take]; rfl)) ?_; (with_reducible refine (thistlelaw03_pairs.calls kj2 65 10 1 32 0 true _ A17.out).mono ?_); rintro e w31 ⟨rfl, hb⟩; refine ⟨_, rfl, ?_⟩; have n0_ := Aside0.mk (below_step (by repeat (first | (with_reducible first | exact HB.out | apply below_alloc | apply pw_below_drewN | apply below_drew1) | exact HB.out)) hb); clear HB; have HB := n0_; clear n0_; (try clear hb); (try clear hb2); (try clear hk); (try clear hi)) | (go_at_call 16; (with_reducible refine (thistlelaw03_pairs.calls kj2 76 7 1 32 0 true _ A19.out).mono ?_); rintro e w32 ⟨rfl, hb⟩; have n0_ := Aside0.mk (below_step (by repeat (first | (with_reducible first | exact HB.out | apply below_alloc | apply pw_below_drewN | apply below_drew1) | exact HB.out)) hb); clear HB; have HB := n0_; clear n0_; (try clear hb); (try clear hb2); (try clear hk); (try clear hi)) | (go_at_call 16; (with_reducible refine (thistlelaw03_pairs.calls kj2 84 7 1 32 0 true _ A21.out).mono ?_); rintro e w33 ⟨rfl, hb⟩; have n0_ := Aside0.mk (below_step (by repeat (first | (with_reducible first | exact HB.out | apply below_alloc | apply pw_below_drewN | apply below_drew1) | exact HB.out)) hb); clear HB; have HB := n0_; clear n0_; (try clear hb); (try clear hb2); (try clear hk); (try clear hi)) | (go_at_call 16; (with_reducible refine (thistlelaw03_pairs.calls kj2 192 5 1 32 0 false _ A23.out).mono ?_); rintro e w34 ⟨rfl, hb⟩; have n0_ := Aside0.mk (below_step (by repeat (first | (with_reducible first | exact HB.out | apply below_alloc | apply pw_below_drewN | apply below_drew1) | exact HB.out)) hb); clear HB; have HB := n0_; clear n0_; (try clear hb); (try clear hb2); (try clear hk); (try clear hi)))
                  go_meet
                  case rel => exact ⟨_, (false), (by first | rfl | (simp; done) | (simp [*]; done)), H', ⟨by have := HJ2.out; first | omega | exact Nat.le_refl _⟩, ⟨by repeat (first | (with_reducible first | exact HB.out | apply below_alloc | apply pw_below_drewN | apply below_drew1) | exact HB.out)⟩⟩
              · replace c22 := Bool.eq_false_iff.mpr c22
                subst c22
                have H1 : (thistlelaw03_FoldRules.j1 kj2 x1_2 false) = some r := by rw [if_neg (show ¬ (false = true) by decide)] at H; exact H
                clear H
                have H := H1
                clear H1
                have H' := Aside0.mk H
                clear H
                go_wp2_with (first | ((with_reducible refine gate_callee (f := 16) rfl ?_); refine goesL_ (some 19) rfl rfl Try.func16 (by kernel_rfl) rfl #[.int .i32 65, .int .i32 10, .int .i32 1, .int .i32 32, .int .i32 0] rfl (by (try simp only [List.map_toArray, List.map_cons, List.map_nil]); first | done | rfl | (simp only [List.length_drop, List.length_take]; rfl)) ?_; (with_reducible refine (thistlelaw03_pairs.calls kj2 65 10 1 32 0 true _ A17.out).mono ?_); rintro e w35 ⟨rfl, hb⟩; refine ⟨_, rfl, ?_⟩; have n0_ := Aside0.mk (below_step (by repeat (first | (with_reducible first | exact HB.out | apply below_alloc | apply pw_below_drewN | apply below_drew1) | exact HB.out)) hb); clear HB; have HB := n0_; clear n0_; (try clear hb); (try clear hb2); (try clear hk); (try clear hi)) | (go_at_call 16; (with_reducible refine (thistlelaw03_pairs.calls kj2 76 7 1 32 0 true _ A19.out).mono ?_); rintro e w36 ⟨rfl, hb⟩; have n0_ := Aside0.mk (below_step (by repeat (first | (with_reducible first | exact HB.out | apply below_alloc | apply pw_below_drewN | apply below_drew1) | exact HB.out)) hb); clear HB; have HB := n0_; clear n0_; (try clear hb); (try clear hb2); (try clear hk); (try clear hi)) | (go_at_call 16; (with_reducible refine (thistlelaw03_pairs.calls kj2 84 7 1 32 0 false _ A21.out).mono ?_); rintro e w37 ⟨rfl, hb⟩; have n0_ := Aside0.mk (below_step (by repeat (first | (with_reducible first | exact HB.out | apply below_alloc | apply pw_below_drewN | apply below_drew1) | exact HB.out)) hb); clear HB; have HB := n0_; clear n0_; (try clear hb); (try clear hb2); (try clear hk); (try clear hi)))
                go_meet
                case rel => exact ⟨_, (false), (by first | rfl | (simp; done) | (simp [*]; done)), H', ⟨by have := HJ2.out; first | omega | exact Nat.le_refl _⟩, ⟨by repeat (first | (with_reducible first | exact HB.out | apply below_alloc | apply pw_below_drewN | apply below_drew1) | exact HB.out)⟩⟩
            · replace c20 := Bool.eq_false_iff.mpr c20
              subst c20
              have H1 : (thistlelaw03_FoldRules.j1 kj2 x1_2 false) = some r := by rw [if_neg (show ¬ (false = true) by decide)] at H; exact H
              clear H
              have H := H1
              clear H1
              have H' := Aside0.mk H
              clear H
              go_wp2_with (first | ((with_reducible refine gate_callee (f := 16) rfl ?_); refine goesL_ (some 19) rfl rfl Try.func16 (by kernel_rfl) rfl #[.int .i32 65, .int .i32 10, .int .i32 1, .int .i32 32, .int .i32 0] rfl (by (try simp only [List.map_toArray, List.map_cons, List.map_nil]); first | done | rfl | (simp only [List.length_drop, List.length_take]; rfl)) ?_; (with_reducible refine (thistlelaw03_pairs.calls kj2 65 10 1 32 0 true _ A17.out).mono ?_); rintro e w38 ⟨rfl, hb⟩; refine ⟨_, rfl, ?_⟩; have n0_ := Aside0.mk (below_step (by repeat (first | (with_reducible first | exact HB.out | apply below_alloc | apply pw_below_drewN | apply below_drew1) | exact HB.out)) hb); clear HB; have HB := n0_; clear n0_; (try clear hb); (try clear hb2); (try clear hk); (try clear hi)) | (go_at_call 16; (with_reducible refine (thistlelaw03_pairs.calls kj2 76 7 1 32 0 false _ A19.out).mono ?_); rintro e w39 ⟨rfl, hb⟩; have n0_ := Aside0.mk (below_step (by repeat (first | (with_reducible first | exact HB.out | apply below_alloc | apply pw_below_drewN | apply below_drew1) | exact HB.out)) hb); clear HB; have HB := n0_; clear n0_; (try clear hb); (try clear hb2); (try clear hk); (try clear hi)))
              go_meet
              case rel => exact ⟨_, (false), (by first | rfl | (simp; done) | (simp [*]; done)), H', ⟨by have := HJ2.out; first | omega | exact Nat.le_refl _⟩, ⟨by repeat (first | (with_reducible first | exact HB.out | apply below_alloc | apply pw_below_drewN | apply below_drew1) | exact HB.out)⟩⟩
          · replace c18 := Bool.eq_false_iff.mpr c18
            subst c18
            have H1 : (thistlelaw03_FoldRules.j1 kj2 x1_2 false) = some r := by rw [if_neg (show ¬ (false = true) by decide)] at H; exact H
            clear H
            have H := H1
            clear H1
            have H' := Aside0.mk H
            clear H
            go_wp2_with (first | ((with_reducible refine gate_callee (f := 16) rfl ?_); refine goesL_ (some 19) rfl rfl Try.func16 (by kernel_rfl) rfl #[.int .i32 65, .int .i32 10, .int .i32 1, .int .i32 32, .int .i32 0] rfl (by (try simp only [List.map_toArray, List.map_cons, List.map_nil]); first | done | rfl | (simp only [List.length_drop, List.length_take]; rfl)) ?_; (with_reducible refine (thistlelaw03_pairs.calls kj2 65 10 1 32 0 false _ A17.out).mono ?_); rintro e w40 ⟨rfl, hb⟩; refine ⟨_, rfl, ?_⟩; have n0_ := Aside0.mk (below_step (by repeat (first | (with_reducible first | exact HB.out | apply below_alloc | apply pw_below_drewN | apply below_drew1) | exact HB.out)) hb); clear HB; have HB := n0_; clear n0_; (try clear hb); (try clear hb2); (try clear hk); (try clear hi)))
            go_meet
            case rel => exact ⟨_, (false), (by first | rfl | (simp; done) | (simp [*]; done)), H', ⟨by have := HJ2.out; first | omega | exact Nat.le_refl _⟩, ⟨by repeat (first | (with_reducible first | exact HB.out | apply below_alloc | apply pw_below_drewN | apply below_drew1) | exact HB.out)⟩⟩
        case rest =>
          clear HC16
          try clear c1
          try clear c2
          try clear p2
          try clear c5
          try clear c6
          try clear c7
          try clear c8
          try clear c16
          try clear c18
          try clear c20
          try clear c22
          try clear c24
          try clear p2
          obtain ⟨kq, x2_15, rfl, HA, HJ15, HB⟩ := hcut
          cases kq with
          | zero => exact absurd HA.out (by simp [thistlelaw03_FoldRules.j1])
          | succ kj15 =>
            have H := HA.out
            clear HA
            simp only [thistlelaw03_FoldRules.j1] at H
            have HC41 := Aside0.mk H
            clear H
            go_upto_region 5 with (fail)
            go_cut [3] (fun v3 wc => ∃ (kq : Nat) (x3_40 : Bool), v3 = .bool x3_40 ∧ Aside0 (thistlelaw03_FoldRules.j2 kq x1_2 x2_15 x3_40 = some r) ∧ Aside0 (kq ≤ kj15) ∧ Aside0 (Below w.heap.size w wc))
            case first =>
              have H := HC41.out
              clear HC41
              replace H := Option.bind_eq_some_iff.mp H
              obtain ⟨t245, A420, H⟩ := H
              replace H : (if t245 = true then ((thistlelaw03_pairs.f kj15 65313 26 1 32 0).bind fun t246 => (if t246 = true then ((thistlelaw03_pairs.f kj15 1024 16 1 80 0).bind fun t247 => (if t247 = true then ((thistlelaw03_pairs.f kj15 66560 40 1 40 0).bind fun t248 => (thistlelaw03_FoldRules.j2 kj15 x1_2 x2_15 t248)) else (thistlelaw03_FoldRules.j2 kj15 x1_2 x2_15 false))) else (thistlelaw03_FoldRules.j2 kj15 x1_2 x2_15 false))) else (thistlelaw03_FoldRules.j2 kj15 x1_2 x2_15 false)) = some r := H
              have A42 := Aside0.mk A420
              clear A420
              by_cases c43 : t245 = true
              · subst c43
                have H1 : ((thistlelaw03_pairs.f kj15 65313 26 1 32 0).bind fun t246 => (if t246 = true then ((thistlelaw03_pairs.f kj15 1024 16 1 80 0).bind fun t247 => (if t247 = true then ((thistlelaw03_pairs.f kj15 66560 40 1 40 0).bind fun t248 => (thistlelaw03_FoldRules.j2 kj15 x1_2 x2_15 t248)) else (thistlelaw03_FoldRules.j2 kj15 x1_2 x2_15 false))) else (thistlelaw03_FoldRules.j2 kj15 x1_2 x2_15 false))) = some r := by rw [if_pos rfl] at H; exact H
                clear H
                have H := H1
                clear H1
                replace H := Option.bind_eq_some_iff.mp H
                obtain ⟨t246, A440, H⟩ := H
                replace H : (if t246 = true then ((thistlelaw03_pairs.f kj15 1024 16 1 80 0).bind fun t247 => (if t247 = true then ((thistlelaw03_pairs.f kj15 66560 40 1 40 0).bind fun t248 => (thistlelaw03_FoldRules.j2 kj15 x1_2 x2_15 t248)) else (thistlelaw03_FoldRules.j2 kj15 x1_2 x2_15 false))) else (thistlelaw03_FoldRules.j2 kj15 x1_2 x2_15 false)) = some r := H
                have A44 := Aside0.mk A440
                clear A440
                by_cases c45 : t246 = true
                · subst c45
                  have H1 : ((thistlelaw03_pairs.f kj15 1024 16 1 80 0).bind fun t247 => (if t247 = true then ((thistlelaw03_pairs.f kj15 66560 40 1 40 0).bind fun t248 => (thistlelaw03_FoldRules.j2 kj15 x1_2 x2_15 t248)) else (thistlelaw03_FoldRules.j2 kj15 x1_2 x2_15 false))) = some r := by rw [if_pos rfl] at H; exact H
                  clear H
                  have H := H1
                  clear H1
                  replace H := Option.bind_eq_some_iff.mp H
                  obtain ⟨t247, A460, H⟩ := H
                  replace H : (if t247 = true then ((thistlelaw03_pairs.f kj15 66560 40 1 40 0).bind fun t248 => (thistlelaw03_FoldRules.j2 kj15 x1_2 x2_15 t248)) else (thistlelaw03_FoldRules.j2 kj15 x1_2 x2_15 false)) = some r := H
                  have A46 := Aside0.mk A460
                  clear A460
                  by_cases c47 : t247 = true
                  · subst c47
                    have H1 : ((thistlelaw03_pairs.f kj15 66560 40 1 40 0).bind fun t248 => (thistlelaw03_FoldRules.j2 kj15 x1_2 x2_15 t248)) = some r := by rw [if_pos rfl] at H; exact H
                    clear H
                    have H := H1
                    clear H1
                    replace H := Option.bind_eq_some_iff.mp H
                    obtain ⟨t248, A480, H⟩ := H
                    replace H : (thistlelaw03_FoldRules.j2 kj15 x1_2 x2_15 t248) = some r := H
                    have A48 := Aside0.mk A480
                    clear A480
                    have H' := Aside0.mk H
                    clear H
                    go_wp2_with (first | ((with_reducible refine gate_callee (f := 16) rfl ?_); refine goesL_ (some 32) rfl rfl Try.func16 (by kernel_rfl) rfl #[.int .i32 1040, .int .i32 32, .int .i32 1, .int .i32 32, .int .i32 0] rfl (by (try simp only [List.map_toArray, List.map_cons, List.map_nil]); first | done | rfl | (simp only [List.length_drop, List.length_take]; rfl)) ?_; (with_reducible refine (thistlelaw03_pairs.calls kj15 1040 32 1 32 0 true _ A42.out).mono ?_); rintro e w49 ⟨rfl, hb⟩; refine ⟨_, rfl, ?_⟩; have n0_ := Aside0.mk (below_step (by repeat (first | (with_reducible first | exact HB.out | apply below_alloc | apply pw_below_drewN | apply below_drew1) | exact HB.out)) hb); clear HB; have HB := n0_; clear n0_; (try clear hb); (try clear hb2); (try clear hk); (try clear hi)) | (go_at_call 16; (with_reducible refine (thistlelaw03_pairs.calls kj15 65313 26 1 32 0 true _ A44.out).mono ?_); rintro e w50 ⟨rfl, hb⟩; have n0_ := Aside0.mk (below_step (by repeat (first | (with_reducible first | exact HB.out | apply below_alloc | apply pw_below_drewN | apply below_drew1) | exact HB.out)) hb); clear HB; have HB := n0_; clear n0_; (try clear hb); (try clear hb2); (try clear hk); (try clear hi)) | (go_at_call 16; (with_reducible refine (thistlelaw03_pairs.calls kj15 1024 16 1 80 0 true _ A46.out).mono ?_); rintro e w51 ⟨rfl, hb⟩; have n0_ := Aside0.mk (below_step (by repeat (first | (with_reducible first | exact HB.out | apply below_alloc | apply pw_below_drewN | apply below_drew1) | exact HB.out)) hb); clear HB; have HB := n0_; clear n0_; (try clear hb); (try clear hb2); (try clear hk); (try clear hi)) | (go_at_call 16; (with_reducible refine (thistlelaw03_pairs.calls kj15 66560 40 1 40 0 t248 _ A48.out).mono ?_); rintro e w52 ⟨rfl, hb⟩; have n0_ := Aside0.mk (below_step (by repeat (first | (with_reducible first | exact HB.out | apply below_alloc | apply pw_below_drewN | apply below_drew1) | exact HB.out)) hb); clear HB; have HB := n0_; clear n0_; (try clear hb); (try clear hb2); (try clear hk); (try clear hi)))
                    go_meet
                    case rel => exact ⟨_, (t248), (by first | rfl | (simp; done) | (simp [*]; done)), H', ⟨by have := HJ2.out; have := HJ15.out; first | omega | exact Nat.le_refl _⟩, ⟨by repeat (first | (with_reducible first | exact HB.out | apply below_alloc | apply pw_below_drewN | apply below_drew1) | exact HB.out)⟩⟩
                  · replace c47 := Bool.eq_false_iff.mpr c47
                    subst c47
                    have H1 : (thistlelaw03_FoldRules.j2 kj15 x1_2 x2_15 false) = some r := by rw [if_neg (show ¬ (false = true) by decide)] at H; exact H
                    clear H
                    have H := H1
                    clear H1
                    have H' := Aside0.mk H
                    clear H
                    go_wp2_with (first | ((with_reducible refine gate_callee (f := 16) rfl ?_); refine goesL_ (some 32) rfl rfl Try.func16 (by kernel_rfl) rfl #[.int .i32 1040, .int .i32 32, .int .i32 1, .int .i32 32, .int .i32 0] rfl (by (try simp only [List.map_toArray, List.map_cons, List.map_nil]); first | done | rfl | (simp only [List.length_drop, List.length_take]; rfl)) ?_; (with_reducible refine (thistlelaw03_pairs.calls kj15 1040 32 1 32 0 true _ A42.out).mono ?_); rintro e w53 ⟨rfl, hb⟩; refine ⟨_, rfl, ?_⟩; have n0_ := Aside0.mk (below_step (by repeat (first | (with_reducible first | exact HB.out | apply below_alloc | apply pw_below_drewN | apply below_drew1) | exact HB.out)) hb); clear HB; have HB := n0_; clear n0_; (try clear hb); (try clear hb2); (try clear hk); (try clear hi)) | (go_at_call 16; (with_reducible refine (thistlelaw03_pairs.calls kj15 65313 26 1 32 0 true _ A44.out).mono ?_); rintro e w54 ⟨rfl, hb⟩; have n0_ := Aside0.mk (below_step (by repeat (first | (with_reducible first | exact HB.out | apply below_alloc | apply pw_below_drewN | apply below_drew1) | exact HB.out)) hb); clear HB; have HB := n0_; clear n0_; (try clear hb); (try clear hb2); (try clear hk); (try clear hi)) | (go_at_call 16; (with_reducible refine (thistlelaw03_pairs.calls kj15 1024 16 1 80 0 false _ A46.out).mono ?_); rintro e w55 ⟨rfl, hb⟩; have n0_ := Aside0.mk (below_step (by repeat (first | (with_reducible first | exact HB.out | apply below_alloc | apply pw_below_drewN | apply below_drew1) | exact HB.out)) hb); clear HB; have HB := n0_; clear n0_; (try clear hb); (try clear hb2); (try clear hk); (try clear hi)))
                    go_meet
                    case rel => exact ⟨_, (false), (by first | rfl | (simp; done) | (simp [*]; done)), H', ⟨by have := HJ2.out; have := HJ15.out; first | omega | exact Nat.le_refl _⟩, ⟨by repeat (first | (with_reducible first | exact HB.out | apply below_alloc | apply pw_below_drewN | apply below_drew1) | exact HB.out)⟩⟩
                · replace c45 := Bool.eq_false_iff.mpr c45
                  subst c45
                  have H1 : (thistlelaw03_FoldRules.j2 kj15 x1_2 x2_15 false) = some r := by rw [if_neg (show ¬ (false = true) by decide)] at H; exact H
                  clear H
                  have H := H1
                  clear H1
                  have H' := Aside0.mk H
                  clear H
                  go_wp2_with (first | ((with_reducible refine gate_callee (f := 16) rfl ?_); refine goesL_ (some 32) rfl rfl Try.func16 (by kernel_rfl) rfl #[.int .i32 1040, .int .i32 32, .int .i32 1, .int .i32 32, .int .i32 0] rfl (by (try simp only [List.map_toArray, List.map_cons, List.map_nil]); first | done | rfl | (simp only [List.length_drop, List.length_take]; rfl)) ?_; (with_reducible refine (thistlelaw03_pairs.calls kj15 1040 32 1 32 0 true _ A42.out).mono ?_); rintro e w56 ⟨rfl, hb⟩; refine ⟨_, rfl, ?_⟩; have n0_ := Aside0.mk (below_step (by repeat (first | (with_reducible first | exact HB.out | apply below_alloc | apply pw_below_drewN | apply below_drew1) | exact HB.out)) hb); clear HB; have HB := n0_; clear n0_; (try clear hb); (try clear hb2); (try clear hk); (try clear hi)) | (go_at_call 16; (with_reducible refine (thistlelaw03_pairs.calls kj15 65313 26 1 32 0 false _ A44.out).mono ?_); rintro e w57 ⟨rfl, hb⟩; have n0_ := Aside0.mk (below_step (by repeat (first | (with_reducible first | exact HB.out | apply below_alloc | apply pw_below_drewN | apply below_drew1) | exact HB.out)) hb); clear HB; have HB := n0_; clear n0_; (try clear hb); (try clear hb2); (try clear hk); (try clear hi)))
                  go_meet
                  case rel => exact ⟨_, (false), (by first | rfl | (simp; done) | (simp [*]; done)), H', ⟨by have := HJ2.out; have := HJ15.out; first | omega | exact Nat.le_refl _⟩, ⟨by repeat (first | (with_reducible first | exact HB.out | apply below_alloc | apply pw_below_drewN | apply below_drew1) | exact HB.out)⟩⟩
              · replace c43 := Bool.eq_false_iff.mpr c43
                subst c43
                have H1 : (thistlelaw03_FoldRules.j2 kj15 x1_2 x2_15 false) = some r := by rw [if_neg (show ¬ (false = true) by decide)] at H; exact H
                clear H
                have H := H1
                clear H1
                have H' := Aside0.mk H
                clear H
                go_wp2_with (first | ((with_reducible refine gate_callee (f := 16) rfl ?_); refine goesL_ (some 32) rfl rfl Try.func16 (by kernel_rfl) rfl #[.int .i32 1040, .int .i32 32, .int .i32 1, .int .i32 32, .int .i32 0] rfl (by (try simp only [List.map_toArray, List.map_cons, List.map_nil]); first | done | rfl | (simp only [List.length_drop, List.length_take]; rfl)) ?_; (with_reducible refine (thistlelaw03_pairs.calls kj15 1040 32 1 32 0 false _ A42.out).mono ?_); rintro e w58 ⟨rfl, hb⟩; refine ⟨_, rfl, ?_⟩; have n0_ := Aside0.mk (below_step (by repeat (first | (with_reducible first | exact HB.out | apply below_alloc | apply pw_below_drewN | apply below_drew1) | exact HB.out)) hb); clear HB; have HB := n0_; clear n0_; (try clear hb); (try clear hb2); (try clear hk); (try clear hi)))
                go_meet
                case rel => exact ⟨_, (false), (by first | rfl | (simp; done) | (simp [*]; done)), H', ⟨by have := HJ2.out; have := HJ15.out; first | omega | exact Nat.le_refl _⟩, ⟨by repeat (first | (with_reducible first | exact HB.out | apply below_alloc | apply pw_below_drewN | apply below_drew1) | exact HB.out)⟩⟩
            case rest =>
              clear HC41
              try clear c1
              try clear c2
              try clear p2
              try clear c4
              try clear c5
              try clear c6
              try clear c7
              try clear c8
              try clear c16
              try clear c18
              try clear c20
              try clear c22
              try clear c24
              try clear c43
              try clear c45
              try clear c47
              try clear p2
              obtain ⟨kq, x3_40, rfl, HA, HJ40, HB⟩ := hcut
              cases kq with
              | zero => exact absurd HA.out (by simp [thistlelaw03_FoldRules.j2])
              | succ kj40 =>
                have H := HA.out
                clear HA
                simp only [thistlelaw03_FoldRules.j2] at H
                have HC59 := Aside0.mk H
                clear H
                go_upto_region 6 with (fail)
                go_cut [4] (fun v4 wc => ∃ (kq : Nat) (x4_58 : Bool), v4 = .bool x4_58 ∧ Aside0 (thistlelaw03_FoldRules.j3 kq x1_2 x2_15 x3_40 x4_58 = some r) ∧ Aside0 (kq ≤ kj40) ∧ Aside0 (Below w.heap.size w wc))
                case first =>
                  have H := HC59.out
                  clear HC59
                  replace H := Option.bind_eq_some_iff.mp H
                  obtain ⟨t249, A600, H⟩ := H
                  replace H : (if t249 = true then ((thistlelaw03_pairs.f kj40 306 6 2 1 0).bind fun t250 => (if t250 = true then ((thistlelaw03_pairs.f kj40 330 46 2 1 0).bind fun t251 => (if t251 = true then ((thistlelaw03_pairs.f kj40 7680 150 2 1 0).bind fun t252 => (if t252 = true then ((thistlelaw03_pairs.f kj40 313 16 2 1 0).bind fun t253 => (if t253 = true then ((thistlelaw03_pairs.f kj40 377 6 2 1 0).bind fun t254 => (thistlelaw03_FoldRules.j3 kj40 x1_2 x2_15 x3_40 t254)) else (thistlelaw03_FoldRules.j3 kj40 x1_2 x2_15 x3_40 false))) else (thistlelaw03_FoldRules.j3 kj40 x1_2 x2_15 x3_40 false))) else (thistlelaw03_FoldRules.j3 kj40 x1_2 x2_15 x3_40 false))) else (thistlelaw03_FoldRules.j3 kj40 x1_2 x2_15 x3_40 false))) else (thistlelaw03_FoldRules.j3 kj40 x1_2 x2_15 x3_40 false)) = some r := H
                  have A60 := Aside0.mk A600
                  clear A600
                  by_cases c61 : t249 = true
                  · subst c61
                    have H1 : ((thistlelaw03_pairs.f kj40 306 6 2 1 0).bind fun t250 => (if t250 = true then ((thistlelaw03_pairs.f kj40 330 46 2 1 0).bind fun t251 => (if t251 = true then ((thistlelaw03_pairs.f kj40 7680 150 2 1 0).bind fun t252 => (if t252 = true then ((thistlelaw03_pairs.f kj40 313 16 2 1 0).bind fun t253 => (if t253 = true then ((thistlelaw03_pairs.f kj40 377 6 2 1 0).bind fun t254 => (thistlelaw03_FoldRules.j3 kj40 x1_2 x2_15 x3_40 t254)) else (thistlelaw03_FoldRules.j3 kj40 x1_2 x2_15 x3_40 false))) else (thistlelaw03_FoldRules.j3 kj40 x1_2 x2_15 x3_40 false))) else (thistlelaw03_FoldRules.j3 kj40 x1_2 x2_15 x3_40 false))) else (thistlelaw03_FoldRules.j3 kj40 x1_2 x2_15 x3_40 false))) = some r := by rw [if_pos rfl] at H; exact H
                    clear H
                    have H := H1
                    clear H1
                    replace H := Option.bind_eq_some_iff.mp H
                    obtain ⟨t250, A620, H⟩ := H
                    replace H : (if t250 = true then ((thistlelaw03_pairs.f kj40 330 46 2 1 0).bind fun t251 => (if t251 = true then ((thistlelaw03_pairs.f kj40 7680 150 2 1 0).bind fun t252 => (if t252 = true then ((thistlelaw03_pairs.f kj40 313 16 2 1 0).bind fun t253 => (if t253 = true then ((thistlelaw03_pairs.f kj40 377 6 2 1 0).bind fun t254 => (thistlelaw03_FoldRules.j3 kj40 x1_2 x2_15 x3_40 t254)) else (thistlelaw03_FoldRules.j3 kj40 x1_2 x2_15 x3_40 false))) else (thistlelaw03_FoldRules.j3 kj40 x1_2 x2_15 x3_40 false))) else (thistlelaw03_FoldRules.j3 kj40 x1_2 x2_15 x3_40 false))) else (thistlelaw03_FoldRules.j3 kj40 x1_2 x2_15 x3_40 false)) = some r := H
                    have A62 := Aside0.mk A620
                    clear A620
                    by_cases c63 : t250 = true
                    · subst c63
                      have H1 : ((thistlelaw03_pairs.f kj40 330 46 2 1 0).bind fun t251 => (if t251 = true then ((thistlelaw03_pairs.f kj40 7680 150 2 1 0).bind fun t252 => (if t252 = true then ((thistlelaw03_pairs.f kj40 313 16 2 1 0).bind fun t253 => (if t253 = true then ((thistlelaw03_pairs.f kj40 377 6 2 1 0).bind fun t254 => (thistlelaw03_FoldRules.j3 kj40 x1_2 x2_15 x3_40 t254)) else (thistlelaw03_FoldRules.j3 kj40 x1_2 x2_15 x3_40 false))) else (thistlelaw03_FoldRules.j3 kj40 x1_2 x2_15 x3_40 false))) else (thistlelaw03_FoldRules.j3 kj40 x1_2 x2_15 x3_40 false))) = some r := by rw [if_pos rfl] at H; exact H
                      clear H
                      have H := H1
                      clear H1
                      replace H := Option.bind_eq_some_iff.mp H
                      obtain ⟨t251, A640, H⟩ := H
                      replace H : (if t251 = true then ((thistlelaw03_pairs.f kj40 7680 150 2 1 0).bind fun t252 => (if t252 = true then ((thistlelaw03_pairs.f kj40 313 16 2 1 0).bind fun t253 => (if t253 = true then ((thistlelaw03_pairs.f kj40 377 6 2 1 0).bind fun t254 => (thistlelaw03_FoldRules.j3 kj40 x1_2 x2_15 x3_40 t254)) else (thistlelaw03_FoldRules.j3 kj40 x1_2 x2_15 x3_40 false))) else (thistlelaw03_FoldRules.j3 kj40 x1_2 x2_15 x3_40 false))) else (thistlelaw03_FoldRules.j3 kj40 x1_2 x2_15 x3_40 false)) = some r := H
                      have A64 := Aside0.mk A640
                      clear A640
                      by_cases c65 : t251 = true
                      · subst c65
                        have H1 : ((thistlelaw03_pairs.f kj40 7680 150 2 1 0).bind fun t252 => (if t252 = true then ((thistlelaw03_pairs.f kj40 313 16 2 1 0).bind fun t253 => (if t253 = true then ((thistlelaw03_pairs.f kj40 377 6 2 1 0).bind fun t254 => (thistlelaw03_FoldRules.j3 kj40 x1_2 x2_15 x3_40 t254)) else (thistlelaw03_FoldRules.j3 kj40 x1_2 x2_15 x3_40 false))) else (thistlelaw03_FoldRules.j3 kj40 x1_2 x2_15 x3_40 false))) = some r := by rw [if_pos rfl] at H; exact H
                        clear H
                        have H := H1
                        clear H1
                        replace H := Option.bind_eq_some_iff.mp H
                        obtain ⟨t252, A660, H⟩ := H
                        replace H : (if t252 = true then ((thistlelaw03_pairs.f kj40 313 16 2 1 0).bind fun t253 => (if t253 = true then ((thistlelaw03_pairs.f kj40 377 6 2 1 0).bind fun t254 => (thistlelaw03_FoldRules.j3 kj40 x1_2 x2_15 x3_40 t254)) else (thistlelaw03_FoldRules.j3 kj40 x1_2 x2_15 x3_40 false))) else (thistlelaw03_FoldRules.j3 kj40 x1_2 x2_15 x3_40 false)) = some r := H
                        have A66 := Aside0.mk A660
                        clear A660
                        by_cases c67 : t252 = true
                        · subst c67
                          have H1 : ((thistlelaw03_pairs.f kj40 313 16 2 1 0).bind fun t253 => (if t253 = true then ((thistlelaw03_pairs.f kj40 377 6 2 1 0).bind fun t254 => (thistlelaw03_FoldRules.j3 kj40 x1_2 x2_15 x3_40 t254)) else (thistlelaw03_FoldRules.j3 kj40 x1_2 x2_15 x3_40 false))) = some r := by rw [if_pos rfl] at H; exact H
                          clear H
                          have H := H1
                          clear H1
                          replace H := Option.bind_eq_some_iff.mp H
                          obtain ⟨t253, A680, H⟩ := H
                          replace H : (if t253 = true then ((thistlelaw03_pairs.f kj40 377 6 2 1 0).bind fun t254 => (thistlelaw03_FoldRules.j3 kj40 x1_2 x2_15 x3_40 t254)) else (thistlelaw03_FoldRules.j3 kj40 x1_2 x2_15 x3_40 false)) = some r := H
                          have A68 := Aside0.mk A680
                          clear A680
                          by_cases c69 : t253 = true
                          · subst c69
                            have H1 : ((thistlelaw03_pairs.f kj40 377 6 2 1 0).bind fun t254 => (thistlelaw03_FoldRules.j3 kj40 x1_2 x2_15 x3_40 t254)) = some r := by rw [if_pos rfl] at H; exact H
                            clear H
                            have H := H1
                            clear H1
                            replace H := Option.bind_eq_some_iff.mp H
                            obtain ⟨t254, A700, H⟩ := H
                            replace H : (thistlelaw03_FoldRules.j3 kj40 x1_2 x2_15 x3_40 t254) = some r := H
                            have A70 := Aside0.mk A700
                            clear A700
                            have H' := Aside0.mk H
                            clear H
                            go_wp2_with (first | ((with_reducible refine gate_callee (f := 16) rfl ?_); refine goesL_ (some 42) rfl rfl Try.func16 (by kernel_rfl) rfl #[.int .i32 256, .int .i32 48, .int .i32 2, .int .i32 1, .int .i32 0] rfl (by (try simp only [List.map_toArray, List.map_cons, List.map_nil]); first | done | rfl | (simp only [List.length_drop, List.length_take]; rfl)) ?_; (with_reducible refine (thistlelaw03_pairs.calls kj40 256 48 2 1 0 true _ A60.out).mono ?_); rintro e w71 ⟨rfl, hb⟩; refine ⟨_, rfl, ?_⟩; have n0_ := Aside0.mk (below_step (by repeat (first | (with_reducible first | exact HB.out | apply below_alloc | apply pw_below_drewN | apply below_drew1) | exact HB.out)) hb); clear HB; have HB := n0_; clear n0_; (try clear hb); (try clear hb2); (try clear hk); (try clear hi)) | (go_at_call 16; (with_reducible refine (thistlelaw03_pairs.calls kj40 306 6 2 1 0 true _ A62.out).mono ?_); rintro e w72 ⟨rfl, hb⟩; have n0_ := Aside0.mk (below_step (by repeat (first | (with_reducible first | exact HB.out | apply below_alloc | apply pw_below_drewN | apply below_drew1) | exact HB.out)) hb); clear HB; have HB := n0_; clear n0_; (try clear hb); (try clear hb2); (try clear hk); (try clear hi)) | (go_at_call 16; (with_reducible refine (thistlelaw03_pairs.calls kj40 330 46 2 1 0 true _ A64.out).mono ?_); rintro e w73 ⟨rfl, hb⟩; have n0_ := Aside0.mk (below_step (by repeat (first | (with_reducible first | exact HB.out | apply below_alloc | apply pw_below_drewN | apply below_drew1) | exact HB.out)) hb); clear HB; have HB := n0_; clear n0_; (try clear hb); (try clear hb2); (try clear hk); (try clear hi)) | (go_at_call 16; (with_reducible refine (thistlelaw03_pairs.calls kj40 7680 150 2 1 0 true _ A66.out).mono ?_); rintro e w74 ⟨rfl, hb⟩; have n0_ := Aside0.mk (below_step (by repeat (first | (with_reducible first | exact HB.out | apply below_alloc | apply pw_below_drewN | apply below_drew1) | exact HB.out)) hb); clear HB; have HB := n0_; clear n0_; (try clear hb); (try clear hb2); (try clear hk); (try clear hi)) | (go_at_call 16; (with_reducible refine (thistlelaw03_pairs.calls kj40 313 16 2 1 0 true _ A68.out).mono ?_); rintro e w75 ⟨rfl, hb⟩; have n0_ := Aside0.mk (below_step (by repeat (first | (with_reducible first | exact HB.out | apply below_alloc | apply pw_below_drewN | apply below_drew1) | exact HB.out)) hb); clear HB; have HB := n0_; clear n0_; (try clear hb); (try clear hb2); (try clear hk); (try clear hi)) | (go_at_call 16; (with_reducible refine (thistlelaw03_pairs.calls kj40 377 6 2 1 0 t254 _ A70.out).mono ?_); rintro e w76 ⟨rfl, hb⟩; have n0_ := Aside0.mk (below_step (by repeat (first | (with_reducible first | exact HB.out | apply below_alloc | apply pw_below_drewN | apply below_drew1) | exact HB.out)) hb); clear HB; have HB := n0_; clear n0_; (try clear hb); (try clear hb2); (try clear hk); (try clear hi)))
                            go_meet
                            case rel => exact ⟨_, (t254), (by first | rfl | (simp; done) | (simp [*]; done)), H', ⟨by have := HJ2.out; have := HJ15.out; have := HJ40.out; first | omega | exact Nat.le_refl _⟩, ⟨by repeat (first | (with_reducible first | exact HB.out | apply below_alloc | apply pw_below_drewN | apply below_drew1) | exact HB.out)⟩⟩
                          · replace c69 := Bool.eq_false_iff.mpr c69
                            subst c69
                            have H1 : (thistlelaw03_FoldRules.j3 kj40 x1_2 x2_15 x3_40 false) = some r := by rw [if_neg (show ¬ (false = true) by decide)] at H; exact H
                            clear H
                            have H := H1
                            clear H1
                            have H' := Aside0.mk H
                            clear H
                            go_wp2_with (first | ((with_reducible refine gate_callee (f := 16) rfl ?_); refine goesL_ (some 42) rfl rfl Try.func16 (by kernel_rfl) rfl #[.int .i32 256, .int .i32 48, .int .i32 2, .int .i32 1, .int .i32 0] rfl (by (try simp only [List.map_toArray, List.map_cons, List.map_nil]); first | done | rfl | (simp only [List.length_drop, List.length_take]; rfl)) ?_; (with_reducible refine (thistlelaw03_pairs.calls kj40 256 48 2 1 0 true _ A60.out).mono ?_); rintro e w77 ⟨rfl, hb⟩; refine ⟨_, rfl, ?_⟩; have n0_ := Aside0.mk (below_step (by repeat (first | (with_reducible first | exact HB.out | apply below_alloc | apply pw_below_drewN | apply below_drew1) | exact HB.out)) hb); clear HB; have HB := n0_; clear n0_; (try clear hb); (try clear hb2); (try clear hk); (try clear hi)) | (go_at_call 16; (with_reducible refine (thistlelaw03_pairs.calls kj40 306 6 2 1 0 true _ A62.out).mono ?_); rintro e w78 ⟨rfl, hb⟩; have n0_ := Aside0.mk (below_step (by repeat (first | (with_reducible first | exact HB.out | apply below_alloc | apply pw_below_drewN | apply below_drew1) | exact HB.out)) hb); clear HB; have HB := n0_; clear n0_; (try clear hb); (try clear hb2); (try clear hk); (try clear hi)) | (go_at_call 16; (with_reducible refine (thistlelaw03_pairs.calls kj40 330 46 2 1 0 true _ A64.out).mono ?_); rintro e w79 ⟨rfl, hb⟩; have n0_ := Aside0.mk (below_step (by repeat (first | (with_reducible first | exact HB.out | apply below_alloc | apply pw_below_drewN | apply below_drew1) | exact HB.out)) hb); clear HB; have HB := n0_; clear n0_; (try clear hb); (try clear hb2); (try clear hk); (try clear hi)) | (go_at_call 16; (with_reducible refine (thistlelaw03_pairs.calls kj40 7680 150 2 1 0 true _ A66.out).mono ?_); rintro e w80 ⟨rfl, hb⟩; have n0_ := Aside0.mk (below_step (by repeat (first | (with_reducible first | exact HB.out | apply below_alloc | apply pw_below_drewN | apply below_drew1) | exact HB.out)) hb); clear HB; have HB := n0_; clear n0_; (try clear hb); (try clear hb2); (try clear hk); (try clear hi)) | (go_at_call 16; (with_reducible refine (thistlelaw03_pairs.calls kj40 313 16 2 1 0 false _ A68.out).mono ?_); rintro e w81 ⟨rfl, hb⟩; have n0_ := Aside0.mk (below_step (by repeat (first | (with_reducible first | exact HB.out | apply below_alloc | apply pw_below_drewN | apply below_drew1) | exact HB.out)) hb); clear HB; have HB := n0_; clear n0_; (try clear hb); (try clear hb2); (try clear hk); (try clear hi)))
                            go_meet
                            case rel => exact ⟨_, (false), (by first | rfl | (simp; done) | (simp [*]; done)), H', ⟨by have := HJ2.out; have := HJ15.out; have := HJ40.out; first | omega | exact Nat.le_refl _⟩, ⟨by repeat (first | (with_reducible first | exact HB.out | apply below_alloc | apply pw_below_drewN | apply below_drew1) | exact HB.out)⟩⟩
                        · replace c67 := Bool.eq_false_iff.mpr c67
                          subst c67
                          have H1 : (thistlelaw03_FoldRules.j3 kj40 x1_2 x2_15 x3_40 false) = some r := by rw [if_neg (show ¬ (false = true) by decide)] at H; exact H
                          clear H
                          have H := H1
                          clear H1
                          have H' := Aside0.mk H
                          clear H
                          go_wp2_with (first | ((with_reducible refine gate_callee (f := 16) rfl ?_); refine goesL_ (some 42) rfl rfl Try.func16 (by kernel_rfl) rfl #[.int .i32 256, .int .i32 48, .int .i32 2, .int .i32 1, .int .i32 0] rfl (by (try simp only [List.map_toArray, List.map_cons, List.map_nil]); first | done | rfl | (simp only [List.length_drop, List.length_take]; rfl)) ?_; (with_reducible refine (thistlelaw03_pairs.calls kj40 256 48 2 1 0 true _ A60.out).mono ?_); rintro e w82 ⟨rfl, hb⟩; refine ⟨_, rfl, ?_⟩; have n0_ := Aside0.mk (below_step (by repeat (first | (with_reducible first | exact HB.out | apply below_alloc | apply pw_below_drewN | apply below_drew1) | exact HB.out)) hb); clear HB; have HB := n0_; clear n0_; (try clear hb); (try clear hb2); (try clear hk); (try clear hi)) | (go_at_call 16; (with_reducible refine (thistlelaw03_pairs.calls kj40 306 6 2 1 0 true _ A62.out).mono ?_); rintro e w83 ⟨rfl, hb⟩; have n0_ := Aside0.mk (below_step (by repeat (first | (with_reducible first | exact HB.out | apply below_alloc | apply pw_below_drewN | apply below_drew1) | exact HB.out)) hb); clear HB; have HB := n0_; clear n0_; (try clear hb); (try clear hb2); (try clear hk); (try clear hi)) | (go_at_call 16; (with_reducible refine (thistlelaw03_pairs.calls kj40 330 46 2 1 0 true _ A64.out).mono ?_); rintro e w84 ⟨rfl, hb⟩; have n0_ := Aside0.mk (below_step (by repeat (first | (with_reducible first | exact HB.out | apply below_alloc | apply pw_below_drewN | apply below_drew1) | exact HB.out)) hb); clear HB; have HB := n0_; clear n0_; (try clear hb); (try clear hb2); (try clear hk); (try clear hi)) | (go_at_call 16; (with_reducible refine (thistlelaw03_pairs.calls kj40 7680 150 2 1 0 false _ A66.out).mono ?_); rintro e w85 ⟨rfl, hb⟩; have n0_ := Aside0.mk (below_step (by repeat (first | (with_reducible first | exact HB.out | apply below_alloc | apply pw_below_drewN | apply below_drew1) | exact HB.out)) hb); clear HB; have HB := n0_; clear n0_; (try clear hb); (try clear hb2); (try clear hk); (try clear hi)))
                          go_meet
                          case rel => exact ⟨_, (false), (by first | rfl | (simp; done) | (simp [*]; done)), H', ⟨by have := HJ2.out; have := HJ15.out; have := HJ40.out; first | omega | exact Nat.le_refl _⟩, ⟨by repeat (first | (with_reducible first | exact HB.out | apply below_alloc | apply pw_below_drewN | apply below_drew1) | exact HB.out)⟩⟩
                      · replace c65 := Bool.eq_false_iff.mpr c65
                        subst c65
                        have H1 : (thistlelaw03_FoldRules.j3 kj40 x1_2 x2_15 x3_40 false) = some r := by rw [if_neg (show ¬ (false = true) by decide)] at H; exact H
                        clear H
                        have H := H1
                        clear H1
                        have H' := Aside0.mk H
                        clear H
                        go_wp2_with (first | ((with_reducible refine gate_callee (f := 16) rfl ?_); refine goesL_ (some 42) rfl rfl Try.func16 (by kernel_rfl) rfl #[.int .i32 256, .int .i32 48, .int .i32 2, .int .i32 1, .int .i32 0] rfl (by (try simp only [List.map_toArray, List.map_cons, List.map_nil]); first | done | rfl | (simp only [List.length_drop, List.length_take]; rfl)) ?_; (with_reducible refine (thistlelaw03_pairs.calls kj40 256 48 2 1 0 true _ A60.out).mono ?_); rintro e w86 ⟨rfl, hb⟩; refine ⟨_, rfl, ?_⟩; have n0_ := Aside0.mk (below_step (by repeat (first | (with_reducible first | exact HB.out | apply below_alloc | apply pw_below_drewN | apply below_drew1) | exact HB.out)) hb); clear HB; have HB := n0_; clear n0_; (try clear hb); (try clear hb2); (try clear hk); (try clear hi)) | (go_at_call 16; (with_reducible refine (thistlelaw03_pairs.calls kj40 306 6 2 1 0 true _ A62.out).mono ?_); rintro e w87 ⟨rfl, hb⟩; have n0_ := Aside0.mk (below_step (by repeat (first | (with_reducible first | exact HB.out | apply below_alloc | apply pw_below_drewN | apply below_drew1) | exact HB.out)) hb); clear HB; have HB := n0_; clear n0_; (try clear hb); (try clear hb2); (try clear hk); (try clear hi)) | (go_at_call 16; (with_reducible refine (thistlelaw03_pairs.calls kj40 330 46 2 1 0 false _ A64.out).mono ?_); rintro e w88 ⟨rfl, hb⟩; have n0_ := Aside0.mk (below_step (by repeat (first | (with_reducible first | exact HB.out | apply below_alloc | apply pw_below_drewN | apply below_drew1) | exact HB.out)) hb); clear HB; have HB := n0_; clear n0_; (try clear hb); (try clear hb2); (try clear hk); (try clear hi)))
                        go_meet
                        case rel => exact ⟨_, (false), (by first | rfl | (simp; done) | (simp [*]; done)), H', ⟨by have := HJ2.out; have := HJ15.out; have := HJ40.out; first | omega | exact Nat.le_refl _⟩, ⟨by repeat (first | (with_reducible first | exact HB.out | apply below_alloc | apply pw_below_drewN | apply below_drew1) | exact HB.out)⟩⟩
                    · replace c63 := Bool.eq_false_iff.mpr c63
                      subst c63
                      have H1 : (thistlelaw03_FoldRules.j3 kj40 x1_2 x2_15 x3_40 false) = some r := by rw [if_neg (show ¬ (false = true) by decide)] at H; exact H
                      clear H
                      have H := H1
                      clear H1
                      have H' := Aside0.mk H
                      clear H
                      go_wp2_with (first | ((with_reducible refine gate_callee (f := 16) rfl ?_); refine goesL_ (some 42) rfl rfl Try.func16 (by kernel_rfl) rfl #[.int .i32 256, .int .i32 48, .int .i32 2, .int .i32 1, .int .i32 0] rfl (by (try simp only [List.map_toArray, List.map_cons, List.map_nil]); first | done | rfl | (simp only [List.length_drop, List.length_take]; rfl)) ?_; (with_reducible refine (thistlelaw03_pairs.calls kj40 256 48 2 1 0 true _ A60.out).mono ?_); rintro e w89 ⟨rfl, hb⟩; refine ⟨_, rfl, ?_⟩; have n0_ := Aside0.mk (below_step (by repeat (first | (with_reducible first | exact HB.out | apply below_alloc | apply pw_below_drewN | apply below_drew1) | exact HB.out)) hb); clear HB; have HB := n0_; clear n0_; (try clear hb); (try clear hb2); (try clear hk); (try clear hi)) | (go_at_call 16; (with_reducible refine (thistlelaw03_pairs.calls kj40 306 6 2 1 0 false _ A62.out).mono ?_); rintro e w90 ⟨rfl, hb⟩; have n0_ := Aside0.mk (below_step (by repeat (first | (with_reducible first | exact HB.out | apply below_alloc | apply pw_below_drewN | apply below_drew1) | exact HB.out)) hb); clear HB; have HB := n0_; clear n0_; (try clear hb); (try clear hb2); (try clear hk); (try clear hi)))
                      go_meet
                      case rel => exact ⟨_, (false), (by first | rfl | (simp; done) | (simp [*]; done)), H', ⟨by have := HJ2.out; have := HJ15.out; have := HJ40.out; first | omega | exact Nat.le_refl _⟩, ⟨by repeat (first | (with_reducible first | exact HB.out | apply below_alloc | apply pw_below_drewN | apply below_drew1) | exact HB.out)⟩⟩
                  · replace c61 := Bool.eq_false_iff.mpr c61
                    subst c61
                    have H1 : (thistlelaw03_FoldRules.j3 kj40 x1_2 x2_15 x3_40 false) = some r := by rw [if_neg (show ¬ (false = true) by decide)] at H; exact H
                    clear H
                    have H := H1
                    clear H1
                    have H' := Aside0.mk H
                    clear H
                    go_wp2_with (first | ((with_reducible refine gate_callee (f := 16) rfl ?_); refine goesL_ (some 42) rfl rfl Try.func16 (by kernel_rfl) rfl #[.int .i32 256, .int .i32 48, .int .i32 2, .int .i32 1, .int .i32 0] rfl (by (try simp only [List.map_toArray, List.map_cons, List.map_nil]); first | done | rfl | (simp only [List.length_drop, List.length_take]; rfl)) ?_; (with_reducible refine (thistlelaw03_pairs.calls kj40 256 48 2 1 0 false _ A60.out).mono ?_); rintro e w91 ⟨rfl, hb⟩; refine ⟨_, rfl, ?_⟩; have n0_ := Aside0.mk (below_step (by repeat (first | (with_reducible first | exact HB.out | apply below_alloc | apply pw_below_drewN | apply below_drew1) | exact HB.out)) hb); clear HB; have HB := n0_; clear n0_; (try clear hb); (try clear hb2); (try clear hk); (try clear hi)))
                    go_meet
                    case rel => exact ⟨_, (false), (by first | rfl | (simp; done) | (simp [*]; done)), H', ⟨by have := HJ2.out; have := HJ15.out; have := HJ40.out; first | omega | exact Nat.le_refl _⟩, ⟨by repeat (first | (with_reducible first | exact HB.out | apply below_alloc | apply pw_below_drewN | apply below_drew1) | exact HB.out)⟩⟩
                case rest =>
                  clear HC59
                  try clear c1
                  try clear c2
                  try clear p2
                  try clear c4
                  try clear c5
                  try clear c6
                  try clear c7
                  try clear c8
                  try clear c16
                  try clear c18
                  try clear c20
                  try clear c22
                  try clear c24
                  try clear c43
                  try clear c45
                  try clear c47
                  try clear c61
                  try clear c63
                  try clear c65
                  try clear c67
                  try clear c69
                  try clear p2
                  obtain ⟨kq, x4_58, rfl, HA, HJ58, HB⟩ := hcut
                  cases kq with
                  | zero => exact absurd HA.out (by simp [thistlelaw03_FoldRules.j3])
                  | succ kj58 =>
                    have H := HA.out
                    clear HA
                    simp only [thistlelaw03_FoldRules.j3] at H
                    have HC92 := Aside0.mk H
                    clear H
                    go_upto_region 7 with (fail)
                    go_cut [5] (fun v5 wc => ∃ (kq : Nat) (x5_91 : Bool), v5 = .bool x5_91 ∧ Aside0 (thistlelaw03_FoldRules.j4 kq x1_2 x2_15 x3_40 x4_58 x5_91 = some r) ∧ Aside0 (kq ≤ kj58) ∧ Aside0 (Below w.heap.size w wc))
                    case first =>
                      have H := HC92.out
                      clear HC92
                      replace H := Option.bind_eq_some_iff.mp H
                      obtain ⟨t255, A930, H⟩ := H
                      replace H : (if t255 = 376 then ((fold_Next.f kj58 376).bind fun t256 => (if t256 = 255 then ((fold_Next.f kj58 223).bind fun t257 => (if t257 = 7838 then ((fold_Next.f kj58 7838).bind fun t258 => (thistlelaw03_FoldRules.j4 kj58 x1_2 x2_15 x3_40 x4_58 (t258 == 223))) else (thistlelaw03_FoldRules.j4 kj58 x1_2 x2_15 x3_40 x4_58 false))) else (thistlelaw03_FoldRules.j4 kj58 x1_2 x2_15 x3_40 x4_58 false))) else (thistlelaw03_FoldRules.j4 kj58 x1_2 x2_15 x3_40 x4_58 false)) = some r := H
                      have A93 := Aside0.mk A930
                      clear A930
                      by_cases c94 : t255 = 376
                      · rw [if_pos c94] at H
                        have c94b0 : (t255 == 376) = true := beq_iff_eq.mpr c94
                        have c94b1 : (t255 != 376) = false := bne_eq_false_iff_eq.mpr c94
                        clear c94
                        (first | rw [c94b0] | (simp only [i64_w, i32_w]; rw [c94b0]) | skip)
                        replace H := Option.bind_eq_some_iff.mp H
                        obtain ⟨t256, A950, H⟩ := H
                        replace H : (if t256 = 255 then ((fold_Next.f kj58 223).bind fun t257 => (if t257 = 7838 then ((fold_Next.f kj58 7838).bind fun t258 => (thistlelaw03_FoldRules.j4 kj58 x1_2 x2_15 x3_40 x4_58 (t258 == 223))) else (thistlelaw03_FoldRules.j4 kj58 x1_2 x2_15 x3_40 x4_58 false))) else (thistlelaw03_FoldRules.j4 kj58 x1_2 x2_15 x3_40 x4_58 false)) = some r := H
                        have A95 := Aside0.mk A950
                        clear A950
                        by_cases c96 : t256 = 255
                        · rw [if_pos c96] at H
                          have c96b0 : (t256 == 255) = true := beq_iff_eq.mpr c96
                          have c96b1 : (t256 != 255) = false := bne_eq_false_iff_eq.mpr c96
                          clear c96
                          replace H := Option.bind_eq_some_iff.mp H
                          obtain ⟨t257, A970, H⟩ := H
                          replace H : (if t257 = 7838 then ((fold_Next.f kj58 7838).bind fun t258 => (thistlelaw03_FoldRules.j4 kj58 x1_2 x2_15 x3_40 x4_58 (t258 == 223))) else (thistlelaw03_FoldRules.j4 kj58 x1_2 x2_15 x3_40 x4_58 false)) = some r := H
                          have A97 := Aside0.mk A970
                          clear A970
                          by_cases c98 : t257 = 7838
                          · rw [if_pos c98] at H
                            have c98b0 : (t257 == 7838) = true := beq_iff_eq.mpr c98
                            have c98b1 : (t257 != 7838) = false := bne_eq_false_iff_eq.mpr c98
                            clear c98
                            replace H := Option.bind_eq_some_iff.mp H
                            obtain ⟨t258, A990, H⟩ := H
                            replace H : (thistlelaw03_FoldRules.j4 kj58 x1_2 x2_15 x3_40 x4_58 (t258 == 223)) = some r := H
                            have A99 := Aside0.mk A990
                            clear A990
                            have H' := Aside0.mk H
                            clear H
                            go_wp2_with (first | ((with_reducible refine gate_callee (f := 8) rfl ?_); refine goesL_ (some 58) rfl rfl Try.func8 (by kernel_rfl) rfl #[.int .i32 255] rfl (by (try simp only [List.map_toArray, List.map_cons, List.map_nil]); first | done | rfl | (simp only [List.length_drop, List.length_take]; rfl)) ?_; (with_reducible refine (fold_Next.calls kj58 255 t255 _ A93.out).mono ?_); rintro e w100 ⟨rfl, hb⟩; refine ⟨_, rfl, ?_⟩; have n0_ := Aside0.mk (below_step (by repeat (first | (with_reducible first | exact HB.out | apply below_alloc | apply pw_below_drewN | apply below_drew1) | exact HB.out)) hb); clear HB; have HB := n0_; clear n0_; (try clear hb); (try clear hb2); (try clear hk); (try clear hi)) | (go_at_call 8; (with_reducible refine (fold_Next.calls kj58 376 t256 _ A95.out).mono ?_); rintro e w101 ⟨rfl, hb⟩; have n0_ := Aside0.mk (below_step (by repeat (first | (with_reducible first | exact HB.out | apply below_alloc | apply pw_below_drewN | apply below_drew1) | exact HB.out)) hb); clear HB; have HB := n0_; clear n0_; (try clear hb); (try clear hb2); (try clear hk); (try clear hi)) | (go_at_call 8; (with_reducible refine (fold_Next.calls kj58 223 t257 _ A97.out).mono ?_); rintro e w102 ⟨rfl, hb⟩; have n0_ := Aside0.mk (below_step (by repeat (first | (with_reducible first | exact HB.out | apply below_alloc | apply pw_below_drewN | apply below_drew1) | exact HB.out)) hb); clear HB; have HB := n0_; clear n0_; (try clear hb); (try clear hb2); (try clear hk); (try clear hi)) | (go_at_call 8; (with_reducible refine (fold_Next.calls kj58 7838 t258 _ A99.out).mono ?_); rintro e w103 ⟨rfl, hb⟩; have n0_ := Aside0.mk (below_step (by repeat (first | (with_reducible first | exact HB.out | apply below_alloc | apply pw_below_drewN | apply below_drew1) | exact HB.out)) hb); clear HB; have HB := n0_; clear n0_; (try clear hb); (try clear hb2); (try clear hk); (try clear hi)))
                            go_meet
                            case rel => exact ⟨_, ((t258 == 223)), (by first | rfl | (simp; done) | (simp [*]; done)), H', ⟨by have := HJ2.out; have := HJ15.out; have := HJ40.out; have := HJ58.out; first | omega | exact Nat.le_refl _⟩, ⟨by repeat (first | (with_reducible first | exact HB.out | apply below_alloc | apply pw_below_drewN | apply below_drew1) | exact HB.out)⟩⟩
                          · rw [if_neg c98] at H
                            have c98b0 : (t257 == 7838) = false := beq_eq_false_iff_ne.mpr c98
                            have c98b1 : (t257 != 7838) = true := bne_iff_ne.mpr c98
                            have H' := Aside0.mk H
                            clear H
                            go_wp2_with (first | ((with_reducible refine gate_callee (f := 8) rfl ?_); refine goesL_ (some 58) rfl rfl Try.func8 (by kernel_rfl) rfl #[.int .i32 255] rfl (by (try simp only [List.map_toArray, List.map_cons, List.map_nil]); first | done | rfl | (simp only [List.length_drop, List.length_take]; rfl)) ?_; (with_reducible refine (fold_Next.calls kj58 255 t255 _ A93.out).mono ?_); rintro e w104 ⟨rfl, hb⟩; refine ⟨_, rfl, ?_⟩; have n0_ := Aside0.mk (below_step (by repeat (first | (with_reducible first | exact HB.out | apply below_alloc | apply pw_below_drewN | apply below_drew1) | exact HB.out)) hb); clear HB; have HB := n0_; clear n0_; (try clear hb); (try clear hb2); (try clear hk); (try clear hi)) | (go_at_call 8; (with_reducible refine (fold_Next.calls kj58 376 t256 _ A95.out).mono ?_); rintro e w105 ⟨rfl, hb⟩; have n0_ := Aside0.mk (below_step (by repeat (first | (with_reducible first | exact HB.out | apply below_alloc | apply pw_below_drewN | apply below_drew1) | exact HB.out)) hb); clear HB; have HB := n0_; clear n0_; (try clear hb); (try clear hb2); (try clear hk); (try clear hi)) | (go_at_call 8; (with_reducible refine (fold_Next.calls kj58 223 t257 _ A97.out).mono ?_); rintro e w106 ⟨rfl, hb⟩; have n0_ := Aside0.mk (below_step (by repeat (first | (with_reducible first | exact HB.out | apply below_alloc | apply pw_below_drewN | apply below_drew1) | exact HB.out)) hb); clear HB; have HB := n0_; clear n0_; (try clear hb); (try clear hb2); (try clear hk); (try clear hi)))
                            go_meet
                            case rel => exact ⟨_, (false), (by first | rfl | (simp; done) | (simp [*]; done)), H', ⟨by have := HJ2.out; have := HJ15.out; have := HJ40.out; have := HJ58.out; first | omega | exact Nat.le_refl _⟩, ⟨by repeat (first | (with_reducible first | exact HB.out | apply below_alloc | apply pw_below_drewN | apply below_drew1) | exact HB.out)⟩⟩
                        · rw [if_neg c96] at H
                          have c96b0 : (t256 == 255) = false := beq_eq_false_iff_ne.mpr c96
                          have c96b1 : (t256 != 255) = true := bne_iff_ne.mpr c96
                          have H' := Aside0.mk H
                          clear H
                          go_wp2_with (first | ((with_reducible refine gate_callee (f := 8) rfl ?_); refine goesL_ (some 58) rfl rfl Try.func8 (by kernel_rfl) rfl #[.int .i32 255] rfl (by (try simp only [List.map_toArray, List.map_cons, List.map_nil]); first | done | rfl | (simp only [List.length_drop, List.length_take]; rfl)) ?_; (with_reducible refine (fold_Next.calls kj58 255 t255 _ A93.out).mono ?_); rintro e w107 ⟨rfl, hb⟩; refine ⟨_, rfl, ?_⟩; have n0_ := Aside0.mk (below_step (by repeat (first | (with_reducible first | exact HB.out | apply below_alloc | apply pw_below_drewN | apply below_drew1) | exact HB.out)) hb); clear HB; have HB := n0_; clear n0_; (try clear hb); (try clear hb2); (try clear hk); (try clear hi)) | (go_at_call 8; (with_reducible refine (fold_Next.calls kj58 376 t256 _ A95.out).mono ?_); rintro e w108 ⟨rfl, hb⟩; have n0_ := Aside0.mk (below_step (by repeat (first | (with_reducible first | exact HB.out | apply below_alloc | apply pw_below_drewN | apply below_drew1) | exact HB.out)) hb); clear HB; have HB := n0_; clear n0_; (try clear hb); (try clear hb2); (try clear hk); (try clear hi)))
                          go_meet
                          case rel => exact ⟨_, (false), (by first | rfl | (simp; done) | (simp [*]; done)), H', ⟨by have := HJ2.out; have := HJ15.out; have := HJ40.out; have := HJ58.out; first | omega | exact Nat.le_refl _⟩, ⟨by repeat (first | (with_reducible first | exact HB.out | apply below_alloc | apply pw_below_drewN | apply below_drew1) | exact HB.out)⟩⟩
                      · rw [if_neg c94] at H
                        have c94b0 : (t255 == 376) = false := beq_eq_false_iff_ne.mpr c94
                        have c94b1 : (t255 != 376) = true := bne_iff_ne.mpr c94
                        (first | rw [c94b0] | (simp only [i64_w, i32_w]; rw [c94b0]) | skip)
                        have H' := Aside0.mk H
                        clear H
                        go_wp2_with (first | ((with_reducible refine gate_callee (f := 8) rfl ?_); refine goesL_ (some 58) rfl rfl Try.func8 (by kernel_rfl) rfl #[.int .i32 255] rfl (by (try simp only [List.map_toArray, List.map_cons, List.map_nil]); first | done | rfl | (simp only [List.length_drop, List.length_take]; rfl)) ?_; (with_reducible refine (fold_Next.calls kj58 255 t255 _ A93.out).mono ?_); rintro e w109 ⟨rfl, hb⟩; refine ⟨_, rfl, ?_⟩; have n0_ := Aside0.mk (below_step (by repeat (first | (with_reducible first | exact HB.out | apply below_alloc | apply pw_below_drewN | apply below_drew1) | exact HB.out)) hb); clear HB; have HB := n0_; clear n0_; (try clear hb); (try clear hb2); (try clear hk); (try clear hi)))
                        go_meet
                        case rel => exact ⟨_, (false), (by first | rfl | (simp; done) | (simp [*]; done)), H', ⟨by have := HJ2.out; have := HJ15.out; have := HJ40.out; have := HJ58.out; first | omega | exact Nat.le_refl _⟩, ⟨by repeat (first | (with_reducible first | exact HB.out | apply below_alloc | apply pw_below_drewN | apply below_drew1) | exact HB.out)⟩⟩
                    case rest =>
                      clear HC92
                      try clear c1
                      try clear c2
                      try clear p2
                      try clear c4
                      try clear c5
                      try clear c6
                      try clear c7
                      try clear c8
                      try clear c9
                      try clear c16
                      try clear c18
                      try clear c20
                      try clear c22
                      try clear c24
                      try clear c43
                      try clear c45
                      try clear c47
                      try clear c61
                      try clear c63
                      try clear c65
                      try clear c67
                      try clear c69
                      try clear c94
                      try clear c94b0
                      try clear c94b1
                      try clear c96
                      try clear c96b0
                      try clear c96b1
                      try clear c98
                      try clear c98b0
                      try clear c98b1
                      try clear p2
                      obtain ⟨kq, x5_91, rfl, HA, HJ91, HB⟩ := hcut
                      cases kq with
                      | zero => exact absurd HA.out (by simp [thistlelaw03_FoldRules.j4])
                      | succ kj91 =>
                        have H := HA.out
                        clear HA
                        simp only [thistlelaw03_FoldRules.j4] at H
                        have HC110 := Aside0.mk H
                        clear H
                        go_upto_region 8 with (fail)
                        go_cut [89] (fun v89 wc => ∃ (kq : Nat) (x89_109 : Bool), v89 = .bool x89_109 ∧ Aside0 (thistlelaw03_FoldRules.j5 kq x89_109 = some r) ∧ Aside0 (kq ≤ kj91) ∧ Aside0 (Below w.heap.size w wc))
                        case first =>
                          have H := HC110.out
                          clear HC110
                          by_cases c111 : x1_2 = true
                          · subst c111
                            have H1 : (if x2_15 = true then (if x3_40 = true then (if x4_58 = true then (thistlelaw03_FoldRules.j5 kj91 (!x5_91)) else (thistlelaw03_FoldRules.j5 kj91 true)) else (thistlelaw03_FoldRules.j5 kj91 true)) else (thistlelaw03_FoldRules.j5 kj91 true)) = some r := by rw [if_pos rfl] at H; exact H
                            clear H
                            have H := H1
                            clear H1
                            by_cases c112 : x2_15 = true
                            · subst c112
                              have H1 : (if x3_40 = true then (if x4_58 = true then (thistlelaw03_FoldRules.j5 kj91 (!x5_91)) else (thistlelaw03_FoldRules.j5 kj91 true)) else (thistlelaw03_FoldRules.j5 kj91 true)) = some r := by rw [if_pos rfl] at H; exact H
                              clear H
                              have H := H1
                              clear H1
                              by_cases c113 : x3_40 = true
                              · subst c113
                                have H1 : (if x4_58 = true then (thistlelaw03_FoldRules.j5 kj91 (!x5_91)) else (thistlelaw03_FoldRules.j5 kj91 true)) = some r := by rw [if_pos rfl] at H; exact H
                                clear H
                                have H := H1
                                clear H1
                                by_cases c114 : x4_58 = true
                                · subst c114
                                  have H1 : (thistlelaw03_FoldRules.j5 kj91 (!x5_91)) = some r := by rw [if_pos rfl] at H; exact H
                                  clear H
                                  have H := H1
                                  clear H1
                                  have H' := Aside0.mk H
                                  clear H
                                  go_wp2
                                  go_meet
                                  case rel => exact ⟨_, (!x5_91), (by first | rfl | (simp; done) | (simp [*]; done)), H', ⟨by have := HJ2.out; have := HJ15.out; have := HJ40.out; have := HJ58.out; have := HJ91.out; first | omega | exact Nat.le_refl _⟩, ⟨by repeat (first | (with_reducible first | exact HB.out | apply below_alloc | apply pw_below_drewN | apply below_drew1) | exact HB.out)⟩⟩
                                · replace c114 := Bool.eq_false_iff.mpr c114
                                  subst c114
                                  have H1 : (thistlelaw03_FoldRules.j5 kj91 true) = some r := by rw [if_neg (show ¬ (false = true) by decide)] at H; exact H
                                  clear H
                                  have H := H1
                                  clear H1
                                  have H' := Aside0.mk H
                                  clear H
                                  go_wp2
                                  go_meet
                                  case rel => exact ⟨_, (true), (by first | rfl | (simp; done) | (simp [*]; done)), H', ⟨by have := HJ2.out; have := HJ15.out; have := HJ40.out; have := HJ58.out; have := HJ91.out; first | omega | exact Nat.le_refl _⟩, ⟨by repeat (first | (with_reducible first | exact HB.out | apply below_alloc | apply pw_below_drewN | apply below_drew1) | exact HB.out)⟩⟩
                              · replace c113 := Bool.eq_false_iff.mpr c113
                                subst c113
                                have H1 : (thistlelaw03_FoldRules.j5 kj91 true) = some r := by rw [if_neg (show ¬ (false = true) by decide)] at H; exact H
                                clear H
                                have H := H1
                                clear H1
                                have H' := Aside0.mk H
                                clear H
                                go_wp2
                                go_meet
                                case rel => exact ⟨_, (true), (by first | rfl | (simp; done) | (simp [*]; done)), H', ⟨by have := HJ2.out; have := HJ15.out; have := HJ40.out; have := HJ58.out; have := HJ91.out; first | omega | exact Nat.le_refl _⟩, ⟨by repeat (first | (with_reducible first | exact HB.out | apply below_alloc | apply pw_below_drewN | apply below_drew1) | exact HB.out)⟩⟩
                            · replace c112 := Bool.eq_false_iff.mpr c112
                              subst c112
                              have H1 : (thistlelaw03_FoldRules.j5 kj91 true) = some r := by rw [if_neg (show ¬ (false = true) by decide)] at H; exact H
                              clear H
                              have H := H1
                              clear H1
                              have H' := Aside0.mk H
                              clear H
                              go_wp2
                              go_meet
                              case rel => exact ⟨_, (true), (by first | rfl | (simp; done) | (simp [*]; done)), H', ⟨by have := HJ2.out; have := HJ15.out; have := HJ40.out; have := HJ58.out; have := HJ91.out; first | omega | exact Nat.le_refl _⟩, ⟨by repeat (first | (with_reducible first | exact HB.out | apply below_alloc | apply pw_below_drewN | apply below_drew1) | exact HB.out)⟩⟩
                          · replace c111 := Bool.eq_false_iff.mpr c111
                            subst c111
                            have H1 : (thistlelaw03_FoldRules.j5 kj91 true) = some r := by rw [if_neg (show ¬ (false = true) by decide)] at H; exact H
                            clear H
                            have H := H1
                            clear H1
                            have H' := Aside0.mk H
                            clear H
                            go_wp2
                            go_meet
                            case rel => exact ⟨_, (true), (by first | rfl | (simp; done) | (simp [*]; done)), H', ⟨by have := HJ2.out; have := HJ15.out; have := HJ40.out; have := HJ58.out; have := HJ91.out; first | omega | exact Nat.le_refl _⟩, ⟨by repeat (first | (with_reducible first | exact HB.out | apply below_alloc | apply pw_below_drewN | apply below_drew1) | exact HB.out)⟩⟩
                        case rest =>
                          clear HC110
                          try clear c1
                          try clear c2
                          try clear p2
                          try clear c4
                          try clear c5
                          try clear c6
                          try clear c7
                          try clear c8
                          try clear c9
                          try clear c11
                          try clear c16
                          try clear c18
                          try clear c20
                          try clear c22
                          try clear c24
                          try clear c43
                          try clear c45
                          try clear c47
                          try clear c61
                          try clear c63
                          try clear c65
                          try clear c67
                          try clear c69
                          try clear c94
                          try clear c94b0
                          try clear c94b1
                          try clear c96
                          try clear c96b0
                          try clear c96b1
                          try clear c98
                          try clear c98b0
                          try clear c98b1
                          try clear c111
                          try clear c112
                          try clear c113
                          try clear c114
                          try clear p2
                          obtain ⟨kq, x89_109, rfl, HA, HJ109, HB⟩ := hcut
                          cases kq with
                          | zero => exact absurd HA.out (by simp [thistlelaw03_FoldRules.j5])
                          | succ kj109 =>
                            have H := HA.out
                            clear HA
                            simp only [thistlelaw03_FoldRules.j5] at H
                            by_cases c115 : x89_109 = true
                            · subst c115
                              have H1 : (some false) = some r := by rw [if_pos rfl] at H; exact H
                              clear H
                              have H := H1
                              clear H1
                              obtain rfl := Option.some.inj H
                              go_wp2
                              go_ret
                              exact ⟨by first | rfl | (simp [errW_none, errW_some] <;> rfl) | (simp [*, errW_none, errW_some] <;> rfl), by repeat (first | (with_reducible first | exact HB.out | apply below_alloc | apply pw_below_drewN | apply below_drew1) | exact HB.out)⟩
                            · replace c115 := Bool.eq_false_iff.mpr c115
                              subst c115
                              have H1 : (thistlelaw03_FoldRules.l0 kj109 (([(([75, 107, 8490] : List Int)), (([83, 115, 383] : List Int)), (([181, 924, 956] : List Int)), (([197, 229, 8491] : List Int)), (([931, 962, 963] : List Int))] : List (List Int))) 0) = some r := by rw [if_neg (show ¬ (false = true) by decide)] at H; exact H
                              clear H
                              have H := H1
                              clear H1
                              obtain ⟨y259, hy259⟩ : ∃ y_ : List Int, y_ = (([75, 107, 8490] : List Int)) := ⟨_, rfl⟩
                              replace H : (thistlelaw03_FoldRules.l0 kj109 (([y259, (([83, 115, 383] : List Int)), (([181, 924, 956] : List Int)), (([197, 229, 8491] : List Int)), (([931, 962, 963] : List Int))] : List (List Int))) 0) = some r := by first | (rw [hy259]; with_reducible exact H) | (have H2_ := (Option.bind_some _ _).symm.trans H; rw [hy259]; with_reducible exact H2_) | (have H2_ := (Option.bind_some _ _).symm.trans H; with_reducible exact H2_) | with_reducible exact H | (rw [hy259]; exact H) | exact H
                              have Ny259 := Aside0.mk hy259
                              clear hy259
                              obtain ⟨y262, hy262⟩ : ∃ y_ : List Int, y_ = (([83, 115, 383] : List Int)) := ⟨_, rfl⟩
                              replace H : (thistlelaw03_FoldRules.l0 kj109 (([y259, y262, (([181, 924, 956] : List Int)), (([197, 229, 8491] : List Int)), (([931, 962, 963] : List Int))] : List (List Int))) 0) = some r := by first | (rw [hy262]; with_reducible exact H) | (have H2_ := (Option.bind_some _ _).symm.trans H; rw [hy262]; with_reducible exact H2_) | (have H2_ := (Option.bind_some _ _).symm.trans H; with_reducible exact H2_) | with_reducible exact H | (rw [hy262]; exact H) | exact H
                              have Ny262 := Aside0.mk hy262
                              clear hy262
                              obtain ⟨y265, hy265⟩ : ∃ y_ : List Int, y_ = (([181, 924, 956] : List Int)) := ⟨_, rfl⟩
                              replace H : (thistlelaw03_FoldRules.l0 kj109 (([y259, y262, y265, (([197, 229, 8491] : List Int)), (([931, 962, 963] : List Int))] : List (List Int))) 0) = some r := by first | (rw [hy265]; with_reducible exact H) | (have H2_ := (Option.bind_some _ _).symm.trans H; rw [hy265]; with_reducible exact H2_) | (have H2_ := (Option.bind_some _ _).symm.trans H; with_reducible exact H2_) | with_reducible exact H | (rw [hy265]; exact H) | exact H
                              have Ny265 := Aside0.mk hy265
                              clear hy265
                              obtain ⟨y268, hy268⟩ : ∃ y_ : List Int, y_ = (([197, 229, 8491] : List Int)) := ⟨_, rfl⟩
                              replace H : (thistlelaw03_FoldRules.l0 kj109 (([y259, y262, y265, y268, (([931, 962, 963] : List Int))] : List (List Int))) 0) = some r := by first | (rw [hy268]; with_reducible exact H) | (have H2_ := (Option.bind_some _ _).symm.trans H; rw [hy268]; with_reducible exact H2_) | (have H2_ := (Option.bind_some _ _).symm.trans H; with_reducible exact H2_) | with_reducible exact H | (rw [hy268]; exact H) | exact H
                              have Ny268 := Aside0.mk hy268
                              clear hy268
                              obtain ⟨y271, hy271⟩ : ∃ y_ : List Int, y_ = (([931, 962, 963] : List Int)) := ⟨_, rfl⟩
                              replace H : (thistlelaw03_FoldRules.l0 kj109 (([y259, y262, y265, y268, y271] : List (List Int))) 0) = some r := by first | (rw [hy271]; with_reducible exact H) | (have H2_ := (Option.bind_some _ _).symm.trans H; rw [hy271]; with_reducible exact H2_) | (have H2_ := (Option.bind_some _ _).symm.trans H; with_reducible exact H2_) | with_reducible exact H | (rw [hy271]; exact H) | exact H
                              have Ny271 := Aside0.mk hy271
                              clear hy271
                              obtain ⟨y274, hy274⟩ : ∃ y_ : List (List Int), y_ = (([y259, y262, y265, y268, y271] : List (List Int))) := ⟨_, rfl⟩
                              replace H : (thistlelaw03_FoldRules.l0 kj109 y274 0) = some r := by first | (rw [hy274]; with_reducible exact H) | (have H2_ := (Option.bind_some _ _).symm.trans H; rw [hy274]; with_reducible exact H2_) | (have H2_ := (Option.bind_some _ _).symm.trans H; with_reducible exact H2_) | with_reducible exact H | (rw [hy274]; exact H) | exact H
                              have Ny274 := Aside0.mk hy274
                              clear hy274
                              have H' := Aside0.mk H
                              clear H
                              go_wp2_with (first | ((with_reducible refine gate_dst (N := 90) rfl ?_); refine Kd.R_lit (Kd.int .i32) _ 21 ?hg (N := 90) ?hd (xs := ([75, 107, 8490] : List Int)) (inner := [.int .i32 75, .int .i32 107, .int .i32 8490]) (ok := fun _ => True) (okp := fun _ => True) ?hr ?hp (fun _ hk => hk) trivial (Below.refl _ _) (Nat.le_refl _) (by simp) ?_; (case hd => rfl); (case hg => rfl); (case hr => first | (go_simp; done) | (go_simp; rfl)); (case hp => exact (Reps.one (show Kd.M (Kd.int .i32) _ _ _ 75 [.int .i32 75] from rfl) (Reps.one (show Kd.M (Kd.int .i32) _ _ _ 107 [.int .i32 107] from rfl) (Reps.one (show Kd.M (Kd.int .i32) _ _ _ 8490 [.int .i32 8490] from rfl) (Reps.none _ _))))); intro v260 w116 ho117 hb hg_ hnew_; clear hg_ hnew_; (first | rw [← Ny259.out] at ho117 | (simp only [Int.reduceToNat] at ho117; rw [← Ny259.out] at ho117)); have n0_ := Aside0.mk (Kd.R_lower ho117 (below_size (by repeat (first | (with_reducible first | exact HB.out | apply below_alloc | apply pw_below_drewN | apply below_drew1) | exact HB.out)))); have n1_ := Aside0.mk (below_step (by repeat (first | (with_reducible first | exact HB.out | apply below_alloc | apply pw_below_drewN | apply below_drew1) | exact HB.out)) hb); clear HB; have HO261 := n0_; have HB := n1_; clear n0_ n1_; clear hb ho117) | ((with_reducible refine gate_dst (N := 91) rfl ?_); refine Kd.R_lit (Kd.int .i32) _ 21 ?hg (N := 91) ?hd (xs := ([83, 115, 383] : List Int)) (inner := [.int .i32 83, .int .i32 115, .int .i32 383]) (ok := fun _ => True) (okp := fun _ => True) ?hr ?hp (fun _ hk => hk) trivial (Below.refl _ _) (Nat.le_refl _) (by simp) ?_; (case hd => rfl); (case hg => rfl); (case hr => first | (go_simp; done) | (go_simp; rfl)); (case hp => exact (Reps.one (show Kd.M (Kd.int .i32) _ _ _ 83 [.int .i32 83] from rfl) (Reps.one (show Kd.M (Kd.int .i32) _ _ _ 115 [.int .i32 115] from rfl) (Reps.one (show Kd.M (Kd.int .i32) _ _ _ 383 [.int .i32 383] from rfl) (Reps.none _ _))))); intro v263 w118 ho119 hb hg_ hnew_; clear hg_ hnew_; (first | rw [← Ny262.out] at ho119 | (simp only [Int.reduceToNat] at ho119; rw [← Ny262.out] at ho119)); have n0_ := Aside0.mk (Kd.R_elder' (by (with_reducible repeat (first | apply Kd.R_alloc | apply Kd.R_drewN | apply Kd.R_drew)); exact HO261.out) (Kd.R_base ho119) hb); have n1_ := Aside0.mk (Kd.R_lower (Kd.R_new' ho119 (Kd.R_lt (by (with_reducible repeat (first | apply Kd.R_alloc | apply Kd.R_drewN | apply Kd.R_drew)); exact HO261.out))) (below_size (by repeat (first | (with_reducible first | exact HB.out | apply below_alloc | apply pw_below_drewN | apply below_drew1) | exact HB.out)))); have n2_ := Aside0.mk (below_step (by repeat (first | (with_reducible first | exact HB.out | apply below_alloc | apply pw_below_drewN | apply below_drew1) | exact HB.out)) hb); clear HO261; clear HB; have HO261 := n0_; have HO264 := n1_; have HB := n2_; clear n0_ n1_ n2_; clear hb ho119) | ((with_reducible refine gate_dst (N := 92) rfl ?_); refine Kd.R_lit (Kd.int .i32) _ 21 ?hg (N := 92) ?hd (xs := ([181, 924, 956] : List Int)) (inner := [.int .i32 181, .int .i32 924, .int .i32 956]) (ok := fun _ => True) (okp := fun _ => True) ?hr ?hp (fun _ hk => hk) trivial (Below.refl _ _) (Nat.le_refl _) (by simp) ?_; (case hd => rfl); (case hg => rfl); (case hr => first | (go_simp; done) | (go_simp; rfl)); (case hp => exact (Reps.one (show Kd.M (Kd.int .i32) _ _ _ 181 [.int .i32 181] from rfl) (Reps.one (show Kd.M (Kd.int .i32) _ _ _ 924 [.int .i32 924] from rfl) (Reps.one (show Kd.M (Kd.int .i32) _ _ _ 956 [.int .i32 956] from rfl) (Reps.none _ _))))); intro v266 w120 ho121 hb hg_ hnew_; clear hg_ hnew_; (first | rw [← Ny265.out] at ho121 | (simp only [Int.reduceToNat] at ho121; rw [← Ny265.out] at ho121)); have n0_ := Aside0.mk (Kd.R_elder' (by (with_reducible repeat (first | apply Kd.R_alloc | apply Kd.R_drewN | apply Kd.R_drew)); exact HO261.out) (Kd.R_base ho121) hb); have n1_ := Aside0.mk (Kd.R_elder' (by (with_reducible repeat (first | apply Kd.R_alloc | apply Kd.R_drewN | apply Kd.R_drew)); exact HO264.out) (Kd.R_base ho121) hb); have n2_ := Aside0.mk (Kd.R_lower (Kd.R_new' (Kd.R_new' ho121 (Kd.R_lt (by (with_reducible repeat (first | apply Kd.R_alloc | apply Kd.R_drewN | apply Kd.R_drew)); exact HO261.out))) (Kd.R_lt (by (with_reducible repeat (first | apply Kd.R_alloc | apply Kd.R_drewN | apply Kd.R_drew)); exact HO264.out))) (below_size (by repeat (first | (with_reducible first | exact HB.out | apply below_alloc | apply pw_below_drewN | apply below_drew1) | exact HB.out)))); have n3_ := Aside0.mk (below_step (by repeat (first | (with_reducible first | exact HB.out | apply below_alloc | apply pw_below_drewN | apply below_drew1) | exact HB.out)) hb); clear HO261; clear HO264; clear HB; have HO261 := n0_; have HO264 := n1_; have HO267 := n2_; have HB := n3_; clear n0_ n1_ n2_ n3_; clear hb ho121) | ((with_reducible refine gate_dst (N := 93) rfl ?_); refine Kd.R_lit (Kd.int .i32) _ 21 ?hg (N := 93) ?hd (xs := ([197, 229, 8491] : List Int)) (inner := [.int .i32 197, .int .i32 229, .int .i32 8491]) (ok := fun _ => True) (okp := fun _ => True) ?hr ?hp (fun _ hk => hk) trivial (Below.refl _ _) (Nat.le_refl _) (by simp) ?_; (case hd => rfl); (case hg => rfl); (case hr => first | (go_simp; done) | (go_simp; rfl)); (case hp => exact (Reps.one (show Kd.M (Kd.int .i32) _ _ _ 197 [.int .i32 197] from rfl) (Reps.one (show Kd.M (Kd.int .i32) _ _ _ 229 [.int .i32 229] from rfl) (Reps.one (show Kd.M (Kd.int .i32) _ _ _ 8491 [.int .i32 8491] from rfl) (Reps.none _ _))))); intro v269 w122 ho123 hb hg_ hnew_; clear hg_ hnew_; (first | rw [← Ny268.out] at ho123 | (simp only [Int.reduceToNat] at ho123; rw [← Ny268.out] at ho123)); have n0_ := Aside0.mk (Kd.R_elder' (by (with_reducible repeat (first | apply Kd.R_alloc | apply Kd.R_drewN | apply Kd.R_drew)); exact HO261.out) (Kd.R_base ho123) hb); have n1_ := Aside0.mk (Kd.R_elder' (by (with_reducible repeat (first | apply Kd.R_alloc | apply Kd.R_drewN | apply Kd.R_drew)); exact HO264.out) (Kd.R_base ho123) hb); have n2_ := Aside0.mk (Kd.R_elder' (by (with_reducible repeat (first | apply Kd.R_alloc | apply Kd.R_drewN | apply Kd.R_drew)); exact HO267.out) (Kd.R_base ho123) hb); have n3_ := Aside0.mk (Kd.R_lower (Kd.R_new' (Kd.R_new' (Kd.R_new' ho123 (Kd.R_lt (by (with_reducible repeat (first | apply Kd.R_alloc | apply Kd.R_drewN | apply Kd.R_drew)); exact HO261.out))) (Kd.R_lt (by (with_reducible repeat (first | apply Kd.R_alloc | apply Kd.R_drewN | apply Kd.R_drew)); exact HO264.out))) (Kd.R_lt (by (with_reducible repeat (first | apply Kd.R_alloc | apply Kd.R_drewN | apply Kd.R_drew)); exact HO267.out))) (below_size (by repeat (first | (with_reducible first | exact HB.out | apply below_alloc | apply pw_below_drewN | apply below_drew1) | exact HB.out)))); have n4_ := Aside0.mk (below_step (by repeat (first | (with_reducible first | exact HB.out | apply below_alloc | apply pw_below_drewN | apply below_drew1) | exact HB.out)) hb); clear HO261; clear HO264; clear HO267; clear HB; have HO261 := n0_; have HO264 := n1_; have HO267 := n2_; have HO270 := n3_; have HB := n4_; clear n0_ n1_ n2_ n3_ n4_; clear hb ho123) | ((with_reducible refine gate_dst (N := 94) rfl ?_); refine Kd.R_lit (Kd.int .i32) _ 21 ?hg (N := 94) ?hd (xs := ([931, 962, 963] : List Int)) (inner := [.int .i32 931, .int .i32 962, .int .i32 963]) (ok := fun _ => True) (okp := fun _ => True) ?hr ?hp (fun _ hk => hk) trivial (Below.refl _ _) (Nat.le_refl _) (by simp) ?_; (case hd => rfl); (case hg => rfl); (case hr => first | (go_simp; done) | (go_simp; rfl)); (case hp => exact (Reps.one (show Kd.M (Kd.int .i32) _ _ _ 931 [.int .i32 931] from rfl) (Reps.one (show Kd.M (Kd.int .i32) _ _ _ 962 [.int .i32 962] from rfl) (Reps.one (show Kd.M (Kd.int .i32) _ _ _ 963 [.int .i32 963] from rfl) (Reps.none _ _))))); intro v272 w124 ho125 hb hg_ hnew_; clear hg_ hnew_; (first | rw [← Ny271.out] at ho125 | (simp only [Int.reduceToNat] at ho125; rw [← Ny271.out] at ho125)); have n0_ := Aside0.mk (Kd.R_elder' (by (with_reducible repeat (first | apply Kd.R_alloc | apply Kd.R_drewN | apply Kd.R_drew)); exact HO261.out) (Kd.R_base ho125) hb); have n1_ := Aside0.mk (Kd.R_elder' (by (with_reducible repeat (first | apply Kd.R_alloc | apply Kd.R_drewN | apply Kd.R_drew)); exact HO264.out) (Kd.R_base ho125) hb); have n2_ := Aside0.mk (Kd.R_elder' (by (with_reducible repeat (first | apply Kd.R_alloc | apply Kd.R_drewN | apply Kd.R_drew)); exact HO267.out) (Kd.R_base ho125) hb); have n3_ := Aside0.mk (Kd.R_elder' (by (with_reducible repeat (first | apply Kd.R_alloc | apply Kd.R_drewN | apply Kd.R_drew)); exact HO270.out) (Kd.R_base ho125) hb); have n4_ := Aside0.mk (Kd.R_lower (Kd.R_new' (Kd.R_new' (Kd.R_new' (Kd.R_new' ho125 (Kd.R_lt (by (with_reducible repeat (first | apply Kd.R_alloc | apply Kd.R_drewN | apply Kd.R_drew)); exact HO261.out))) (Kd.R_lt (by (with_reducible repeat (first | apply Kd.R_alloc | apply Kd.R_drewN | apply Kd.R_drew)); exact HO264.out))) (Kd.R_lt (by (with_reducible repeat (first | apply Kd.R_alloc | apply Kd.R_drewN | apply Kd.R_drew)); exact HO267.out))) (Kd.R_lt (by (with_reducible repeat (first | apply Kd.R_alloc | apply Kd.R_drewN | apply Kd.R_drew)); exact HO270.out))) (below_size (by repeat (first | (with_reducible first | exact HB.out | apply below_alloc | apply pw_below_drewN | apply below_drew1) | exact HB.out)))); have n5_ := Aside0.mk (below_step (by repeat (first | (with_reducible first | exact HB.out | apply below_alloc | apply pw_below_drewN | apply below_drew1) | exact HB.out)) hb); clear HO261; clear HO264; clear HO267; clear HO270; clear HB; have HO261 := n0_; have HO264 := n1_; have HO267 := n2_; have HO270 := n3_; have HO273 := n4_; have HB := n5_; clear n0_ n1_ n2_ n3_ n4_ n5_; clear hb ho125; obtain ⟨Ao126, co126, eo126⟩ := Kd.R_slice HO261.out; subst eo126; obtain ⟨Ao127, co127, eo127⟩ := Kd.R_slice HO264.out; subst eo127; obtain ⟨Ao128, co128, eo128⟩ := Kd.R_slice HO267.out; subst eo128; obtain ⟨Ao129, co129, eo129⟩ := Kd.R_slice HO270.out; subst eo129; obtain ⟨Ao130, co130, eo130⟩ := Kd.R_slice HO273.out; subst eo130) | ((with_reducible refine gate_dst (N := 95) rfl ?_); refine Kd.N_lit (Kd.slice 21 (Kd.int .i32)) _ 22 ?hg (N' := 95) ?hd (xs := ([y259, y262, y265, y268, y271] : List (List Int))) (inner := [.slice Ao126 y259.length co126, .slice Ao127 y262.length co127, .slice Ao128 y265.length co128, .slice Ao129 y268.length co129, .slice Ao130 y271.length co130]) (ok := (fun _ => True)) (okp := (fun _ => True)) ?hr ?hp (fun _ hk => hk) ((show ∀ k_, w124.heap.size ≤ k_ → (fun _ => True) k_ from fun k_ hk => trivial) _ (Nat.le_refl _)) (Below.refl _ _) (Nat.le_refl _) (by simp) ?_; (case hd => rfl); (case hg => rfl); (case hr => first | (go_simp; done) | (go_simp; rfl)); (case hp => exact (Reps.one (show Kd.FK (Kd.slice 21 (Kd.int .i32)) _ _ y259 [.slice Ao126 y259.length co126] from (Kd.FK_slice_mk (Kd.R_reads' (Kd.R_mono (ok' := (fun _ => True)) (HO261.out) (fun k_ hk => trivial))).2.1 (Kd.R_F (Kd.R_mono (ok' := (fun _ => True)) (HO261.out) (fun k_ hk => trivial))))) (Reps.one (show Kd.FK (Kd.slice 21 (Kd.int .i32)) _ _ y262 [.slice Ao127 y262.length co127] from (Kd.FK_slice_mk (Kd.R_reads' (Kd.R_mono (ok' := (fun _ => True)) (HO264.out) (fun k_ hk => trivial))).2.1 (Kd.R_F (Kd.R_mono (ok' := (fun _ => True)) (HO264.out) (fun k_ hk => trivial))))) (Reps.one (show Kd.FK (Kd.slice 21 (Kd.int .i32)) _ _ y265 [.slice Ao128 y265.length co128] from (Kd.FK_slice_mk (Kd.R_reads' (Kd.R_mono (ok' := (fun _ => True)) (HO267.out) (fun k_ hk => trivial))).2.1 (Kd.R_F (Kd.R_mono (ok' := (fun _ => True)) (HO267.out) (fun k_ hk => trivial))))) (Reps.one (show Kd.FK (Kd.slice 21 (Kd.int .i32)) _ _ y268 [.slice Ao129 y268.length co129] from (Kd.FK_slice_mk (Kd.R_reads' (Kd.R_mono (ok' := (fun _ => True)) (HO270.out) (fun k_ hk => trivial))).2.1 (Kd.R_F (Kd.R_mono (ok' := (fun _ => True)) (HO270.out) (fun k_ hk => trivial))))) (Reps.one (show Kd.FK (Kd.slice 21 (Kd.int .i32)) _ _ y271 [.slice Ao130 y271.length co130] from (Kd.FK_slice_mk (Kd.R_reads' (Kd.R_mono (ok' := (fun _ => True)) (HO273.out) (fun k_ hk => trivial))).2.1 (Kd.R_F (Kd.R_mono (ok' := (fun _ => True)) (HO273.out) (fun k_ hk => trivial))))) (Reps.none _ _))))))); intro v275 w131 ho132 hb hg_ hnew_; clear hg_ hnew_; (first | rw [← Ny274.out] at ho132 | (simp only [Int.reduceToNat] at ho132; rw [← Ny274.out] at ho132)); have n0_ := Aside0.mk (Kd.N_lower ho132 (below_size (by repeat (first | (with_reducible first | exact HB.out | apply below_alloc | apply pw_below_drewN | apply below_drew1) | exact HB.out)))); have n1_ := Aside0.mk (below_step (by repeat (first | (with_reducible first | exact HB.out | apply below_alloc | apply pw_below_drewN | apply below_drew1) | exact HB.out)) hb); clear HB; clear HO261; clear HO264; clear HO267; clear HO270; clear HO273; have HO276 := n0_; have HB := n1_; clear n0_ n1_; clear hb ho132))
                              go_loopg [7] kj109 (fun kq v7 w' => ∃ (x7_7 : Int), v7 = .int .i64 x7_7 ∧ Aside0 (thistlelaw03_FoldRules.l0 kq y274 x7_7 = some r) ∧ Aside0 (kq ≤ kj109) ∧ Aside0 (Kd.N (Kd.slice 21 (Kd.int .i32)) 22 w' w.heap.size (fun _ => True) v275 y274) ∧ Aside0 (Below w.heap.size w w'))
                              case atStart => exact ⟨(0), (by first | rfl | (simp; done) | (simp [*]; done)), H', ⟨Nat.le_refl _⟩, ⟨by (with_reducible repeat (first | apply Kd.N_alloc | apply Kd.N_drewN | apply Kd.N_drew)); exact HO276.out⟩, ⟨by repeat (first | (with_reducible first | exact HB.out | apply below_alloc | apply pw_below_drewN | apply below_drew1) | exact HB.out)⟩⟩
                              case round =>
                                clear H'
                                try clear c1
                                try clear c2
                                try clear p2
                                try clear c4
                                try clear c5
                                try clear c6
                                try clear c7
                                try clear c8
                                try clear c9
                                try clear c11
                                try clear c16
                                try clear c18
                                try clear c20
                                try clear c22
                                try clear c24
                                try clear c43
                                try clear c45
                                try clear c47
                                try clear c61
                                try clear c63
                                try clear c65
                                try clear c67
                                try clear c69
                                try clear c94
                                try clear c94b0
                                try clear c94b1
                                try clear c96
                                try clear c96b0
                                try clear c96b1
                                try clear c98
                                try clear c98b0
                                try clear c98b1
                                try clear c111
                                try clear c112
                                try clear c113
                                try clear c114
                                try clear c115
                                try clear p2
                                obtain ⟨x7_7, rfl, HA, HK7, HO_6, HB⟩ := hrel
                                cases gk with
                                | zero => exact absurd HA.out (by simp [thistlelaw03_FoldRules.l0])
                                | succ k7 =>
                                  have H := HA.out
                                  clear HA
                                  simp only [thistlelaw03_FoldRules.l0] at H
                                  by_cases c133 : x7_7 < (y274.length : Int)
                                  · rw [if_pos c133] at H
                                    have c133b0 : decide (x7_7 < (y274.length : Int)) = true := decide_eq_true c133
                                    clear c133
                                    by_cases c134 : 0 ≤ x7_7
                                    · rw [if_pos c134] at H
                                      have c134b0 : decide (0 ≤ x7_7) = true := decide_eq_true c134
                                      clear c134
                                      by_cases c135 : 1 < ((rd_L1 y274 x7_7).length : Int)
                                      · rw [if_pos c135] at H
                                        have c135b0 : decide (1 < ((rd_L1 y274 x7_7).length : Int)) = true := decide_eq_true c135
                                        have c135b1 : decide (1 < (rd_L1 y274 x7_7).length) = true := decide_eq_true (by omega)
                                        clear c135
                                        replace H := Option.bind_eq_some_iff.mp H
                                        obtain ⟨t279, A1360, H⟩ := H
                                        replace H : ((thistleref02_SameRunes.f k7 t279 (rd_L1 y274 x7_7)).bind fun t283 => (if t283 = true then (thistlelaw03_FoldRules.l0 k7 y274 (wrap64 (x7_7 + 1))) else (some false))) = some r := H
                                        have A136 := Aside0.mk A1360
                                        clear A1360
                                        replace H := Option.bind_eq_some_iff.mp H
                                        obtain ⟨t283, A1370, H⟩ := H
                                        replace H : (if t283 = true then (thistlelaw03_FoldRules.l0 k7 y274 (wrap64 (x7_7 + 1))) else (some false)) = some r := H
                                        have A137 := Aside0.mk A1370
                                        clear A1370
                                        by_cases c138 : t283 = true
                                        · subst c138
                                          have H1 : (thistlelaw03_FoldRules.l0 k7 y274 (wrap64 (x7_7 + 1))) = some r := by rw [if_pos rfl] at H; exact H
                                          clear H
                                          have H := H1
                                          clear H1
                                          have H' := Aside0.mk H
                                          clear H
                                          obtain ⟨Ao139, co139, eo139⟩ := Kd.N_slice HO_6.out
                                          subst eo139
                                          try go_wp2
                                          have n0_ := Aside0.mk (Kd.N_drew HO_6.out)
                                          have n1_ := Aside0.mk (below_drew1 HB.out)
                                          clear HO_6
                                          clear HB
                                          have HO_6 := n0_
                                          have HB := n1_
                                          clear n0_ n1_
                                          have p277 : 0 ≤ (x7_7 : Int) := of_decide_eq_true (by first | (with_reducible assumption) | assumption)
                                          have q277 : x7_7 < (y274.length : Int) := of_decide_eq_true (by first | (with_reducible assumption) | assumption)
                                          obtain ⟨ad277, A277_0, c277_0, e277, hx277_0, hl277_0, hi277_0⟩ := at_L1 (Kd.N_reads' HO_6.out).2.2 x7_7 p277 q277
                                          cases e277
                                          obtain ⟨ce277, hce277, hMe277, hcc277⟩ := Kd.N_get HO_6.out [] x7_7 p277 (by first | exact q277 | exact of_decide_eq_true (by first | (with_reducible assumption) | assumption) | (have e_ := (Kd.N_reads' HO_6.out).1; omega))
                                          obtain ⟨ua277_0, uc277_0, rfl, ul277_0, ge277_0⟩ := Kd.FK_slice_open hMe277
                                          have hv277_0 := hcc277 0 _ rfl
                                          rw [Nat.add_zero, show ((Kd.slice 21 (Kd.int .i32))).sz = 1 from rfl, Nat.mul_one] at hv277_0
                                          replace hv277_0 := Option.some.inj (hv277_0.symm.trans hx277_0)
                                          injection hv277_0 with hva_ hvn_ hvc_
                                          rw [hva_] at ge277_0
                                          rw [hvc_] at ul277_0
                                          have HL277_0 := Aside0.mk (show Kd.V (Kd.int .i32) 21 _ w.heap.size _ _ (rd_L1 y274 x7_7) from Kd.V_mk ul277_0 ge277_0)
                                          clear hva_ hvn_ hvc_ ge277_0 ul277_0
                                          clear hcc277 hce277
                                          have HR277_0 := Aside0.mk hi277_0
                                          have HC277_0 := Aside0.mk hl277_0
                                          clear hi277_0 hl277_0
                                          replace p277 := eq_true p277
                                          replace q277 := eq_true q277
                                          have p278 : 0 ≤ (1 : Int) := (by omega)
                                          have q278 : 1 < ((rd_L1 y274 x7_7).length : Int) := of_decide_eq_true (by first | (with_reducible assumption) | assumption)
                                          obtain ⟨ad278, e278, hx278_0⟩ := Kd.at_int (by repeat (first | (with_reducible exact HR277_0.out) | (with_reducible refine Kd.C_alloc ?_ _) | (with_reducible refine Kd.C_drewN ?_ _) | (with_reducible refine Kd.C_drew ?_) | exact HR277_0.out)) 1 p278 q278
                                          cases e278
                                          (try simp only [show (1 : Int).toNat = 1 from rfl, Nat.reduceMul, Nat.reduceEqDiff, Go.Addr.add, ↓reduceIte] at hx278_0)
                                          have qi278 : (1 < (rd_L1 y274 x7_7).length) = True := eq_true (by omega)
                                          (try rw [show ((1 : Int)).toNat = 1 from rfl] at hx278_0)
                                          replace p278 := eq_true p278
                                          replace q278 := eq_true q278
                                          have p282 : 0 ≤ (x7_7 : Int) := of_decide_eq_true (by first | (with_reducible assumption) | assumption)
                                          have q282 : x7_7 < (y274.length : Int) := of_decide_eq_true (by first | (with_reducible assumption) | assumption)
                                          obtain ⟨ad282, A282_0, c282_0, e282, hx282_0, hl282_0, hi282_0⟩ := at_L1 (Kd.N_reads' HO_6.out).2.2 x7_7 p282 q282
                                          obtain rfl : ad277 = ad282 := (by injection e282)
                                          obtain ⟨ce282, hce282, hMe282, hcc282⟩ := Kd.N_get HO_6.out [] x7_7 p282 (by first | exact q282 | exact of_decide_eq_true (by first | (with_reducible assumption) | assumption) | (have e_ := (Kd.N_reads' HO_6.out).1; omega))
                                          obtain ⟨ua282_0, uc282_0, rfl, ul282_0, ge282_0⟩ := Kd.FK_slice_open hMe282
                                          have hv282_0 := hcc282 0 _ rfl
                                          rw [Nat.add_zero, show ((Kd.slice 21 (Kd.int .i32))).sz = 1 from rfl, Nat.mul_one] at hv282_0
                                          replace hv282_0 := Option.some.inj (hv282_0.symm.trans hx282_0)
                                          injection hv282_0 with hva_ hvn_ hvc_
                                          rw [hva_] at ge282_0
                                          rw [hvc_] at ul282_0
                                          have HL282_0 := Aside0.mk (show Kd.V (Kd.int .i32) 21 _ w.heap.size _ _ (rd_L1 y274 x7_7) from Kd.V_mk ul282_0 ge282_0)
                                          clear hva_ hvn_ hvc_ ge282_0 ul282_0
                                          clear hcc282 hce282
                                          have HR282_0 := Aside0.mk hi282_0
                                          have HC282_0 := Aside0.mk hl282_0
                                          clear hi282_0 hl282_0
                                          replace p282 := eq_true p282
                                          replace q282 := eq_true q282
                                          have ea_ := Option.some.inj (hx277_0.symm.trans hx282_0)
                                          injection ea_ with ea_ en_ ec_
                                          subst ea_
                                          subst ec_
                                          clear en_
                                          refine start_ (n := 13) (S := fun w' => w'.cell? (ad277.add (x7_7).toNat) = some (.slice (some ad278) (rd_L1 y274 x7_7).length c277_0) ∧ w'.cell? ⟨ad278.block, ad278.off + 1, none⟩ = some (.int .i32 (rd (rd_L1 y274 x7_7) 1)) ∧ w'.cell? (ad277.add (x7_7).toNat) = some (.slice (some ad278) (rd_L1 y274 x7_7).length c277_0)) (ds := []) #[false, false, false, false, false, false, false, false, false, false, false, false, false] (by kernel_rfl) rfl rfl ⟨hx277_0, hx278_0, hx282_0⟩ (fun hHeld => ?_); refine with_tabW thistlelaw03_FoldRules.tab14 thistlelaw03_FoldRules.bits14 (fun HT_ HW_ => ?_)
                                          generalize wr.drew = w140 at HO_6 HB HL277_0 HL282_0 HR277_0 HR282_0 hx277_0 hx278_0 hx282_0 hHeld ⊢
                                          refine pure_ (i := 0) (N := some 102) (v := ?_) (a' := ?_) #[true, false, false, false, false, false, false, false, false, false, false, false, false] rfl rfl (any_of HT_.out (by kernel_rfl)) (fun _ _ _ h => h) (Or.inl ⟨by rfl, ?_⟩) ?_ ?_
                                          rotate_left
                                          · intro w'
                                            go_simp
                                            with_reducible rfl
                                          rotate_left
                                          · simp only [Act.put, List.setIfInBounds_toArray, List.set_cons_zero, List.set_cons_succ, i64_w, i32_w]
                                            rfl
                                          refine pure_ (i := 1) (N := some 103) (v := ?_) (a' := ?_) #[true, true, false, false, false, false, false, false, false, false, false, false, false] rfl rfl (any_of HT_.out (by kernel_rfl)) (fun _ _ _ h => h) (Or.inl ⟨by rfl, ?_⟩) ?_ ?_
                                          rotate_left
                                          · intro w'
                                            go_simp
                                            with_reducible rfl
                                          rotate_left
                                          · simp only [Act.put, List.setIfInBounds_toArray, List.set_cons_zero, List.set_cons_succ, i64_w, i32_w]
                                            rfl
                                          refine pure_ (i := 2) (N := some 104) (v := ?_) (a' := ?_) #[true, true, true, false, false, false, false, false, false, false, false, false, false] rfl rfl (any_of HT_.out (by kernel_rfl)) (fun _ _ _ h => h) (Or.inl ⟨by rfl, ?_⟩) ?_ ?_
                                          rotate_left
                                          · intro w'
                                            go_simp
                                            with_reducible rfl
                                          rotate_left
                                          · simp only [Act.put, List.setIfInBounds_toArray, List.set_cons_zero, List.set_cons_succ, i64_w, i32_w]
                                            rfl
                                          refine pure_ (i := 7) (N := some 109) (v := ?_) (a' := ?_) #[true, true, true, false, false, false, false, true, false, false, false, false, false] rfl rfl (any_of HT_.out (by kernel_rfl)) (fun _ _ _ h => h) (Or.inl ⟨by rfl, ?_⟩) ?_ ?_
                                          rotate_left
                                          · intro w'
                                            go_simp
                                            with_reducible rfl
                                          rotate_left
                                          · simp only [Act.put, List.setIfInBounds_toArray, List.set_cons_zero, List.set_cons_succ, i64_w, i32_w]
                                            rfl
                                          refine pure_ (i := 8) (N := some 110) (v := ?_) (a' := ?_) #[true, true, true, false, false, false, false, true, true, false, false, false, false] rfl rfl (any_of HT_.out (by kernel_rfl)) (fun _ _ _ h => h) (Or.inl ⟨by rfl, ?_⟩) ?_ ?_
                                          rotate_left
                                          · intro w'
                                            go_simp
                                            with_reducible rfl
                                          rotate_left
                                          · simp only [Act.put, List.setIfInBounds_toArray, List.set_cons_zero, List.set_cons_succ, i64_w, i32_w]
                                            rfl
                                          refine pure_ (i := 9) (N := some 111) (v := ?_) (a' := ?_) #[true, true, true, false, false, false, false, true, true, true, false, false, false] rfl rfl (any_of HT_.out (by kernel_rfl)) (fun _ _ _ h => h) (Or.inl ⟨by rfl, ?_⟩) ?_ ?_
                                          rotate_left
                                          · intro w'
                                            go_simp
                                            with_reducible rfl
                                          rotate_left
                                          · simp only [Act.put, List.setIfInBounds_toArray, List.set_cons_zero, List.set_cons_succ, i64_w, i32_w]
                                            rfl
                                          refine take_ (i := 3) (N := some 105) (v := ?_) (a' := ?_) #[true, true, true, true, false, false, false, true, true, true, false, false, false] rfl rfl (take_ofW HT_.out HW_.out (by kernel_rfl)) (fun _ _ _ h => h) (Or.inl ⟨by rfl, ?_⟩) hHeld ?_ ?_
                                          rotate_left
                                          · rintro w' ⟨s0, s1, s2⟩
                                            go_simp
                                            with_reducible rfl
                                          rotate_left
                                          · simp only [Act.put, List.setIfInBounds_toArray, List.set_cons_zero, List.set_cons_succ, i64_w, i32_w]
                                            rfl
                                          refine pure_ (i := 4) (N := some 106) (v := ?_) (a' := ?_) #[true, true, true, true, true, false, false, true, true, true, false, false, false] rfl rfl (any_of HT_.out (by kernel_rfl)) (fun _ _ _ h => h) (Or.inl ⟨by rfl, ?_⟩) ?_ ?_
                                          rotate_left
                                          · intro w'
                                            go_simp
                                            with_reducible rfl
                                          rotate_left
                                          · simp only [Act.put, List.setIfInBounds_toArray, List.set_cons_zero, List.set_cons_succ, i64_w, i32_w]
                                            rfl
                                          refine take_ (i := 5) (N := some 107) (v := ?_) (a' := ?_) #[true, true, true, true, true, true, false, true, true, true, false, false, false] rfl rfl (take_ofW HT_.out HW_.out (by kernel_rfl)) (fun _ _ _ h => h) (Or.inl ⟨by rfl, ?_⟩) hHeld ?_ ?_
                                          rotate_left
                                          · rintro w' ⟨s0, s1, s2⟩
                                            go_simp
                                            with_reducible rfl
                                          rotate_left
                                          · simp only [Act.put, List.setIfInBounds_toArray, List.set_cons_zero, List.set_cons_succ, i64_w, i32_w]
                                            rfl
                                          refine take_ (i := 10) (N := some 112) (v := ?_) (a' := ?_) #[true, true, true, true, true, true, false, true, true, true, true, false, false] rfl rfl (take_ofW HT_.out HW_.out (by kernel_rfl)) (fun _ _ _ h => h) (Or.inl ⟨by rfl, ?_⟩) hHeld ?_ ?_
                                          rotate_left
                                          · rintro w' ⟨s0, s1, s2⟩
                                            go_simp
                                            with_reducible rfl
                                          rotate_left
                                          · simp only [Act.put, List.setIfInBounds_toArray, List.set_cons_zero, List.set_cons_succ, i64_w, i32_w]
                                            rfl
                                          refine one_ (i := 6) (N := some 108) #[true, true, true, true, true, true, true, true, true, true, true, false, false] rfl rfl (one_of HT_.out (by kernel_rfl)) (by decide) (fun K hK => ?_)
                                          refine goes_ Try.func13 (by kernel_rfl) rfl #[.int .i32 (rd (rd_L1 y274 x7_7) 1)] (by rfl) rfl rfl (by (try simp only [List.map_toArray, List.map_cons, List.map_nil]); first | done | rfl | (simp only [List.length_drop, List.length_take]; rfl)) ?_
                                          with_reducible refine (fold_Orbit.calls k7 (rd (rd_L1 y274 x7_7) 1) t279 _ A136.out).mono ?_
                                          rintro e w141 ⟨v280, rfl, ho0, hb⟩
                                          have HS0_ := (hb.cell (World.block_lt_of_cell? _ _ (hHeld.1))).trans (hHeld.1)
                                          have HS1_ := (hb.cell (World.block_lt_of_cell? _ _ (hHeld.2.1))).trans (hHeld.2.1)
                                          have HS2_ := (hb.cell (World.block_lt_of_cell? _ _ (hHeld.2.2))).trans (hHeld.2.2)
                                          refine ⟨_, rfl, ?_⟩
                                          have n0_ := Aside0.mk (Kd.N_elder' (by (with_reducible repeat (first | apply Kd.N_alloc | apply Kd.N_drewN | apply Kd.N_drew)); exact HO_6.out) (Kd.R_base ho0) hb)
                                          have n1_ := Aside0.mk (Kd.V_elder' (by (with_reducible repeat (first | apply Kd.V_alloc | apply Kd.V_drewN | apply Kd.V_drew)); exact HL277_0.out) (Kd.R_base ho0) hb)
                                          have n2_ := Aside0.mk (Kd.V_elder' (by (with_reducible repeat (first | apply Kd.V_alloc | apply Kd.V_drewN | apply Kd.V_drew)); exact HL282_0.out) (Kd.R_base ho0) hb)
                                          have n3_ := Aside0.mk (Kd.R_lower ho0 (below_size (by repeat (first | (with_reducible first | exact HB.out | apply below_alloc | apply pw_below_drewN | apply below_drew1) | exact HB.out))))
                                          have n4_ := Aside0.mk (Kd.C_below (by repeat (first | (with_reducible exact HR277_0.out) | (with_reducible refine Kd.C_alloc ?_ _) | (with_reducible refine Kd.C_drewN ?_ _) | (with_reducible refine Kd.C_drew ?_) | exact HR277_0.out)) hb)
                                          have n5_ := Aside0.mk (Kd.C_below (by repeat (first | (with_reducible exact HR282_0.out) | (with_reducible refine Kd.C_alloc ?_ _) | (with_reducible refine Kd.C_drewN ?_ _) | (with_reducible refine Kd.C_drew ?_) | exact HR282_0.out)) hb)
                                          have n6_ := Aside0.mk (below_step (by repeat (first | (with_reducible first | exact HB.out | apply below_alloc | apply pw_below_drewN | apply below_drew1) | exact HB.out)) hb)
                                          clear HO_6
                                          clear HL277_0
                                          clear HL282_0
                                          clear HR277_0
                                          clear HR282_0
                                          clear HB
                                          have HO_6 := n0_
                                          have HL277_0 := n1_
                                          have HL282_0 := n2_
                                          have HO281 := n3_
                                          have HR277_0 := n4_
                                          have HR282_0 := n5_
                                          have HB := n6_
                                          clear n0_ n1_ n2_ n3_ n4_ n5_ n6_
                                          (try clear hb)
                                          (try clear hb2)
                                          (try clear hk)
                                          (try clear hi)
                                          (try clear ho0)
                                          obtain ⟨Ao142, co142, eo142⟩ := Kd.R_slice HO281.out
                                          (first | subst eo142 | (injection eo142 with f1_ f2_ f3_; have f4_ := f1_.symm; have f5_ := f3_.symm; clear f1_ f2_ f3_; subst f4_; subst f5_))
                                          refine hK.out _ _ ⟨HS0_, HS1_, HS2_⟩ (fun hHeld => ?_)
                                          clear hK K
                                          refine norm_ (a' := ?_) ?_ ?_
                                          rotate_left
                                          · show Act.put _ (some 108) _ = _
                                            simp only [Act.put, List.setIfInBounds_toArray, List.set_cons_zero, List.set_cons_succ, i64_w, i32_w]
                                            rfl
                                          refine one_ (i := 11) (N := some 113) #[true, true, true, true, true, true, true, true, true, true, true, true, false] rfl rfl (one_of HT_.out (by kernel_rfl)) (by decide) (fun K hK => ?_)
                                          refine goes_ Try.func12 (by kernel_rfl) rfl #[.slice Ao142 t279.length co142, .slice (some ad278) (rd_L1 y274 x7_7).length c277_0] (by rfl) rfl rfl (by (try simp only [List.map_toArray, List.map_cons, List.map_nil]); first | done | rfl | (simp only [List.length_drop, List.length_take]; rfl)) ?_
                                          with_reducible refine (thistleref02_SameRunes.calls k7 _ _ t279 _ _ (rd_L1 y274 x7_7) true _ ?side1 ?side2 ?side3 ?side4 A137.out).mono ?_
                                          (case side1 => repeat (first | exact (Kd.R_reads' HO281.out).2.2 | (with_reducible refine Kd.C_alloc ?_ _) | (with_reducible refine Kd.C_drewN ?_ _) | (with_reducible refine Kd.C_drew ?_)))
                                          (case side2 => exact (Kd.R_reads' HO281.out).2.1)
                                          (case side3 => repeat (first | exact (by repeat (first | (with_reducible exact HR282_0.out) | (with_reducible refine Kd.C_alloc ?_ _) | (with_reducible refine Kd.C_drewN ?_ _) | (with_reducible refine Kd.C_drew ?_) | exact HR282_0.out)) | (with_reducible refine Kd.C_alloc ?_ _) | (with_reducible refine Kd.C_drewN ?_ _) | (with_reducible refine Kd.C_drew ?_)))
                                          (case side4 => exact HC282_0.out)
                                          rintro e w' ⟨rfl, ⟨nd, rfl⟩⟩
                                          refine ⟨_, rfl, ?_⟩
                                          refine hK.out _ _ ⟨hHeld.1, hHeld.2.1, hHeld.2.2⟩ (fun hHeld => ?_)
                                          clear hK K
                                          refine norm_ (a' := ?_) ?_ ?_
                                          rotate_left
                                          · show Act.put _ (some 113) _ = _
                                            simp only [Act.put, List.setIfInBounds_toArray, List.set_cons_zero, List.set_cons_succ, i64_w, i32_w]
                                            rfl
                                          refine pure_ (i := 12) (N := some 114) (v := ?_) (a' := ?_) #[true, true, true, true, true, true, true, true, true, true, true, true, true] rfl rfl (any_of HT_.out (by kernel_rfl)) (fun _ _ _ h => h) (Or.inl ⟨by rfl, ?_⟩) ?_ ?_
                                          rotate_left
                                          · intro w'
                                            go_simp
                                            with_reducible rfl
                                          rotate_left
                                          · simp only [Act.put, List.setIfInBounds_toArray, List.set_cons_zero, List.set_cons_succ, i64_w, i32_w]
                                            rfl
                                          refine done_ (done_of HT_.out (by kernel_rfl)) ?_
                                          try go_wp2
                                          go_roundg k7
                                          case measure => have := HJ2.out; have := HJ15.out; have := HJ40.out; have := HJ58.out; have := HJ91.out; have := HJ109.out; have := HK7.out; omega
                                          case rel => exact ⟨(wrap64 (x7_7 + 1)), (by first | rfl | (simp; done) | (simp [*]; done)), H', ⟨by have := HJ2.out; have := HJ15.out; have := HJ40.out; have := HJ58.out; have := HJ91.out; have := HJ109.out; have := HK7.out; omega⟩, ⟨by (with_reducible repeat (first | apply Kd.N_alloc | apply Kd.N_drewN | apply Kd.N_drew)); exact Kd.N_mono HO_6.out (fun _ hk => trivial)⟩, ⟨by repeat (first | (with_reducible first | exact HB.out | apply below_alloc | apply pw_below_drewN | apply below_drew1) | exact HB.out)⟩⟩
                                        · replace c138 := Bool.eq_false_iff.mpr c138
                                          subst c138
                                          have H1 : (some false) = some r := by rw [if_neg (show ¬ (false = true) by decide)] at H; exact H
                                          clear H
                                          have H := H1
                                          clear H1
                                          obtain rfl := Option.some.inj H
                                          obtain ⟨Ao143, co143, eo143⟩ := Kd.N_slice HO_6.out
                                          subst eo143
                                          try go_wp2
                                          have n0_ := Aside0.mk (Kd.N_drew HO_6.out)
                                          have n1_ := Aside0.mk (below_drew1 HB.out)
                                          clear HO_6
                                          clear HB
                                          have HO_6 := n0_
                                          have HB := n1_
                                          clear n0_ n1_
                                          have p277 : 0 ≤ (x7_7 : Int) := of_decide_eq_true (by first | (with_reducible assumption) | assumption)
                                          have q277 : x7_7 < (y274.length : Int) := of_decide_eq_true (by first | (with_reducible assumption) | assumption)
                                          obtain ⟨ad277, A277_0, c277_0, e277, hx277_0, hl277_0, hi277_0⟩ := at_L1 (Kd.N_reads' HO_6.out).2.2 x7_7 p277 q277
                                          cases e277
                                          obtain ⟨ce277, hce277, hMe277, hcc277⟩ := Kd.N_get HO_6.out [] x7_7 p277 (by first | exact q277 | exact of_decide_eq_true (by first | (with_reducible assumption) | assumption) | (have e_ := (Kd.N_reads' HO_6.out).1; omega))
                                          obtain ⟨ua277_0, uc277_0, rfl, ul277_0, ge277_0⟩ := Kd.FK_slice_open hMe277
                                          have hv277_0 := hcc277 0 _ rfl
                                          rw [Nat.add_zero, show ((Kd.slice 21 (Kd.int .i32))).sz = 1 from rfl, Nat.mul_one] at hv277_0
                                          replace hv277_0 := Option.some.inj (hv277_0.symm.trans hx277_0)
                                          injection hv277_0 with hva_ hvn_ hvc_
                                          rw [hva_] at ge277_0
                                          rw [hvc_] at ul277_0
                                          have HL277_0 := Aside0.mk (show Kd.V (Kd.int .i32) 21 _ w.heap.size _ _ (rd_L1 y274 x7_7) from Kd.V_mk ul277_0 ge277_0)
                                          clear hva_ hvn_ hvc_ ge277_0 ul277_0
                                          clear hcc277 hce277
                                          have HR277_0 := Aside0.mk hi277_0
                                          have HC277_0 := Aside0.mk hl277_0
                                          clear hi277_0 hl277_0
                                          replace p277 := eq_true p277
                                          replace q277 := eq_true q277
                                          have p278 : 0 ≤ (1 : Int) := (by omega)
                                          have q278 : 1 < ((rd_L1 y274 x7_7).length : Int) := of_decide_eq_true (by first | (with_reducible assumption) | assumption)
                                          obtain ⟨ad278, e278, hx278_0⟩ := Kd.at_int (by repeat (first | (with_reducible exact HR277_0.out) | (with_reducible refine Kd.C_alloc ?_ _) | (with_reducible refine Kd.C_drewN ?_ _) | (with_reducible refine Kd.C_drew ?_) | exact HR277_0.out)) 1 p278 q278
                                          cases e278
                                          (try simp only [show (1 : Int).toNat = 1 from rfl, Nat.reduceMul, Nat.reduceEqDiff, Go.Addr.add, ↓reduceIte] at hx278_0)
                                          have qi278 : (1 < (rd_L1 y274 x7_7).length) = True := eq_true (by omega)
                                          (try rw [show ((1 : Int)).toNat = 1 from rfl] at hx278_0)
                                          replace p278 := eq_true p278
                                          replace q278 := eq_true q278
                                          have p282 : 0 ≤ (x7_7 : Int) := of_decide_eq_true (by first | (with_reducible assumption) | assumption)
                                          have q282 : x7_7 < (y274.length : Int) := of_decide_eq_true (by first | (with_reducible assumption) | assumption)
                                          obtain ⟨ad282, A282_0, c282_0, e282, hx282_0, hl282_0, hi282_0⟩ := at_L1 (Kd.N_reads' HO_6.out).2.2 x7_7 p282 q282
                                          obtain rfl : ad277 = ad282 := (by injection e282)
                                          obtain ⟨ce282, hce282, hMe282, hcc282⟩ := Kd.N_get HO_6.out [] x7_7 p282 (by first | exact q282 | exact of_decide_eq_true (by first | (with_reducible assumption) | assumption) | (have e_ := (Kd.N_reads' HO_6.out).1; omega))
                                          obtain ⟨ua282_0, uc282_0, rfl, ul282_0, ge282_0⟩ := Kd.FK_slice_open hMe282
                                          have hv282_0 := hcc282 0 _ rfl
                                          rw [Nat.add_zero, show ((Kd.slice 21 (Kd.int .i32))).sz = 1 from rfl, Nat.mul_one] at hv282_0
                                          replace hv282_0 := Option.some.inj (hv282_0.symm.trans hx282_0)
                                          injection hv282_0 with hva_ hvn_ hvc_
                                          rw [hva_] at ge282_0
                                          rw [hvc_] at ul282_0
                                          have HL282_0 := Aside0.mk (show Kd.V (Kd.int .i32) 21 _ w.heap.size _ _ (rd_L1 y274 x7_7) from Kd.V_mk ul282_0 ge282_0)
                                          clear hva_ hvn_ hvc_ ge282_0 ul282_0
                                          clear hcc282 hce282
                                          have HR282_0 := Aside0.mk hi282_0
                                          have HC282_0 := Aside0.mk hl282_0
                                          clear hi282_0 hl282_0
                                          replace p282 := eq_true p282
                                          replace q282 := eq_true q282
                                          have ea_ := Option.some.inj (hx277_0.symm.trans hx282_0)
                                          injection ea_ with ea_ en_ ec_
                                          subst ea_
                                          subst ec_
                                          clear en_
                                          refine start_ (n := 13) (S := fun w' => w'.cell? (ad277.add (x7_7).toNat) = some (.slice (some ad278) (rd_L1 y274 x7_7).length c277_0) ∧ w'.cell? ⟨ad278.block, ad278.off + 1, none⟩ = some (.int .i32 (rd (rd_L1 y274 x7_7) 1)) ∧ w'.cell? (ad277.add (x7_7).toNat) = some (.slice (some ad278) (rd_L1 y274 x7_7).length c277_0)) (ds := []) #[false, false, false, false, false, false, false, false, false, false, false, false, false] (by kernel_rfl) rfl rfl ⟨hx277_0, hx278_0, hx282_0⟩ (fun hHeld => ?_); refine with_tabW thistlelaw03_FoldRules.tab14 thistlelaw03_FoldRules.bits14 (fun HT_ HW_ => ?_)
                                          generalize wr.drew = w144 at HO_6 HB HL277_0 HL282_0 HR277_0 HR282_0 hx277_0 hx278_0 hx282_0 hHeld ⊢
                                          refine pure_ (i := 0) (N := some 102) (v := ?_) (a' := ?_) #[true, false, false, false, false, false, false, false, false, false, false, false, false] rfl rfl (any_of HT_.out (by kernel_rfl)) (fun _ _ _ h => h) (Or.inl ⟨by rfl, ?_⟩) ?_ ?_
                                          rotate_left
                                          · intro w'
                                            go_simp
                                            with_reducible rfl
                                          rotate_left
                                          · simp only [Act.put, List.setIfInBounds_toArray, List.set_cons_zero, List.set_cons_succ, i64_w, i32_w]
                                            rfl
                                          refine pure_ (i := 1) (N := some 103) (v := ?_) (a' := ?_) #[true, true, false, false, false, false, false, false, false, false, false, false, false] rfl rfl (any_of HT_.out (by kernel_rfl)) (fun _ _ _ h => h) (Or.inl ⟨by rfl, ?_⟩) ?_ ?_
                                          rotate_left
                                          · intro w'
                                            go_simp
                                            with_reducible rfl
                                          rotate_left
                                          · simp only [Act.put, List.setIfInBounds_toArray, List.set_cons_zero, List.set_cons_succ, i64_w, i32_w]
                                            rfl
                                          refine pure_ (i := 2) (N := some 104) (v := ?_) (a' := ?_) #[true, true, true, false, false, false, false, false, false, false, false, false, false] rfl rfl (any_of HT_.out (by kernel_rfl)) (fun _ _ _ h => h) (Or.inl ⟨by rfl, ?_⟩) ?_ ?_
                                          rotate_left
                                          · intro w'
                                            go_simp
                                            with_reducible rfl
                                          rotate_left
                                          · simp only [Act.put, List.setIfInBounds_toArray, List.set_cons_zero, List.set_cons_succ, i64_w, i32_w]
                                            rfl
                                          refine pure_ (i := 7) (N := some 109) (v := ?_) (a' := ?_) #[true, true, true, false, false, false, false, true, false, false, false, false, false] rfl rfl (any_of HT_.out (by kernel_rfl)) (fun _ _ _ h => h) (Or.inl ⟨by rfl, ?_⟩) ?_ ?_
                                          rotate_left
                                          · intro w'
                                            go_simp
                                            with_reducible rfl
                                          rotate_left
                                          · simp only [Act.put, List.setIfInBounds_toArray, List.set_cons_zero, List.set_cons_succ, i64_w, i32_w]
                                            rfl
                                          refine pure_ (i := 8) (N := some 110) (v := ?_) (a' := ?_) #[true, true, true, false, false, false, false, true, true, false, false, false, false] rfl rfl (any_of HT_.out (by kernel_rfl)) (fun _ _ _ h => h) (Or.inl ⟨by rfl, ?_⟩) ?_ ?_
                                          rotate_left
                                          · intro w'
                                            go_simp
                                            with_reducible rfl
                                          rotate_left
                                          · simp only [Act.put, List.setIfInBounds_toArray, List.set_cons_zero, List.set_cons_succ, i64_w, i32_w]
                                            rfl
                                          refine pure_ (i := 9) (N := some 111) (v := ?_) (a' := ?_) #[true, true, true, false, false, false, false, true, true, true, false, false, false] rfl rfl (any_of HT_.out (by kernel_rfl)) (fun _ _ _ h => h) (Or.inl ⟨by rfl, ?_⟩) ?_ ?_
                                          rotate_left
                                          · intro w'
                                            go_simp
                                            with_reducible rfl
                                          rotate_left
                                          · simp only [Act.put, List.setIfInBounds_toArray, List.set_cons_zero, List.set_cons_succ, i64_w, i32_w]
                                            rfl
                                          refine take_ (i := 3) (N := some 105) (v := ?_) (a' := ?_) #[true, true, true, true, false, false, false, true, true, true, false, false, false] rfl rfl (take_ofW HT_.out HW_.out (by kernel_rfl)) (fun _ _ _ h => h) (Or.inl ⟨by rfl, ?_⟩) hHeld ?_ ?_
                                          rotate_left
                                          · rintro w' ⟨s0, s1, s2⟩
                                            go_simp
                                            with_reducible rfl
                                          rotate_left
                                          · simp only [Act.put, List.setIfInBounds_toArray, List.set_cons_zero, List.set_cons_succ, i64_w, i32_w]
                                            rfl
                                          refine pure_ (i := 4) (N := some 106) (v := ?_) (a' := ?_) #[true, true, true, true, true, false, false, true, true, true, false, false, false] rfl rfl (any_of HT_.out (by kernel_rfl)) (fun _ _ _ h => h) (Or.inl ⟨by rfl, ?_⟩) ?_ ?_
                                          rotate_left
                                          · intro w'
                                            go_simp
                                            with_reducible rfl
                                          rotate_left
                                          · simp only [Act.put, List.setIfInBounds_toArray, List.set_cons_zero, List.set_cons_succ, i64_w, i32_w]
                                            rfl
                                          refine take_ (i := 5) (N := some 107) (v := ?_) (a' := ?_) #[true, true, true, true, true, true, false, true, true, true, false, false, false] rfl rfl (take_ofW HT_.out HW_.out (by kernel_rfl)) (fun _ _ _ h => h) (Or.inl ⟨by rfl, ?_⟩) hHeld ?_ ?_
                                          rotate_left
                                          · rintro w' ⟨s0, s1, s2⟩
                                            go_simp
                                            with_reducible rfl
                                          rotate_left
                                          · simp only [Act.put, List.setIfInBounds_toArray, List.set_cons_zero, List.set_cons_succ, i64_w, i32_w]
                                            rfl
                                          refine take_ (i := 10) (N := some 112) (v := ?_) (a' := ?_) #[true, true, true, true, true, true, false, true, true, true, true, false, false] rfl rfl (take_ofW HT_.out HW_.out (by kernel_rfl)) (fun _ _ _ h => h) (Or.inl ⟨by rfl, ?_⟩) hHeld ?_ ?_
                                          rotate_left
                                          · rintro w' ⟨s0, s1, s2⟩
                                            go_simp
                                            with_reducible rfl
                                          rotate_left
                                          · simp only [Act.put, List.setIfInBounds_toArray, List.set_cons_zero, List.set_cons_succ, i64_w, i32_w]
                                            rfl
                                          refine one_ (i := 6) (N := some 108) #[true, true, true, true, true, true, true, true, true, true, true, false, false] rfl rfl (one_of HT_.out (by kernel_rfl)) (by decide) (fun K hK => ?_)
                                          refine goes_ Try.func13 (by kernel_rfl) rfl #[.int .i32 (rd (rd_L1 y274 x7_7) 1)] (by rfl) rfl rfl (by (try simp only [List.map_toArray, List.map_cons, List.map_nil]); first | done | rfl | (simp only [List.length_drop, List.length_take]; rfl)) ?_
                                          with_reducible refine (fold_Orbit.calls k7 (rd (rd_L1 y274 x7_7) 1) t279 _ A136.out).mono ?_
                                          rintro e w145 ⟨v280, rfl, ho0, hb⟩
                                          have HS0_ := (hb.cell (World.block_lt_of_cell? _ _ (hHeld.1))).trans (hHeld.1)
                                          have HS1_ := (hb.cell (World.block_lt_of_cell? _ _ (hHeld.2.1))).trans (hHeld.2.1)
                                          have HS2_ := (hb.cell (World.block_lt_of_cell? _ _ (hHeld.2.2))).trans (hHeld.2.2)
                                          refine ⟨_, rfl, ?_⟩
                                          have n0_ := Aside0.mk (Kd.N_elder' (by (with_reducible repeat (first | apply Kd.N_alloc | apply Kd.N_drewN | apply Kd.N_drew)); exact HO_6.out) (Kd.R_base ho0) hb)
                                          have n1_ := Aside0.mk (Kd.V_elder' (by (with_reducible repeat (first | apply Kd.V_alloc | apply Kd.V_drewN | apply Kd.V_drew)); exact HL277_0.out) (Kd.R_base ho0) hb)
                                          have n2_ := Aside0.mk (Kd.V_elder' (by (with_reducible repeat (first | apply Kd.V_alloc | apply Kd.V_drewN | apply Kd.V_drew)); exact HL282_0.out) (Kd.R_base ho0) hb)
                                          have n3_ := Aside0.mk (Kd.R_lower ho0 (below_size (by repeat (first | (with_reducible first | exact HB.out | apply below_alloc | apply pw_below_drewN | apply below_drew1) | exact HB.out))))
                                          have n4_ := Aside0.mk (Kd.C_below (by repeat (first | (with_reducible exact HR277_0.out) | (with_reducible refine Kd.C_alloc ?_ _) | (with_reducible refine Kd.C_drewN ?_ _) | (with_reducible refine Kd.C_drew ?_) | exact HR277_0.out)) hb)
                                          have n5_ := Aside0.mk (Kd.C_below (by repeat (first | (with_reducible exact HR282_0.out) | (with_reducible refine Kd.C_alloc ?_ _) | (with_reducible refine Kd.C_drewN ?_ _) | (with_reducible refine Kd.C_drew ?_) | exact HR282_0.out)) hb)
                                          have n6_ := Aside0.mk (below_step (by repeat (first | (with_reducible first | exact HB.out | apply below_alloc | apply pw_below_drewN | apply below_drew1) | exact HB.out)) hb)
                                          clear HO_6
                                          clear HL277_0
                                          clear HL282_0
                                          clear HR277_0
                                          clear HR282_0
                                          clear HB
                                          have HO_6 := n0_
                                          have HL277_0 := n1_
                                          have HL282_0 := n2_
                                          have HO281 := n3_
                                          have HR277_0 := n4_
                                          have HR282_0 := n5_
                                          have HB := n6_
                                          clear n0_ n1_ n2_ n3_ n4_ n5_ n6_
                                          (try clear hb)
                                          (try clear hb2)
                                          (try clear hk)
                                          (try clear hi)
                                          (try clear ho0)
                                          obtain ⟨Ao146, co146, eo146⟩ := Kd.R_slice HO281.out
                                          (first | subst eo146 | (injection eo146 with f1_ f2_ f3_; have f4_ := f1_.symm; have f5_ := f3_.symm; clear f1_ f2_ f3_; subst f4_; subst f5_))
                                          refine hK.out _ _ ⟨HS0_, HS1_, HS2_⟩ (fun hHeld => ?_)
                                          clear hK K
                                          refine norm_ (a' := ?_) ?_ ?_
                                          rotate_left
                                          · show Act.put _ (some 108) _ = _
                                            simp only [Act.put, List.setIfInBounds_toArray, List.set_cons_zero, List.set_cons_succ, i64_w, i32_w]
                                            rfl
                                          refine one_ (i := 11) (N := some 113) #[true, true, true, true, true, true, true, true, true, true, true, true, false] rfl rfl (one_of HT_.out (by kernel_rfl)) (by decide) (fun K hK => ?_)
                                          refine goes_ Try.func12 (by kernel_rfl) rfl #[.slice Ao146 t279.length co146, .slice (some ad278) (rd_L1 y274 x7_7).length c277_0] (by rfl) rfl rfl (by (try simp only [List.map_toArray, List.map_cons, List.map_nil]); first | done | rfl | (simp only [List.length_drop, List.length_take]; rfl)) ?_
                                          with_reducible refine (thistleref02_SameRunes.calls k7 _ _ t279 _ _ (rd_L1 y274 x7_7) false _ ?side1 ?side2 ?side3 ?side4 A137.out).mono ?_
                                          (case side1 => repeat (first | exact (Kd.R_reads' HO281.out).2.2 | (with_reducible refine Kd.C_alloc ?_ _) | (with_reducible refine Kd.C_drewN ?_ _) | (with_reducible refine Kd.C_drew ?_)))
                                          (case side2 => exact (Kd.R_reads' HO281.out).2.1)
                                          (case side3 => repeat (first | exact (by repeat (first | (with_reducible exact HR282_0.out) | (with_reducible refine Kd.C_alloc ?_ _) | (with_reducible refine Kd.C_drewN ?_ _) | (with_reducible refine Kd.C_drew ?_) | exact HR282_0.out)) | (with_reducible refine Kd.C_alloc ?_ _) | (with_reducible refine Kd.C_drewN ?_ _) | (with_reducible refine Kd.C_drew ?_)))
                                          (case side4 => exact HC282_0.out)
                                          rintro e w' ⟨rfl, ⟨nd, rfl⟩⟩
                                          refine ⟨_, rfl, ?_⟩
                                          refine hK.out _ _ ⟨hHeld.1, hHeld.2.1, hHeld.2.2⟩ (fun hHeld => ?_)
                                          clear hK K
                                          refine norm_ (a' := ?_) ?_ ?_
                                          rotate_left
                                          · show Act.put _ (some 113) _ = _
                                            simp only [Act.put, List.setIfInBounds_toArray, List.set_cons_zero, List.set_cons_succ, i64_w, i32_w]
                                            rfl
                                          refine pure_ (i := 12) (N := some 114) (v := ?_) (a' := ?_) #[true, true, true, true, true, true, true, true, true, true, true, true, true] rfl rfl (any_of HT_.out (by kernel_rfl)) (fun _ _ _ h => h) (Or.inl ⟨by rfl, ?_⟩) ?_ ?_
                                          rotate_left
                                          · intro w'
                                            go_simp
                                            with_reducible rfl
                                          rotate_left
                                          · simp only [Act.put, List.setIfInBounds_toArray, List.set_cons_zero, List.set_cons_succ, i64_w, i32_w]
                                            rfl
                                          refine done_ (done_of HT_.out (by kernel_rfl)) ?_
                                          try go_wp2
                                          go_ret
                                          exact ⟨by first | rfl | (simp [errW_none, errW_some] <;> rfl) | (simp [*, errW_none, errW_some] <;> rfl), by repeat (first | (with_reducible first | exact HB.out | apply below_alloc | apply pw_below_drewN | apply below_drew1) | exact HB.out)⟩
                                      · rw [if_neg c135] at H
                                        exact absurd H (by simp)
                                    · rw [if_neg c134] at H
                                      exact absurd H (by simp)
                                  · rw [if_neg c133] at H
                                    have c133b0 : decide (x7_7 < (y274.length : Int)) = false := decide_eq_false c133
                                    clear c133
                                    obtain ⟨y284, hy284⟩ : ∃ y_ : List Int, y_ = (([215, 247, 304, 305, 312, 329, 930, 7830, 64, 91, 96, 123, 938, 1120, 66640, 65339, 1114240, 1114305] : List Int)) := ⟨_, rfl⟩
                                    replace H : (thistlelaw03_FoldRules.l1 k7 y284 0) = some r := by first | (rw [hy284]; with_reducible exact H) | (have H2_ := (Option.bind_some _ _).symm.trans H; rw [hy284]; with_reducible exact H2_) | (have H2_ := (Option.bind_some _ _).symm.trans H; with_reducible exact H2_) | with_reducible exact H | (rw [hy284]; exact H) | exact H
                                    have Ny284 := Aside0.mk hy284
                                    clear hy284
                                    have H' := Aside0.mk H
                                    clear H
                                    obtain ⟨Ao147, co147, eo147⟩ := Kd.N_slice HO_6.out
                                    subst eo147
                                    go_wp2_with (first | ((with_reducible refine gate_dst (N := 115) rfl ?_); refine Kd.R_lit (Kd.int .i32) _ 21 ?hg (N := 115) ?hd (xs := ([215, 247, 304, 305, 312, 329, 930, 7830, 64, 91, 96, 123, 938, 1120, 66640, 65339, 1114240, 1114305] : List Int)) (inner := [.int .i32 215, .int .i32 247, .int .i32 304, .int .i32 305, .int .i32 312, .int .i32 329, .int .i32 930, .int .i32 7830, .int .i32 64, .int .i32 91, .int .i32 96, .int .i32 123, .int .i32 938, .int .i32 1120, .int .i32 66640, .int .i32 65339, .int .i32 1114240, .int .i32 1114305]) (ok := fun _ => True) (okp := fun _ => True) ?hr ?hp (fun _ hk => hk) trivial (Below.refl _ _) (Nat.le_refl _) (by simp) ?_; (case hd => rfl); (case hg => rfl); (case hr => first | (go_simp; done) | (go_simp; rfl)); (case hp => exact (Reps.one (show Kd.M (Kd.int .i32) _ _ _ 215 [.int .i32 215] from rfl) (Reps.one (show Kd.M (Kd.int .i32) _ _ _ 247 [.int .i32 247] from rfl) (Reps.one (show Kd.M (Kd.int .i32) _ _ _ 304 [.int .i32 304] from rfl) (Reps.one (show Kd.M (Kd.int .i32) _ _ _ 305 [.int .i32 305] from rfl) (Reps.one (show Kd.M (Kd.int .i32) _ _ _ 312 [.int .i32 312] from rfl) (Reps.one (show Kd.M (Kd.int .i32) _ _ _ 329 [.int .i32 329] from rfl) (Reps.one (show Kd.M (Kd.int .i32) _ _ _ 930 [.int .i32 930] from rfl) (Reps.one (show Kd.M (Kd.int .i32) _ _ _ 7830 [.int .i32 7830] from rfl) (Reps.one (show Kd.M (Kd.int .i32) _ _ _ 64 [.int .i32 64] from rfl) (Reps.one (show Kd.M (Kd.int .i32) _ _ _ 91 [.int .i32 91] from rfl) (Reps.one (show Kd.M (Kd.int .i32) _ _ _ 96 [.int .i32 96] from rfl) (Reps.one (show Kd.M (Kd.int .i32) _ _ _ 123 [.int .i32 123] from rfl) (Reps.one (show Kd.M (Kd.int .i32) _ _ _ 938 [.int .i32 938] from rfl) (Reps.one (show Kd.M (Kd.int .i32) _ _ _ 1120 [.int .i32 1120] from rfl) (Reps.one (show Kd.M (Kd.int .i32) _ _ _ 66640 [.int .i32 66640] from rfl) (Reps.one (show Kd.M (Kd.int .i32) _ _ _ 65339 [.int .i32 65339] from rfl) (Reps.one (show Kd.M (Kd.int .i32) _ _ _ 1114240 [.int .i32 1114240] from rfl) (Reps.one (show Kd.M (Kd.int .i32) _ _ _ 1114305 [.int .i32 1114305] from rfl) (Reps.none _ _)))))))))))))))))))); intro v285 w148 ho149 hb hg_ hnew_; clear hg_ hnew_; (first | rw [← Ny284.out] at ho149 | (simp only [Int.reduceToNat] at ho149; rw [← Ny284.out] at ho149)); have n0_ := Aside0.mk (Kd.N_elder' (by (with_reducible repeat (first | apply Kd.N_alloc | apply Kd.N_drewN | apply Kd.N_drew)); exact HO_6.out) (Kd.R_base ho149) hb); have n1_ := Aside0.mk (Kd.R_lower ho149 (below_size (by repeat (first | (with_reducible first | exact HB.out | apply below_alloc | apply pw_below_drewN | apply below_drew1) | exact HB.out)))); have n2_ := Aside0.mk (below_step (by repeat (first | (with_reducible first | exact HB.out | apply below_alloc | apply pw_below_drewN | apply below_drew1) | exact HB.out)) hb); clear HO_6; clear HB; have HO_6 := n0_; have HO286 := n1_; have HB := n2_; clear n0_ n1_ n2_; clear hb ho149))
                                    go_loopg [9] k7 (fun kq v9 w' => ∃ (x9_8 : Int), v9 = .int .i64 x9_8 ∧ Aside0 (thistlelaw03_FoldRules.l1 kq y284 x9_8 = some r) ∧ Aside0 (kq ≤ k7) ∧ Aside0 (Kd.R (Kd.int .i32) 21 w' w.heap.size (fun _ => True) v285 y284) ∧ Aside0 (Below w.heap.size w w'))
                                    case atStart => exact ⟨(0), (by first | rfl | (simp; done) | (simp [*]; done)), H', ⟨Nat.le_refl _⟩, ⟨by (with_reducible repeat (first | apply Kd.R_alloc | apply Kd.R_drewN | apply Kd.R_drew)); exact HO286.out⟩, ⟨by repeat (first | (with_reducible first | exact HB.out | apply below_alloc | apply pw_below_drewN | apply below_drew1) | exact HB.out)⟩⟩
                                    case round =>
                                      clear H'
                                      try clear c1
                                      try clear c2
                                      try clear p2
                                      try clear q2
                                      try clear hx2
                                      try clear qi2
                                      try clear c4
                                      try clear c5
                                      try clear c6
                                      try clear p6
                                      try clear c7
                                      try clear c8
                                      try clear c9
                                      try clear c11
                                      try clear c12
                                      try clear c13
                                      try clear c16
                                      try clear c18
                                      try clear c20
                                      try clear c22
                                      try clear c24
                                      try clear c27
                                      try clear p27
                                      try clear q27
                                      try clear hx27
                                      try clear qi27
                                      try clear c28
                                      try clear p28
                                      try clear q28
                                      try clear hx28
                                      try clear c43
                                      try clear c45
                                      try clear c47
                                      try clear c61
                                      try clear c63
                                      try clear p64
                                      try clear c65
                                      try clear c67
                                      try clear c69
                                      try clear c94
                                      try clear c94b0
                                      try clear c94b1
                                      try clear c96
                                      try clear c96b0
                                      try clear c96b1
                                      try clear c98
                                      try clear c98b0
                                      try clear c98b1
                                      try clear c111
                                      try clear c112
                                      try clear c113
                                      try clear c114
                                      try clear c115
                                      try clear c133
                                      try clear c133b0
                                      try clear c134
                                      try clear c134b0
                                      try clear c135
                                      try clear c135b0
                                      try clear c135b1
                                      try clear c138
                                      try clear hx277_0
                                      try clear hx278_0
                                      try clear hx282_0
                                      try clear p2
                                      try clear p277
                                      try clear p278
                                      try clear p282
                                      try clear q277
                                      try clear q278
                                      try clear q282
                                      obtain ⟨x9_8, rfl, HA, HK8, HO_8, HB⟩ := hrel
                                      cases gk with
                                      | zero => exact absurd HA.out (by simp [thistlelaw03_FoldRules.l1])
                                      | succ k8 =>
                                        have H := HA.out
                                        clear HA
                                        simp only [thistlelaw03_FoldRules.l1] at H
                                        by_cases c150 : x9_8 < (y284.length : Int)
                                        · rw [if_pos c150] at H
                                          have c150b0 : decide (x9_8 < (y284.length : Int)) = true := decide_eq_true c150
                                          clear c150
                                          by_cases c151 : 0 ≤ x9_8
                                          · rw [if_pos c151] at H
                                            have c151b0 : decide (0 ≤ x9_8) = true := decide_eq_true c151
                                            clear c151
                                            replace H := Option.bind_eq_some_iff.mp H
                                            obtain ⟨t288, A1520, H⟩ := H
                                            replace H : (if t288 = (rd y284 x9_8) then (thistlelaw03_FoldRules.l1 k8 y284 (wrap64 (x9_8 + 1))) else (some false)) = some r := H
                                            have A152 := Aside0.mk A1520
                                            clear A1520
                                            by_cases c153 : t288 = (rd y284 x9_8)
                                            · rw [if_pos c153] at H
                                              have c153b0 : (t288 == (rd y284 x9_8)) = true := beq_iff_eq.mpr c153
                                              have c153b1 : (t288 != (rd y284 x9_8)) = false := bne_eq_false_iff_eq.mpr c153
                                              clear c153
                                              have H' := Aside0.mk H
                                              clear H
                                              obtain ⟨Ao154, co154, eo154⟩ := Kd.R_slice HO_8.out
                                              subst eo154
                                              try go_wp2
                                              have n0_ := Aside0.mk (Kd.R_drew HO_8.out)
                                              have n1_ := Aside0.mk (below_drew1 HB.out)
                                              clear HO_8
                                              clear HB
                                              have HO_8 := n0_
                                              have HB := n1_
                                              clear n0_ n1_
                                              have p287 : 0 ≤ (x9_8 : Int) := of_decide_eq_true (by first | (with_reducible assumption) | assumption)
                                              have q287 : x9_8 < (y284.length : Int) := of_decide_eq_true (by first | (with_reducible assumption) | assumption)
                                              obtain ⟨ad287, e287, hx287_0⟩ := Kd.at_int (Kd.R_reads' HO_8.out).2.2 x9_8 p287 q287
                                              cases e287
                                              replace p287 := eq_true p287
                                              replace q287 := eq_true q287
                                              have p289 : 0 ≤ (x9_8 : Int) := of_decide_eq_true (by first | (with_reducible assumption) | assumption)
                                              have q289 : x9_8 < (y284.length : Int) := of_decide_eq_true (by first | (with_reducible assumption) | assumption)
                                              obtain ⟨ad289, e289, hx289_0⟩ := Kd.at_int (Kd.R_reads' HO_8.out).2.2 x9_8 p289 q289
                                              obtain rfl : ad287 = ad289 := (by injection e289)
                                              replace p289 := eq_true p289
                                              replace q289 := eq_true q289
                                              refine start_ (n := 10) (S := fun w' => w'.cell? (ad287.add (x9_8).toNat) = some (.int .i32 (rd y284 x9_8)) ∧ w'.cell? (ad287.add (x9_8).toNat) = some (.int .i32 (rd y284 x9_8))) (ds := []) #[false, false, false, false, false, false, false, false, false, false] (by kernel_rfl) rfl rfl ⟨hx287_0, hx289_0⟩ (fun hHeld => ?_); refine with_tabW thistlelaw03_FoldRules.tab20 thistlelaw03_FoldRules.bits20 (fun HT_ HW_ => ?_)
                                              generalize wr.drew = w155 at HO_8 HB hx287_0 hx289_0 hHeld ⊢
                                              refine pure_ (i := 0) (N := some 122) (v := ?_) (a' := ?_) #[true, false, false, false, false, false, false, false, false, false] rfl rfl (any_of HT_.out (by kernel_rfl)) (fun _ _ _ h => h) (Or.inl ⟨by rfl, ?_⟩) ?_ ?_
                                              rotate_left
                                              · intro w'
                                                go_simp
                                                with_reducible rfl
                                              rotate_left
                                              · simp only [Act.put, List.setIfInBounds_toArray, List.set_cons_zero, List.set_cons_succ, i64_w, i32_w]
                                                rfl
                                              refine pure_ (i := 1) (N := some 123) (v := ?_) (a' := ?_) #[true, true, false, false, false, false, false, false, false, false] rfl rfl (any_of HT_.out (by kernel_rfl)) (fun _ _ _ h => h) (Or.inl ⟨by rfl, ?_⟩) ?_ ?_
                                              rotate_left
                                              · intro w'
                                                go_simp
                                                with_reducible rfl
                                              rotate_left
                                              · simp only [Act.put, List.setIfInBounds_toArray, List.set_cons_zero, List.set_cons_succ, i64_w, i32_w]
                                                rfl
                                              refine pure_ (i := 2) (N := some 124) (v := ?_) (a' := ?_) #[true, true, true, false, false, false, false, false, false, false] rfl rfl (any_of HT_.out (by kernel_rfl)) (fun _ _ _ h => h) (Or.inl ⟨by rfl, ?_⟩) ?_ ?_
                                              rotate_left
                                              · intro w'
                                                go_simp
                                                with_reducible rfl
                                              rotate_left
                                              · simp only [Act.put, List.setIfInBounds_toArray, List.set_cons_zero, List.set_cons_succ, i64_w, i32_w]
                                                rfl
                                              refine pure_ (i := 5) (N := some 127) (v := ?_) (a' := ?_) #[true, true, true, false, false, true, false, false, false, false] rfl rfl (any_of HT_.out (by kernel_rfl)) (fun _ _ _ h => h) (Or.inl ⟨by rfl, ?_⟩) ?_ ?_
                                              rotate_left
                                              · intro w'
                                                go_simp
                                                with_reducible rfl
                                              rotate_left
                                              · simp only [Act.put, List.setIfInBounds_toArray, List.set_cons_zero, List.set_cons_succ, i64_w, i32_w]
                                                rfl
                                              refine pure_ (i := 6) (N := some 128) (v := ?_) (a' := ?_) #[true, true, true, false, false, true, true, false, false, false] rfl rfl (any_of HT_.out (by kernel_rfl)) (fun _ _ _ h => h) (Or.inl ⟨by rfl, ?_⟩) ?_ ?_
                                              rotate_left
                                              · intro w'
                                                go_simp
                                                with_reducible rfl
                                              rotate_left
                                              · simp only [Act.put, List.setIfInBounds_toArray, List.set_cons_zero, List.set_cons_succ, i64_w, i32_w]
                                                rfl
                                              refine pure_ (i := 7) (N := some 129) (v := ?_) (a' := ?_) #[true, true, true, false, false, true, true, true, false, false] rfl rfl (any_of HT_.out (by kernel_rfl)) (fun _ _ _ h => h) (Or.inl ⟨by rfl, ?_⟩) ?_ ?_
                                              rotate_left
                                              · intro w'
                                                go_simp
                                                with_reducible rfl
                                              rotate_left
                                              · simp only [Act.put, List.setIfInBounds_toArray, List.set_cons_zero, List.set_cons_succ, i64_w, i32_w]
                                                rfl
                                              refine take_ (i := 3) (N := some 125) (v := ?_) (a' := ?_) #[true, true, true, true, false, true, true, true, false, false] rfl rfl (take_ofW HT_.out HW_.out (by kernel_rfl)) (fun _ _ _ h => h) (Or.inl ⟨by rfl, ?_⟩) hHeld ?_ ?_
                                              rotate_left
                                              · rintro w' ⟨s0, s1⟩
                                                go_simp
                                                with_reducible rfl
                                              rotate_left
                                              · simp only [Act.put, List.setIfInBounds_toArray, List.set_cons_zero, List.set_cons_succ, i64_w, i32_w]
                                                rfl
                                              refine take_ (i := 8) (N := some 130) (v := ?_) (a' := ?_) #[true, true, true, true, false, true, true, true, true, false] rfl rfl (take_ofW HT_.out HW_.out (by kernel_rfl)) (fun _ _ _ h => h) (Or.inl ⟨by rfl, ?_⟩) hHeld ?_ ?_
                                              rotate_left
                                              · rintro w' ⟨s0, s1⟩
                                                go_simp
                                                with_reducible rfl
                                              rotate_left
                                              · simp only [Act.put, List.setIfInBounds_toArray, List.set_cons_zero, List.set_cons_succ, i64_w, i32_w]
                                                rfl
                                              refine one_ (i := 4) (N := some 126) #[true, true, true, true, true, true, true, true, true, false] rfl rfl (one_of HT_.out (by kernel_rfl)) (by decide) (fun K hK => ?_)
                                              refine goes_ Try.func8 (by kernel_rfl) rfl #[.int .i32 (rd y284 x9_8)] (by rfl) rfl rfl (by (try simp only [List.map_toArray, List.map_cons, List.map_nil]); first | done | rfl | (simp only [List.length_drop, List.length_take]; rfl)) ?_
                                              with_reducible refine (fold_Next.calls k8 (rd y284 x9_8) t288 _ A152.out).mono ?_
                                              rintro e w156 ⟨rfl, hb⟩
                                              have HS0_ := (hb.cell (World.block_lt_of_cell? _ _ (hHeld.1))).trans (hHeld.1)
                                              have HS1_ := (hb.cell (World.block_lt_of_cell? _ _ (hHeld.2))).trans (hHeld.2)
                                              refine ⟨_, rfl, ?_⟩
                                              have n0_ := Aside0.mk (Kd.R_below (by (with_reducible repeat (first | apply Kd.R_alloc | apply Kd.R_drewN | apply Kd.R_drew)); exact HO_8.out) hb)
                                              have n1_ := Aside0.mk (below_step (by repeat (first | (with_reducible first | exact HB.out | apply below_alloc | apply pw_below_drewN | apply below_drew1) | exact HB.out)) hb)
                                              clear HO_8
                                              clear HB
                                              have HO_8 := n0_
                                              have HB := n1_
                                              clear n0_ n1_
                                              (try clear hb)
                                              (try clear hb2)
                                              (try clear hk)
                                              (try clear hi)
                                              refine hK.out _ _ ⟨HS0_, HS1_⟩ (fun hHeld => ?_)
                                              clear hK K
                                              refine norm_ (a' := ?_) ?_ ?_
                                              rotate_left
                                              · show Act.put _ (some 126) _ = _
                                                simp only [Act.put, List.setIfInBounds_toArray, List.set_cons_zero, List.set_cons_succ, i64_w, i32_w]
                                                rfl
                                              refine pure_ (i := 9) (N := some 131) (v := ?_) (a' := ?_) #[true, true, true, true, true, true, true, true, true, true] rfl rfl (any_of HT_.out (by kernel_rfl)) (fun _ _ _ h => h) (Or.inl ⟨by rfl, ?_⟩) ?_ ?_
                                              rotate_left
                                              · intro w'
                                                go_simp
                                                with_reducible rfl
                                              rotate_left
                                              · simp only [Act.put, List.setIfInBounds_toArray, List.set_cons_zero, List.set_cons_succ, i64_w, i32_w]
                                                rfl
                                              refine done_ (done_of HT_.out (by kernel_rfl)) ?_
                                              try go_wp2
                                              go_roundg k8
                                              case measure => have := HJ2.out; have := HJ15.out; have := HJ40.out; have := HJ58.out; have := HJ91.out; have := HJ109.out; have := HK7.out; have := HK8.out; omega
                                              case rel => exact ⟨(wrap64 (x9_8 + 1)), (by first | rfl | (simp; done) | (simp [*]; done)), H', ⟨by have := HJ2.out; have := HJ15.out; have := HJ40.out; have := HJ58.out; have := HJ91.out; have := HJ109.out; have := HK7.out; have := HK8.out; omega⟩, ⟨by (with_reducible repeat (first | apply Kd.R_alloc | apply Kd.R_drewN | apply Kd.R_drew)); exact HO_8.out⟩, ⟨by repeat (first | (with_reducible first | exact HB.out | apply below_alloc | apply pw_below_drewN | apply below_drew1) | exact HB.out)⟩⟩
                                            · rw [if_neg c153] at H
                                              have c153b0 : (t288 == (rd y284 x9_8)) = false := beq_eq_false_iff_ne.mpr c153
                                              have c153b1 : (t288 != (rd y284 x9_8)) = true := bne_iff_ne.mpr c153
                                              obtain rfl := Option.some.inj H
                                              obtain ⟨Ao157, co157, eo157⟩ := Kd.R_slice HO_8.out
                                              subst eo157
                                              try go_wp2
                                              have n0_ := Aside0.mk (Kd.R_drew HO_8.out)
                                              have n1_ := Aside0.mk (below_drew1 HB.out)
                                              clear HO_8
                                              clear HB
                                              have HO_8 := n0_
                                              have HB := n1_
                                              clear n0_ n1_
                                              have p287 : 0 ≤ (x9_8 : Int) := of_decide_eq_true (by first | (with_reducible assumption) | assumption)
                                              have q287 : x9_8 < (y284.length : Int) := of_decide_eq_true (by first | (with_reducible assumption) | assumption)
                                              obtain ⟨ad287, e287, hx287_0⟩ := Kd.at_int (Kd.R_reads' HO_8.out).2.2 x9_8 p287 q287
                                              cases e287
                                              replace p287 := eq_true p287
                                              replace q287 := eq_true q287
                                              have p289 : 0 ≤ (x9_8 : Int) := of_decide_eq_true (by first | (with_reducible assumption) | assumption)
                                              have q289 : x9_8 < (y284.length : Int) := of_decide_eq_true (by first | (with_reducible assumption) | assumption)
                                              obtain ⟨ad289, e289, hx289_0⟩ := Kd.at_int (Kd.R_reads' HO_8.out).2.2 x9_8 p289 q289
                                              obtain rfl : ad287 = ad289 := (by injection e289)
                                              replace p289 := eq_true p289
                                              replace q289 := eq_true q289
                                              refine start_ (n := 10) (S := fun w' => w'.cell? (ad287.add (x9_8).toNat) = some (.int .i32 (rd y284 x9_8)) ∧ w'.cell? (ad287.add (x9_8).toNat) = some (.int .i32 (rd y284 x9_8))) (ds := []) #[false, false, false, false, false, false, false, false, false, false] (by kernel_rfl) rfl rfl ⟨hx287_0, hx289_0⟩ (fun hHeld => ?_); refine with_tabW thistlelaw03_FoldRules.tab20 thistlelaw03_FoldRules.bits20 (fun HT_ HW_ => ?_)
                                              generalize wr.drew = w158 at HO_8 HB hx287_0 hx289_0 hHeld ⊢
                                              refine pure_ (i := 0) (N := some 122) (v := ?_) (a' := ?_) #[true, false, false, false, false, false, false, false, false, false] rfl rfl (any_of HT_.out (by kernel_rfl)) (fun _ _ _ h => h) (Or.inl ⟨by rfl, ?_⟩) ?_ ?_
                                              rotate_left
                                              · intro w'
                                                go_simp
                                                with_reducible rfl
                                              rotate_left
                                              · simp only [Act.put, List.setIfInBounds_toArray, List.set_cons_zero, List.set_cons_succ, i64_w, i32_w]
                                                rfl
                                              refine pure_ (i := 1) (N := some 123) (v := ?_) (a' := ?_) #[true, true, false, false, false, false, false, false, false, false] rfl rfl (any_of HT_.out (by kernel_rfl)) (fun _ _ _ h => h) (Or.inl ⟨by rfl, ?_⟩) ?_ ?_
                                              rotate_left
                                              · intro w'
                                                go_simp
                                                with_reducible rfl
                                              rotate_left
                                              · simp only [Act.put, List.setIfInBounds_toArray, List.set_cons_zero, List.set_cons_succ, i64_w, i32_w]
                                                rfl
                                              refine pure_ (i := 2) (N := some 124) (v := ?_) (a' := ?_) #[true, true, true, false, false, false, false, false, false, false] rfl rfl (any_of HT_.out (by kernel_rfl)) (fun _ _ _ h => h) (Or.inl ⟨by rfl, ?_⟩) ?_ ?_
                                              rotate_left
                                              · intro w'
                                                go_simp
                                                with_reducible rfl
                                              rotate_left
                                              · simp only [Act.put, List.setIfInBounds_toArray, List.set_cons_zero, List.set_cons_succ, i64_w, i32_w]
                                                rfl
                                              refine pure_ (i := 5) (N := some 127) (v := ?_) (a' := ?_) #[true, true, true, false, false, true, false, false, false, false] rfl rfl (any_of HT_.out (by kernel_rfl)) (fun _ _ _ h => h) (Or.inl ⟨by rfl, ?_⟩) ?_ ?_
                                              rotate_left
                                              · intro w'
                                                go_simp
                                                with_reducible rfl
                                              rotate_left
                                              · simp only [Act.put, List.setIfInBounds_toArray, List.set_cons_zero, List.set_cons_succ, i64_w, i32_w]
                                                rfl
                                              refine pure_ (i := 6) (N := some 128) (v := ?_) (a' := ?_) #[true, true, true, false, false, true, true, false, false, false] rfl rfl (any_of HT_.out (by kernel_rfl)) (fun _ _ _ h => h) (Or.inl ⟨by rfl, ?_⟩) ?_ ?_
                                              rotate_left
                                              · intro w'
                                                go_simp
                                                with_reducible rfl
                                              rotate_left
                                              · simp only [Act.put, List.setIfInBounds_toArray, List.set_cons_zero, List.set_cons_succ, i64_w, i32_w]
                                                rfl
                                              refine pure_ (i := 7) (N := some 129) (v := ?_) (a' := ?_) #[true, true, true, false, false, true, true, true, false, false] rfl rfl (any_of HT_.out (by kernel_rfl)) (fun _ _ _ h => h) (Or.inl ⟨by rfl, ?_⟩) ?_ ?_
                                              rotate_left
                                              · intro w'
                                                go_simp
                                                with_reducible rfl
                                              rotate_left
                                              · simp only [Act.put, List.setIfInBounds_toArray, List.set_cons_zero, List.set_cons_succ, i64_w, i32_w]
                                                rfl
                                              refine take_ (i := 3) (N := some 125) (v := ?_) (a' := ?_) #[true, true, true, true, false, true, true, true, false, false] rfl rfl (take_ofW HT_.out HW_.out (by kernel_rfl)) (fun _ _ _ h => h) (Or.inl ⟨by rfl, ?_⟩) hHeld ?_ ?_
                                              rotate_left
                                              · rintro w' ⟨s0, s1⟩
                                                go_simp
                                                with_reducible rfl
                                              rotate_left
                                              · simp only [Act.put, List.setIfInBounds_toArray, List.set_cons_zero, List.set_cons_succ, i64_w, i32_w]
                                                rfl
                                              refine take_ (i := 8) (N := some 130) (v := ?_) (a' := ?_) #[true, true, true, true, false, true, true, true, true, false] rfl rfl (take_ofW HT_.out HW_.out (by kernel_rfl)) (fun _ _ _ h => h) (Or.inl ⟨by rfl, ?_⟩) hHeld ?_ ?_
                                              rotate_left
                                              · rintro w' ⟨s0, s1⟩
                                                go_simp
                                                with_reducible rfl
                                              rotate_left
                                              · simp only [Act.put, List.setIfInBounds_toArray, List.set_cons_zero, List.set_cons_succ, i64_w, i32_w]
                                                rfl
                                              refine one_ (i := 4) (N := some 126) #[true, true, true, true, true, true, true, true, true, false] rfl rfl (one_of HT_.out (by kernel_rfl)) (by decide) (fun K hK => ?_)
                                              refine goes_ Try.func8 (by kernel_rfl) rfl #[.int .i32 (rd y284 x9_8)] (by rfl) rfl rfl (by (try simp only [List.map_toArray, List.map_cons, List.map_nil]); first | done | rfl | (simp only [List.length_drop, List.length_take]; rfl)) ?_
                                              with_reducible refine (fold_Next.calls k8 (rd y284 x9_8) t288 _ A152.out).mono ?_
                                              rintro e w159 ⟨rfl, hb⟩
                                              have HS0_ := (hb.cell (World.block_lt_of_cell? _ _ (hHeld.1))).trans (hHeld.1)
                                              have HS1_ := (hb.cell (World.block_lt_of_cell? _ _ (hHeld.2))).trans (hHeld.2)
                                              refine ⟨_, rfl, ?_⟩
                                              have n0_ := Aside0.mk (Kd.R_below (by (with_reducible repeat (first | apply Kd.R_alloc | apply Kd.R_drewN | apply Kd.R_drew)); exact HO_8.out) hb)
                                              have n1_ := Aside0.mk (below_step (by repeat (first | (with_reducible first | exact HB.out | apply below_alloc | apply pw_below_drewN | apply below_drew1) | exact HB.out)) hb)
                                              clear HO_8
                                              clear HB
                                              have HO_8 := n0_
                                              have HB := n1_
                                              clear n0_ n1_
                                              (try clear hb)
                                              (try clear hb2)
                                              (try clear hk)
                                              (try clear hi)
                                              refine hK.out _ _ ⟨HS0_, HS1_⟩ (fun hHeld => ?_)
                                              clear hK K
                                              refine norm_ (a' := ?_) ?_ ?_
                                              rotate_left
                                              · show Act.put _ (some 126) _ = _
                                                simp only [Act.put, List.setIfInBounds_toArray, List.set_cons_zero, List.set_cons_succ, i64_w, i32_w]
                                                rfl
                                              refine pure_ (i := 9) (N := some 131) (v := ?_) (a' := ?_) #[true, true, true, true, true, true, true, true, true, true] rfl rfl (any_of HT_.out (by kernel_rfl)) (fun _ _ _ h => h) (Or.inl ⟨by rfl, ?_⟩) ?_ ?_
                                              rotate_left
                                              · intro w'
                                                go_simp
                                                with_reducible rfl
                                              rotate_left
                                              · simp only [Act.put, List.setIfInBounds_toArray, List.set_cons_zero, List.set_cons_succ, i64_w, i32_w]
                                                rfl
                                              refine done_ (done_of HT_.out (by kernel_rfl)) ?_
                                              try go_wp2
                                              go_ret
                                              exact ⟨by first | rfl | (simp [errW_none, errW_some] <;> rfl) | (simp [*, errW_none, errW_some] <;> rfl), by repeat (first | (with_reducible first | exact HB.out | apply below_alloc | apply pw_below_drewN | apply below_drew1) | exact HB.out)⟩
                                          · rw [if_neg c151] at H
                                            exact absurd H (by simp)
                                        · rw [if_neg c150] at H
                                          have c150b0 : decide (x9_8 < (y284.length : Int)) = false := decide_eq_false c150
                                          clear c150
                                          obtain rfl := Option.some.inj H
                                          obtain ⟨Ao160, co160, eo160⟩ := Kd.R_slice HO_8.out
                                          subst eo160
                                          go_wp2
                                          go_ret
                                          exact ⟨by first | rfl | (simp [errW_none, errW_some] <;> rfl) | (simp [*, errW_none, errW_some] <;> rfl), by repeat (first | (with_reducible first | exact HB.out | apply below_alloc | apply pw_below_drewN | apply below_drew1) | exact HB.out)⟩
  · replace c2 := Bool.eq_false_iff.mpr c2
    subst c2
    have H1 : (some false) = some r := by rw [if_neg (show ¬ (false = true) by decide)] at H; exact H
    clear H
    have H := H1
    clear H1
    obtain rfl := Option.some.inj H
    go_enter Try.func5, Try.ntmps5
    go_wp2_with (first | ((with_reducible refine gate_callee (f := 7) rfl ?_); refine goesL_ (some 10) rfl rfl Try.func7 (by kernel_rfl) rfl #[] rfl (by (try simp only [List.map_toArray, List.map_cons, List.map_nil]); first | done | rfl | (simp only [List.length_drop, List.length_take]; rfl)) ?_; (with_reducible refine (thistlelaw03_awake.calls k  false _ A1.out).mono ?_); rintro e w161 ⟨rfl, hb⟩; refine ⟨_, rfl, ?_⟩; have n0_ := Aside0.mk (below_step (by repeat (first | (with_reducible first | exact HB.out | apply below_alloc | apply pw_below_drewN | apply below_drew1) | exact HB.out)) hb); clear HB; have HB := n0_; clear n0_; (try clear hb); (try clear hb2); (try clear hk); (try clear hi)))
    go_ret
    exact ⟨by first | rfl | (simp [errW_none, errW_some] <;> rfl) | (simp [*, errW_none, errW_some] <;> rfl), by repeat (first | (with_reducible first | exact HB.out | apply below_alloc | apply pw_below_drewN | apply below_drew1) | exact HB.out)⟩

/-- THE ONE PURE STATEMENT of thistlelaw03_FoldRules: yours. -/
def thistlelaw03_FoldRules.Pure : Prop := ∃ k, thistlelaw03_FoldRules.f k  = some true
theorem thistlelaw03_FoldRules.walk (P : thistlelaw03_FoldRules.Pure)  (w : World)  :
    Calls Try.prog 5 #[] w fun e w' => e = .returned (.bool true) ∧ Below w.heap.size w w' := by
  obtain ⟨k, h⟩ := P  
  refine (thistlelaw03_FoldRules.calls k  true w h).mono ?_
  rintro e w' ⟨rfl, hd⟩
  exact ⟨rfl, hd⟩

end Go.Proofs.Ytpfhppgklklhcaa.XF
