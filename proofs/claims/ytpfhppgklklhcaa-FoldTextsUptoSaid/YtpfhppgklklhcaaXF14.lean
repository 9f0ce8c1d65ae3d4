/- WRITTEN BY A PROGRAM OF THIS SESSION (wip/tools/xprint.py, over the kit's printer): contracts of the functions that the seat's laws reach. -/
import Derived.Test.YtpfhppgklklhcaaXF0
import Derived.Test.YtpfhppgklklhcaaXF3
import Derived.Test.YtpfhppgklklhcaaXF4
import Derived.Test.YtpfhppgklklhcaaXF12
import Derived.Test.YtpfhppgklklhcaaXF13
namespace Go.Proofs.Ytpfhppgklklhcaa.XF
open Go.RowKit Go.Proofs.YtpfhppgklklhcaaW.PrintWords Go.Proofs.YtpfhppgklklhcaaW.PrintLast Go.Proofs.YtpfhppgklklhcaaW.PrintMore
attribute [local go_sem] max2_int min2_int max_two min_two max_three min_three max_four min_four   -- for this text's walks alone
set_option linter.unusedVariables false
set_option linter.unusedSimpArgs false

/-! ### thistlelaw03_FoldTexts: function 6 -/
mutual
def thistlelaw03_FoldTexts.j0 : Nat → ByteArray → ByteArray → ByteArray → ByteArray → Bool → Option (Bool)
  | 0, _, _, _, _, _ => none
  | k + 1, x0, x1, x5, x6, x34 => if x34 = true then (some false) else ((fold_Same.f k x0 x1).bind fun t357 => (if (t357 != (x5.toList == x6.toList)) = true then (thistlelaw03_FoldTexts.j1 k x0 x5 true) else ((fold_Base.f k x5).bind fun t358 => (if t358.toList = x5.toList then ((fold_Same.f k x0 x5).bind fun t359 => (if t359 = true then ((fold_Same.f k x1 x1).bind fun t360 => (if t360 = true then ((fold_Same.f k x1 x0).bind fun t361 => ((fold_Same.f k x0 x1).bind fun t362 => (thistlelaw03_FoldTexts.j1 k x0 x5 (t361 != t362)))) else (thistlelaw03_FoldTexts.j1 k x0 x5 true))) else (thistlelaw03_FoldTexts.j1 k x0 x5 true))) else (thistlelaw03_FoldTexts.j1 k x0 x5 true)))))
def thistlelaw03_FoldTexts.j1 : Nat → ByteArray → ByteArray → Bool → Option (Bool)
  | 0, _, _, _ => none
  | k + 1, x0, x5, x68 => if x68 = true then (some false) else ((utf_Units.f k x0).bind fun t363 => ((utf_Units.f k x5).bind fun t366 => (if (t363.length : Int) = (t366.length : Int) then (thistlelaw03_FoldTexts.l0 k t363 t366 0) else (some false))))
def thistlelaw03_FoldTexts.l0 : Nat → List Int → List Int → Int → Option (Bool)
  | 0, _, _, _ => none
  | k + 1, x7, x8, x9 => if x9 < (x7.length : Int) then (if 0 ≤ x9 then (if x9 < (x8.length : Int) then ((fold_Least.f k (rd x7 x9)).bind fun t371 => (if (rd x8 x9) = t371 then (thistlelaw03_FoldTexts.l0 k x7 x8 (wrap64 (x9 + 1))) else (some false))) else (none)) else (none)) else (some true)
end
def thistlelaw03_FoldTexts.f (k : Nat) (a0 : ByteArray) (a1 : ByteArray) : Option (Bool) := (thistlelaw03_awake.f k).bind fun t350 => (if t350 = true then ((fold_Base.f k a0).bind fun t351 => ((fold_Base.f k a1).bind fun t352 => ((thistleref03_Base.f k a0).bind fun t353 => (if t351.toList = t353.toList then ((thistleref03_Base.f k a1).bind fun t354 => (if t352.toList = t354.toList then ((fold_Same.f k a0 a1).bind fun t355 => ((thistleref03_Same.f k a0 a1).bind fun t356 => (thistlelaw03_FoldTexts.j0 k a0 a1 t351 t352 (t355 != t356)))) else (thistlelaw03_FoldTexts.j0 k a0 a1 t351 t352 true))) else (thistlelaw03_FoldTexts.j0 k a0 a1 t351 t352 true))))) else (some false))
theorem thistlelaw03_FoldTexts.mono_l : ∀ k, (∀ y0 y1 y2 y3 y4, LeO (thistlelaw03_FoldTexts.j0 k y0 y1 y2 y3 y4) (thistlelaw03_FoldTexts.j0 (k + 1) y0 y1 y2 y3 y4)) ∧ (∀ y0 y1 y2, LeO (thistlelaw03_FoldTexts.j1 k y0 y1 y2) (thistlelaw03_FoldTexts.j1 (k + 1) y0 y1 y2)) ∧ (∀ y0 y1 y2, LeO (thistlelaw03_FoldTexts.l0 k y0 y1 y2) (thistlelaw03_FoldTexts.l0 (k + 1) y0 y1 y2))
  | 0 => ⟨fun _ _ _ _ _ r h => by simp [thistlelaw03_FoldTexts.j0] at h, fun _ _ _ r h => by simp [thistlelaw03_FoldTexts.j1] at h, fun _ _ _ r h => by simp [thistlelaw03_FoldTexts.l0] at h⟩
  | k + 1 => by
    obtain ⟨ih0, ih1, ih2⟩ := thistlelaw03_FoldTexts.mono_l k
    refine ⟨?_, ?_, ?_⟩
    · intro y0 y1 y2 y3 y4
      unfold thistlelaw03_FoldTexts.j0
      repeat' first
      | (with_reducible exact ih0 _ _ _ _ _)
      | (with_reducible exact ih1 _ _ _)
      | (with_reducible exact ih2 _ _ _)
      | (with_reducible exact fold_Base.mono _ _)
      | (with_reducible exact fold_Least.mono _ _)
      | (with_reducible exact fold_Same.mono _ _ _)
      | (with_reducible exact thistlelaw03_awake.mono _)
      | (with_reducible exact thistleref03_Base.mono _ _)
      | (with_reducible exact thistleref03_Same.mono _ _ _)
      | (with_reducible exact utf_Units.mono _ _)
      | (with_reducible exact LeO.refl _)
      | (with_reducible exact LeO.none _)
      | (with_reducible refine LeO.ite ?_ ?_)
      | (with_reducible refine LeO.bind ?_ (fun _ => ?_))
      | exact ih0 _ _ _ _ _
      | exact ih1 _ _ _
      | exact ih2 _ _ _
      | exact fold_Base.mono _ _
      | exact fold_Least.mono _ _
      | exact fold_Same.mono _ _ _
      | exact thistlelaw03_awake.mono _
      | exact thistleref03_Base.mono _ _
      | exact thistleref03_Same.mono _ _ _
      | exact utf_Units.mono _ _
      | exact LeO.none _
      | refine LeO.ite ?_ ?_
      | refine LeO.bind ?_ (fun _ => ?_)
    · intro y0 y1 y2
      unfold thistlelaw03_FoldTexts.j1
      repeat' first
      | (with_reducible exact ih0 _ _ _ _ _)
      | (with_reducible exact ih1 _ _ _)
      | (with_reducible exact ih2 _ _ _)
      | (with_reducible exact fold_Base.mono _ _)
      | (with_reducible exact fold_Least.mono _ _)
      | (with_reducible exact fold_Same.mono _ _ _)
      | (with_reducible exact thistlelaw03_awake.mono _)
      | (with_reducible exact thistleref03_Base.mono _ _)
      | (with_reducible exact thistleref03_Same.mono _ _ _)
      | (with_reducible exact utf_Units.mono _ _)
      | (with_reducible exact LeO.refl _)
      | (with_reducible exact LeO.none _)
      | (with_reducible refine LeO.ite ?_ ?_)
      | (with_reducible refine LeO.bind ?_ (fun _ => ?_))
      | exact ih0 _ _ _ _ _
      | exact ih1 _ _ _
      | exact ih2 _ _ _
      | exact fold_Base.mono _ _
      | exact fold_Least.mono _ _
      | exact fold_Same.mono _ _ _
      | exact thistlelaw03_awake.mono _
      | exact thistleref03_Base.mono _ _
      | exact thistleref03_Same.mono _ _ _
      | exact utf_Units.mono _ _
      | exact LeO.none _
      | refine LeO.ite ?_ ?_
      | refine LeO.bind ?_ (fun _ => ?_)
    · intro y0 y1 y2
      unfold thistlelaw03_FoldTexts.l0
      repeat' first
      | (with_reducible exact ih0 _ _ _ _ _)
      | (with_reducible exact ih1 _ _ _)
      | (with_reducible exact ih2 _ _ _)
      | (with_reducible exact fold_Base.mono _ _)
      | (with_reducible exact fold_Least.mono _ _)
      | (with_reducible exact fold_Same.mono _ _ _)
      | (with_reducible exact thistlelaw03_awake.mono _)
      | (with_reducible exact thistleref03_Base.mono _ _)
      | (with_reducible exact thistleref03_Same.mono _ _ _)
      | (with_reducible exact utf_Units.mono _ _)
      | (with_reducible exact LeO.refl _)
      | (with_reducible exact LeO.none _)
      | (with_reducible refine LeO.ite ?_ ?_)
      | (with_reducible refine LeO.bind ?_ (fun _ => ?_))
      | exact ih0 _ _ _ _ _
      | exact ih1 _ _ _
      | exact ih2 _ _ _
      | exact fold_Base.mono _ _
      | exact fold_Least.mono _ _
      | exact fold_Same.mono _ _ _
      | exact thistlelaw03_awake.mono _
      | exact thistleref03_Base.mono _ _
      | exact thistleref03_Same.mono _ _ _
      | exact utf_Units.mono _ _
      | exact LeO.none _
      | refine LeO.ite ?_ ?_
      | refine LeO.bind ?_ (fun _ => ?_)
theorem thistlelaw03_FoldTexts.mono : ∀ a0 a1 k, LeO (thistlelaw03_FoldTexts.f k a0 a1) (thistlelaw03_FoldTexts.f (k + 1) a0 a1) := by
  intro a0 a1 k
  obtain ⟨ih0, ih1, ih2⟩ := thistlelaw03_FoldTexts.mono_l k
  unfold thistlelaw03_FoldTexts.f
  repeat' first
      | (with_reducible exact ih0 _ _ _ _ _)
      | (with_reducible exact ih1 _ _ _)
      | (with_reducible exact ih2 _ _ _)
      | (with_reducible exact fold_Base.mono _ _)
      | (with_reducible exact fold_Least.mono _ _)
      | (with_reducible exact fold_Same.mono _ _ _)
      | (with_reducible exact thistlelaw03_awake.mono _)
      | (with_reducible exact thistleref03_Base.mono _ _)
      | (with_reducible exact thistleref03_Same.mono _ _ _)
      | (with_reducible exact utf_Units.mono _ _)
      | (with_reducible exact LeO.refl _)
      | (with_reducible exact LeO.none _)
      | (with_reducible refine LeO.ite ?_ ?_)
      | (with_reducible refine LeO.bind ?_ (fun _ => ?_))
      | exact ih0 _ _ _ _ _
      | exact ih1 _ _ _
      | exact ih2 _ _ _
      | exact fold_Base.mono _ _
      | exact fold_Least.mono _ _
      | exact fold_Same.mono _ _ _
      | exact thistlelaw03_awake.mono _
      | exact thistleref03_Base.mono _ _
      | exact thistleref03_Same.mono _ _ _
      | exact utf_Units.mono _ _
      | exact LeO.none _
      | refine LeO.ite ?_ ?_
      | refine LeO.bind ?_ (fun _ => ?_)
def thistlelaw03_FoldTexts.T16 : Bool × List (List Nat × List Nat) := (true, [([], []), ([], []), ([0, 1], [0, 1]), ([2], [2]), ([], []), ([], []), ([4, 5], [4, 5]), ([6], [6]), ([7], [7]), ([3, 8], [3, 8])])
def thistlelaw03_FoldTexts.B16 : List Nat := [0, 0, 3, 7, 0, 0, 48, 112, 240, 511]
theorem thistlelaw03_FoldTexts.tab16 : rtab .any (opsOf Try.f6 16) = thistlelaw03_FoldTexts.T16 := by kernel_rfl
theorem thistlelaw03_FoldTexts.bits16 : waitsOk thistlelaw03_FoldTexts.T16.2 thistlelaw03_FoldTexts.B16 = true := by kernel_rfl
set_option maxHeartbeats 8000000 in
set_option maxRecDepth 100000 in
theorem thistlelaw03_FoldTexts.calls (k : Nat) (a0 : ByteArray) (a1 : ByteArray) (r : Bool) (w : World) (h : thistlelaw03_FoldTexts.f k a0 a1 = some r) :
    Calls Try.prog 6 #[.string a0, .string a1] w fun e w' => e = .returned (.bool r) ∧ Below w.heap.size w w' := by
  have HB := Aside0.mk (Below.refl w.heap.size w)
  have H : ((thistlelaw03_awake.f k).bind fun t350 => (if t350 = true then ((fold_Base.f k a0).bind fun t351 => ((fold_Base.f k a1).bind fun t352 => ((thistleref03_Base.f k a0).bind fun t353 => (if t351.toList = t353.toList then ((thistleref03_Base.f k a1).bind fun t354 => (if t352.toList = t354.toList then ((fold_Same.f k a0 a1).bind fun t355 => ((thistleref03_Same.f k a0 a1).bind fun t356 => (thistlelaw03_FoldTexts.j0 k a0 a1 t351 t352 (t355 != t356)))) else (thistlelaw03_FoldTexts.j0 k a0 a1 t351 t352 true))) else (thistlelaw03_FoldTexts.j0 k a0 a1 t351 t352 true))))) else (some false))) = some r := h
  clear h
  replace H := Option.bind_eq_some_iff.mp H
  obtain ⟨t350, A30, H⟩ := H
  replace H : (if t350 = true then ((fold_Base.f k a0).bind fun t351 => ((fold_Base.f k a1).bind fun t352 => ((thistleref03_Base.f k a0).bind fun t353 => (if t351.toList = t353.toList then ((thistleref03_Base.f k a1).bind fun t354 => (if t352.toList = t354.toList then ((fold_Same.f k a0 a1).bind fun t355 => ((thistleref03_Same.f k a0 a1).bind fun t356 => (thistlelaw03_FoldTexts.j0 k a0 a1 t351 t352 (t355 != t356)))) else (thistlelaw03_FoldTexts.j0 k a0 a1 t351 t352 true))) else (thistlelaw03_FoldTexts.j0 k a0 a1 t351 t352 true))))) else (some false)) = some r := H
  have A3 := Aside0.mk A30
  clear A30
  by_cases c4 : t350 = true
  · subst c4
    have H1 : ((fold_Base.f k a0).bind fun t351 => ((fold_Base.f k a1).bind fun t352 => ((thistleref03_Base.f k a0).bind fun t353 => (if t351.toList = t353.toList then ((thistleref03_Base.f k a1).bind fun t354 => (if t352.toList = t354.toList then ((fold_Same.f k a0 a1).bind fun t355 => ((thistleref03_Same.f k a0 a1).bind fun t356 => (thistlelaw03_FoldTexts.j0 k a0 a1 t351 t352 (t355 != t356)))) else (thistlelaw03_FoldTexts.j0 k a0 a1 t351 t352 true))) else (thistlelaw03_FoldTexts.j0 k a0 a1 t351 t352 true))))) = some r := by rw [if_pos rfl] at H; exact H
    clear H
    have H := H1
    clear H1
    replace H := Option.bind_eq_some_iff.mp H
    obtain ⟨t351, A50, H⟩ := H
    replace H : ((fold_Base.f k a1).bind fun t352 => ((thistleref03_Base.f k a0).bind fun t353 => (if t351.toList = t353.toList then ((thistleref03_Base.f k a1).bind fun t354 => (if t352.toList = t354.toList then ((fold_Same.f k a0 a1).bind fun t355 => ((thistleref03_Same.f k a0 a1).bind fun t356 => (thistlelaw03_FoldTexts.j0 k a0 a1 t351 t352 (t355 != t356)))) else (thistlelaw03_FoldTexts.j0 k a0 a1 t351 t352 true))) else (thistlelaw03_FoldTexts.j0 k a0 a1 t351 t352 true)))) = some r := H
    have A5 := Aside0.mk A50
    clear A50
    replace H := Option.bind_eq_some_iff.mp H
    obtain ⟨t352, A60, H⟩ := H
    replace H : ((thistleref03_Base.f k a0).bind fun t353 => (if t351.toList = t353.toList then ((thistleref03_Base.f k a1).bind fun t354 => (if t352.toList = t354.toList then ((fold_Same.f k a0 a1).bind fun t355 => ((thistleref03_Same.f k a0 a1).bind fun t356 => (thistlelaw03_FoldTexts.j0 k a0 a1 t351 t352 (t355 != t356)))) else (thistlelaw03_FoldTexts.j0 k a0 a1 t351 t352 true))) else (thistlelaw03_FoldTexts.j0 k a0 a1 t351 t352 true))) = some r := H
    have A6 := Aside0.mk A60
    clear A60
    have HC7 := Aside0.mk H
    clear H
    go_enter Try.func6, Try.ntmps6
    go_upto_region 5 with (first | ((with_reducible refine gate_callee (f := 7) rfl ?_); refine goesL_ (some 10) rfl rfl Try.func7 (by kernel_rfl) rfl #[] rfl (by (try simp only [List.map_toArray, List.map_cons, List.map_nil]); first | done | rfl | (simp only [List.length_drop, List.length_take]; rfl)) ?_; (with_reducible refine (thistlelaw03_awake.calls k  true _ A3.out).mono ?_); rintro e w8 ⟨rfl, hb⟩; refine ⟨_, rfl, ?_⟩; have n0_ := Aside0.mk (below_step (by repeat (first | (with_reducible first | exact HB.out | apply below_alloc | apply pw_below_drewN | apply below_drew1) | exact HB.out)) hb); clear HB; have HB := n0_; clear n0_; (try clear hb); (try clear hb2); (try clear hk); (try clear hi)) | ((with_reducible refine gate_callee (f := 17) rfl ?_); refine goesL_ (some 13) rfl rfl Try.func17 (by kernel_rfl) rfl #[.string a0] rfl (by (try simp only [List.map_toArray, List.map_cons, List.map_nil]); first | done | rfl | (simp only [List.length_drop, List.length_take]; rfl)) ?_; (with_reducible refine (fold_Base.calls k a0 t351 _ A5.out).mono ?_); rintro e w9 ⟨rfl, hb⟩; refine ⟨_, rfl, ?_⟩; have n0_ := Aside0.mk (below_step (by repeat (first | (with_reducible first | exact HB.out | apply below_alloc | apply pw_below_drewN | apply below_drew1) | exact HB.out)) hb); clear HB; have HB := n0_; clear n0_; (try clear hb); (try clear hb2); (try clear hk); (try clear hi)) | ((with_reducible refine gate_callee (f := 17) rfl ?_); refine goesL_ (some 15) rfl rfl Try.func17 (by kernel_rfl) rfl #[.string a1] rfl (by (try simp only [List.map_toArray, List.map_cons, List.map_nil]); first | done | rfl | (simp only [List.length_drop, List.length_take]; rfl)) ?_; (with_reducible refine (fold_Base.calls k a1 t352 _ A6.out).mono ?_); rintro e w10 ⟨rfl, hb⟩; refine ⟨_, rfl, ?_⟩; have n0_ := Aside0.mk (below_step (by repeat (first | (with_reducible first | exact HB.out | apply below_alloc | apply pw_below_drewN | apply below_drew1) | exact HB.out)) hb); clear HB; have HB := n0_; clear n0_; (try clear hb); (try clear hb2); (try clear hk); (try clear hi)))
    (try simp only [Act.put, List.setIfInBounds_toArray, List.set_cons_zero, List.set_cons_succ])
    go_cut [34] (fun v34 wc => ∃ (kq : Nat) (x34_6 : Bool), v34 = .bool x34_6 ∧ Aside0 (thistlelaw03_FoldTexts.j0 kq a0 a1 t351 t352 x34_6 = some r) ∧ Aside0 (kq ≤ k) ∧ Aside0 (Below w.heap.size w wc))
    case first =>
      have H := HC7.out
      clear HC7
      replace H := Option.bind_eq_some_iff.mp H
      obtain ⟨t353, A110, H⟩ := H
      replace H : (if t351.toList = t353.toList then ((thistleref03_Base.f k a1).bind fun t354 => (if t352.toList = t354.toList then ((fold_Same.f k a0 a1).bind fun t355 => ((thistleref03_Same.f k a0 a1).bind fun t356 => (thistlelaw03_FoldTexts.j0 k a0 a1 t351 t352 (t355 != t356)))) else (thistlelaw03_FoldTexts.j0 k a0 a1 t351 t352 true))) else (thistlelaw03_FoldTexts.j0 k a0 a1 t351 t352 true)) = some r := H
      have A11 := Aside0.mk A110
      clear A110
      by_cases c12 : t351.toList = t353.toList
      · rw [if_pos c12] at H
        have c12b0 : (t351.toList == t353.toList) = true := beq_iff_eq.mpr c12
        have c12b1 : (t351.toList != t353.toList) = false := bne_eq_false_iff_eq.mpr c12
        clear c12
        (first | rw [c12b0] | (simp only [i64_w, i32_w]; rw [c12b0]) | skip)
        replace H := Option.bind_eq_some_iff.mp H
        obtain ⟨t354, A130, H⟩ := H
        replace H : (if t352.toList = t354.toList then ((fold_Same.f k a0 a1).bind fun t355 => ((thistleref03_Same.f k a0 a1).bind fun t356 => (thistlelaw03_FoldTexts.j0 k a0 a1 t351 t352 (t355 != t356)))) else (thistlelaw03_FoldTexts.j0 k a0 a1 t351 t352 true)) = some r := H
        have A13 := Aside0.mk A130
        clear A130
        by_cases c14 : t352.toList = t354.toList
        · rw [if_pos c14] at H
          have c14b0 : (t352.toList == t354.toList) = true := beq_iff_eq.mpr c14
          have c14b1 : (t352.toList != t354.toList) = false := bne_eq_false_iff_eq.mpr c14
          clear c14
          replace H := Option.bind_eq_some_iff.mp H
          obtain ⟨t355, A150, H⟩ := H
          replace H : ((thistleref03_Same.f k a0 a1).bind fun t356 => (thistlelaw03_FoldTexts.j0 k a0 a1 t351 t352 (t355 != t356))) = some r := H
          have A15 := Aside0.mk A150
          clear A150
          replace H := Option.bind_eq_some_iff.mp H
          obtain ⟨t356, A160, H⟩ := H
          replace H : (thistlelaw03_FoldTexts.j0 k a0 a1 t351 t352 (t355 != t356)) = some r := H
          have A16 := Aside0.mk A160
          clear A160
          have H' := Aside0.mk H
          clear H
          go_wp2_with (first | ((with_reducible refine gate_callee (f := 18) rfl ?_); refine goesL_ (some 18) rfl rfl Try.func18 (by kernel_rfl) rfl #[.string a0] rfl (by (try simp only [List.map_toArray, List.map_cons, List.map_nil]); first | done | rfl | (simp only [List.length_drop, List.length_take]; rfl)) ?_; (with_reducible refine (thistleref03_Base.calls k a0 t353 _ A11.out).mono ?_); rintro e w17 ⟨rfl, hb⟩; refine ⟨_, rfl, ?_⟩; have n0_ := Aside0.mk (below_step (by repeat (first | (with_reducible first | exact HB.out | apply below_alloc | apply pw_below_drewN | apply below_drew1) | exact HB.out)) hb); clear HB; have HB := n0_; clear n0_; (try clear hb); (try clear hb2); (try clear hk); (try clear hi)) | (go_at_call 18; (with_reducible refine (thistleref03_Base.calls k a1 t354 _ A13.out).mono ?_); rintro e w18 ⟨rfl, hb⟩; have n0_ := Aside0.mk (below_step (by repeat (first | (with_reducible first | exact HB.out | apply below_alloc | apply pw_below_drewN | apply below_drew1) | exact HB.out)) hb); clear HB; have HB := n0_; clear n0_; (try clear hb); (try clear hb2); (try clear hk); (try clear hi)) | (go_at_call 19; (with_reducible refine (fold_Same.calls k a0 a1 t355 _ A15.out).mono ?_); rintro e w19 ⟨rfl, hb⟩; have n0_ := Aside0.mk (below_step (by repeat (first | (with_reducible first | exact HB.out | apply below_alloc | apply pw_below_drewN | apply below_drew1) | exact HB.out)) hb); clear HB; have HB := n0_; clear n0_; (try clear hb); (try clear hb2); (try clear hk); (try clear hi)) | (go_at_call 20; (with_reducible refine (thistleref03_Same.calls k a0 a1 t356 _ A16.out).mono ?_); rintro e w20 ⟨rfl, hb⟩; have n0_ := Aside0.mk (below_step (by repeat (first | (with_reducible first | exact HB.out | apply below_alloc | apply pw_below_drewN | apply below_drew1) | exact HB.out)) hb); clear HB; have HB := n0_; clear n0_; (try clear hb); (try clear hb2); (try clear hk); (try clear hi)))
          go_meet
          case rel => exact ⟨_, ((t355 != t356)), (by first | rfl | (simp; done) | (simp [*]; done)), H', ⟨by first | omega | exact Nat.le_refl _⟩, ⟨by repeat (first | (with_reducible first | exact HB.out | apply below_alloc | apply pw_below_drewN | apply below_drew1) | exact HB.out)⟩⟩
        · rw [if_neg c14] at H
          have c14b0 : (t352.toList == t354.toList) = false := beq_eq_false_iff_ne.mpr c14
          have c14b1 : (t352.toList != t354.toList) = true := bne_iff_ne.mpr c14
          have H' := Aside0.mk H
          clear H
          go_wp2_with (first | ((with_reducible refine gate_callee (f := 18) rfl ?_); refine goesL_ (some 18) rfl rfl Try.func18 (by kernel_rfl) rfl #[.string a0] rfl (by (try simp only [List.map_toArray, List.map_cons, List.map_nil]); first | done | rfl | (simp only [List.length_drop, List.length_take]; rfl)) ?_; (with_reducible refine (thistleref03_Base.calls k a0 t353 _ A11.out).mono ?_); rintro e w21 ⟨rfl, hb⟩; refine ⟨_, rfl, ?_⟩; have n0_ := Aside0.mk (below_step (by repeat (first | (with_reducible first | exact HB.out | apply below_alloc | apply pw_below_drewN | apply below_drew1) | exact HB.out)) hb); clear HB; have HB := n0_; clear n0_; (try clear hb); (try clear hb2); (try clear hk); (try clear hi)) | (go_at_call 18; (with_reducible refine (thistleref03_Base.calls k a1 t354 _ A13.out).mono ?_); rintro e w22 ⟨rfl, hb⟩; have n0_ := Aside0.mk (below_step (by repeat (first | (with_reducible first | exact HB.out | apply below_alloc | apply pw_below_drewN | apply below_drew1) | exact HB.out)) hb); clear HB; have HB := n0_; clear n0_; (try clear hb); (try clear hb2); (try clear hk); (try clear hi)))
          go_meet
          case rel => exact ⟨_, (true), (by first | rfl | (simp; done) | (simp [*]; done)), H', ⟨by first | omega | exact Nat.le_refl _⟩, ⟨by repeat (first | (with_reducible first | exact HB.out | apply below_alloc | apply pw_below_drewN | apply below_drew1) | exact HB.out)⟩⟩
      · rw [if_neg c12] at H
        have c12b0 : (t351.toList == t353.toList) = false := beq_eq_false_iff_ne.mpr c12
        have c12b1 : (t351.toList != t353.toList) = true := bne_iff_ne.mpr c12
        (first | rw [c12b0] | (simp only [i64_w, i32_w]; rw [c12b0]) | skip)
        have H' := Aside0.mk H
        clear H
        go_wp2_with (first | ((with_reducible refine gate_callee (f := 18) rfl ?_); refine goesL_ (some 18) rfl rfl Try.func18 (by kernel_rfl) rfl #[.string a0] rfl (by (try simp only [List.map_toArray, List.map_cons, List.map_nil]); first | done | rfl | (simp only [List.length_drop, List.length_take]; rfl)) ?_; (with_reducible refine (thistleref03_Base.calls k a0 t353 _ A11.out).mono ?_); rintro e w23 ⟨rfl, hb⟩; refine ⟨_, rfl, ?_⟩; have n0_ := Aside0.mk (below_step (by repeat (first | (with_reducible first | exact HB.out | apply below_alloc | apply pw_below_drewN | apply below_drew1) | exact HB.out)) hb); clear HB; have HB := n0_; clear n0_; (try clear hb); (try clear hb2); (try clear hk); (try clear hi)))
        go_meet
        case rel => exact ⟨_, (true), (by first | rfl | (simp; done) | (simp [*]; done)), H', ⟨by first | omega | exact Nat.le_refl _⟩, ⟨by repeat (first | (with_reducible first | exact HB.out | apply below_alloc | apply pw_below_drewN | apply below_drew1) | exact HB.out)⟩⟩
    case rest =>
      clear HC7
      try clear c1
      try clear p2
      try clear c4
      try clear c6
      try clear c7
      try clear c12
      try clear c12b0
      try clear c12b1
      try clear c14
      try clear c14b0
      try clear c14b1
      try clear c17
      try clear c18
      obtain ⟨kq, x34_6, rfl, HA, HJ6, HB⟩ := hcut
      cases kq with
      | zero => exact absurd HA.out (by simp [thistlelaw03_FoldTexts.j0])
      | succ kj6 =>
        have H := HA.out
        clear HA
        simp only [thistlelaw03_FoldTexts.j0] at H
        by_cases c24 : x34_6 = true
        · subst c24
          have H1 : (some false) = some r := by rw [if_pos rfl] at H; exact H
          clear H
          have H := H1
          clear H1
          obtain rfl := Option.some.inj H
          go_wp2
          go_ret
          exact ⟨by first | rfl | (simp [errW_none, errW_some] <;> rfl) | (simp [*, errW_none, errW_some] <;> rfl), by repeat (first | (with_reducible first | exact HB.out | apply below_alloc | apply pw_below_drewN | apply below_drew1) | exact HB.out)⟩
        · replace c24 := Bool.eq_false_iff.mpr c24
          subst c24
          have H1 : ((fold_Same.f kj6 a0 a1).bind fun t357 => (if (t357 != (t351.toList == t352.toList)) = true then (thistlelaw03_FoldTexts.j1 kj6 a0 t351 true) else ((fold_Base.f kj6 t351).bind fun t358 => (if t358.toList = t351.toList then ((fold_Same.f kj6 a0 t351).bind fun t359 => (if t359 = true then ((fold_Same.f kj6 a1 a1).bind fun t360 => (if t360 = true then ((fold_Same.f kj6 a1 a0).bind fun t361 => ((fold_Same.f kj6 a0 a1).bind fun t362 => (thistlelaw03_FoldTexts.j1 kj6 a0 t351 (t361 != t362)))) else (thistlelaw03_FoldTexts.j1 kj6 a0 t351 true))) else (thistlelaw03_FoldTexts.j1 kj6 a0 t351 true))) else (thistlelaw03_FoldTexts.j1 kj6 a0 t351 true))))) = some r := by rw [if_neg (show ¬ (false = true) by decide)] at H; exact H
          clear H
          have H := H1
          clear H1
          have HC25 := Aside0.mk H
          clear H
          go_upto_region 7 with (fail)
          go_cut [68] (fun v68 wc => ∃ (kq : Nat) (x68_24 : Bool), v68 = .bool x68_24 ∧ Aside0 (thistlelaw03_FoldTexts.j1 kq a0 t351 x68_24 = some r) ∧ Aside0 (kq ≤ kj6) ∧ Aside0 (Below w.heap.size w wc))
          case first =>
            have H := HC25.out
            clear HC25
            replace H := Option.bind_eq_some_iff.mp H
            obtain ⟨t357, A260, H⟩ := H
            replace H : (if (t357 != (t351.toList == t352.toList)) = true then (thistlelaw03_FoldTexts.j1 kj6 a0 t351 true) else ((fold_Base.f kj6 t351).bind fun t358 => (if t358.toList = t351.toList then ((fold_Same.f kj6 a0 t351).bind fun t359 => (if t359 = true then ((fold_Same.f kj6 a1 a1).bind fun t360 => (if t360 = true then ((fold_Same.f kj6 a1 a0).bind fun t361 => ((fold_Same.f kj6 a0 a1).bind fun t362 => (thistlelaw03_FoldTexts.j1 kj6 a0 t351 (t361 != t362)))) else (thistlelaw03_FoldTexts.j1 kj6 a0 t351 true))) else (thistlelaw03_FoldTexts.j1 kj6 a0 t351 true))) else (thistlelaw03_FoldTexts.j1 kj6 a0 t351 true)))) = some r := H
            have A26 := Aside0.mk A260
            clear A260
            by_cases c27 : (t357 != (t351.toList == t352.toList)) = true
            · rw [if_pos c27] at H
              have c27b0 : (t357 != (t351.toList == t352.toList)) = true := c27
              (try (have c27b1 : decide (t357 = (t351.toList == t352.toList)) = false := by first | simpa using c27 | exact XLib.e1 c27 | exact XLib.e2 c27 | exact XLib.e3 c27 | exact XLib.n1 c27 | exact XLib.n2 c27 | exact XLib.n3 c27 | exact XLib.n4 c27 | exact XLib.n5 c27))
              (try (have c27b2 : (t357 == (t351.toList == t352.toList)) = false := by first | simpa using c27 | exact XLib.e1 c27 | exact XLib.e2 c27 | exact XLib.e3 c27 | exact XLib.n1 c27 | exact XLib.n2 c27 | exact XLib.n3 c27 | exact XLib.n4 c27 | exact XLib.n5 c27))
              (try (have c27b3 : ¬ (t357 = (t351.toList == t352.toList)) := by first | simpa using c27 | exact XLib.e1 c27 | exact XLib.e2 c27 | exact XLib.e3 c27 | exact XLib.n1 c27 | exact XLib.n2 c27 | exact XLib.n3 c27 | exact XLib.n4 c27 | exact XLib.n5 c27))
              clear c27
              (first | rw [c27b0] | (simp only [i64_w, i32_w]; rw [c27b0]) | skip)
              have H' := Aside0.mk H
              clear H
              go_wp2_with (first | ((with_reducible refine gate_callee (f := 19) rfl ?_); refine goesL_ (some 37) rfl rfl Try.func19 (by kernel_rfl) rfl #[.string a0, .string a1] rfl (by (try simp only [List.map_toArray, List.map_cons, List.map_nil]); first | done | rfl | (simp only [List.length_drop, List.length_take]; rfl)) ?_; (with_reducible refine (fold_Same.calls kj6 a0 a1 t357 _ A26.out).mono ?_); rintro e w28 ⟨rfl, hb⟩; refine ⟨_, rfl, ?_⟩; have n0_ := Aside0.mk (below_step (by repeat (first | (with_reducible first | exact HB.out | apply below_alloc | apply pw_below_drewN | apply below_drew1) | exact HB.out)) hb); clear HB; have HB := n0_; clear n0_; (try clear hb); (try clear hb2); (try clear hk); (try clear hi)))
              go_meet
              case rel => exact ⟨_, (true), (by first | rfl | (simp; done) | (simp [*]; done)), H', ⟨by have := HJ6.out; first | omega | exact Nat.le_refl _⟩, ⟨by repeat (first | (with_reducible first | exact HB.out | apply below_alloc | apply pw_below_drewN | apply below_drew1) | exact HB.out)⟩⟩
            · rw [if_neg c27] at H
              have c27b0 : (t357 != (t351.toList == t352.toList)) = false := by simpa using c27
              (try (have c27b1 : decide (t357 = (t351.toList == t352.toList)) = true := by first | simpa using c27 | exact XLib.e1 c27 | exact XLib.e2 c27 | exact XLib.e3 c27 | exact XLib.n1 c27 | exact XLib.n2 c27 | exact XLib.n3 c27 | exact XLib.n4 c27 | exact XLib.n5 c27))
              (try (have c27b2 : (t357 == (t351.toList == t352.toList)) = true := by first | simpa using c27 | exact XLib.e1 c27 | exact XLib.e2 c27 | exact XLib.e3 c27 | exact XLib.n1 c27 | exact XLib.n2 c27 | exact XLib.n3 c27 | exact XLib.n4 c27 | exact XLib.n5 c27))
              clear c27
              (first | rw [c27b0] | (simp only [i64_w, i32_w]; rw [c27b0]) | skip)
              replace H := Option.bind_eq_some_iff.mp H
              obtain ⟨t358, A290, H⟩ := H
              replace H : (if t358.toList = t351.toList then ((fold_Same.f kj6 a0 t351).bind fun t359 => (if t359 = true then ((fold_Same.f kj6 a1 a1).bind fun t360 => (if t360 = true then ((fold_Same.f kj6 a1 a0).bind fun t361 => ((fold_Same.f kj6 a0 a1).bind fun t362 => (thistlelaw03_FoldTexts.j1 kj6 a0 t351 (t361 != t362)))) else (thistlelaw03_FoldTexts.j1 kj6 a0 t351 true))) else (thistlelaw03_FoldTexts.j1 kj6 a0 t351 true))) else (thistlelaw03_FoldTexts.j1 kj6 a0 t351 true)) = some r := H
              have A29 := Aside0.mk A290
              clear A290
              by_cases c30 : t358.toList = t351.toList
              · rw [if_pos c30] at H
                have c30b0 : (t358.toList == t351.toList) = true := beq_iff_eq.mpr c30
                have c30b1 : (t358.toList != t351.toList) = false := bne_eq_false_iff_eq.mpr c30
                clear c30
                replace H := Option.bind_eq_some_iff.mp H
                obtain ⟨t359, A310, H⟩ := H
                replace H : (if t359 = true then ((fold_Same.f kj6 a1 a1).bind fun t360 => (if t360 = true then ((fold_Same.f kj6 a1 a0).bind fun t361 => ((fold_Same.f kj6 a0 a1).bind fun t362 => (thistlelaw03_FoldTexts.j1 kj6 a0 t351 (t361 != t362)))) else (thistlelaw03_FoldTexts.j1 kj6 a0 t351 true))) else (thistlelaw03_FoldTexts.j1 kj6 a0 t351 true)) = some r := H
                have A31 := Aside0.mk A310
                clear A310
                by_cases c32 : t359 = true
                · subst c32
                  have H1 : ((fold_Same.f kj6 a1 a1).bind fun t360 => (if t360 = true then ((fold_Same.f kj6 a1 a0).bind fun t361 => ((fold_Same.f kj6 a0 a1).bind fun t362 => (thistlelaw03_FoldTexts.j1 kj6 a0 t351 (t361 != t362)))) else (thistlelaw03_FoldTexts.j1 kj6 a0 t351 true))) = some r := by rw [if_pos rfl] at H; exact H
                  clear H
                  have H := H1
                  clear H1
                  replace H := Option.bind_eq_some_iff.mp H
                  obtain ⟨t360, A330, H⟩ := H
                  replace H : (if t360 = true then ((fold_Same.f kj6 a1 a0).bind fun t361 => ((fold_Same.f kj6 a0 a1).bind fun t362 => (thistlelaw03_FoldTexts.j1 kj6 a0 t351 (t361 != t362)))) else (thistlelaw03_FoldTexts.j1 kj6 a0 t351 true)) = some r := H
                  have A33 := Aside0.mk A330
                  clear A330
                  by_cases c34 : t360 = true
                  · subst c34
                    have H1 : ((fold_Same.f kj6 a1 a0).bind fun t361 => ((fold_Same.f kj6 a0 a1).bind fun t362 => (thistlelaw03_FoldTexts.j1 kj6 a0 t351 (t361 != t362)))) = some r := by rw [if_pos rfl] at H; exact H
                    clear H
                    have H := H1
                    clear H1
                    replace H := Option.bind_eq_some_iff.mp H
                    obtain ⟨t361, A350, H⟩ := H
                    replace H : ((fold_Same.f kj6 a0 a1).bind fun t362 => (thistlelaw03_FoldTexts.j1 kj6 a0 t351 (t361 != t362))) = some r := H
                    have A35 := Aside0.mk A350
                    clear A350
                    replace H := Option.bind_eq_some_iff.mp H
                    obtain ⟨t362, A360, H⟩ := H
                    replace H : (thistlelaw03_FoldTexts.j1 kj6 a0 t351 (t361 != t362)) = some r := H
                    have A36 := Aside0.mk A360
                    clear A360
                    have H' := Aside0.mk H
                    clear H
                    go_wp2_with (first | ((with_reducible refine gate_callee (f := 19) rfl ?_); refine goesL_ (some 37) rfl rfl Try.func19 (by kernel_rfl) rfl #[.string a0, .string a1] rfl (by (try simp only [List.map_toArray, List.map_cons, List.map_nil]); first | done | rfl | (simp only [List.length_drop, List.length_take]; rfl)) ?_; (with_reducible refine (fold_Same.calls kj6 a0 a1 t357 _ A26.out).mono ?_); rintro e w37 ⟨rfl, hb⟩; refine ⟨_, rfl, ?_⟩; have n0_ := Aside0.mk (below_step (by repeat (first | (with_reducible first | exact HB.out | apply below_alloc | apply pw_below_drewN | apply below_drew1) | exact HB.out)) hb); clear HB; have HB := n0_; clear n0_; (try clear hb); (try clear hb2); (try clear hk); (try clear hi)) | (go_at_call 17; (with_reducible refine (fold_Base.calls kj6 t351 t358 _ A29.out).mono ?_); rintro e w38 ⟨rfl, hb⟩; have n0_ := Aside0.mk (below_step (by repeat (first | (with_reducible first | exact HB.out | apply below_alloc | apply pw_below_drewN | apply below_drew1) | exact HB.out)) hb); clear HB; have HB := n0_; clear n0_; (try clear hb); (try clear hb2); (try clear hk); (try clear hi)) | (go_at_call 19; (with_reducible refine (fold_Same.calls kj6 a0 t351 true _ A31.out).mono ?_); rintro e w39 ⟨rfl, hb⟩; have n0_ := Aside0.mk (below_step (by repeat (first | (with_reducible first | exact HB.out | apply below_alloc | apply pw_below_drewN | apply below_drew1) | exact HB.out)) hb); clear HB; have HB := n0_; clear n0_; (try clear hb); (try clear hb2); (try clear hk); (try clear hi)) | (go_at_call 19; (with_reducible refine (fold_Same.calls kj6 a1 a1 true _ A33.out).mono ?_); rintro e w40 ⟨rfl, hb⟩; have n0_ := Aside0.mk (below_step (by repeat (first | (with_reducible first | exact HB.out | apply below_alloc | apply pw_below_drewN | apply below_drew1) | exact HB.out)) hb); clear HB; have HB := n0_; clear n0_; (try clear hb); (try clear hb2); (try clear hk); (try clear hi)) | (go_at_call 19; (with_reducible refine (fold_Same.calls kj6 a1 a0 t361 _ A35.out).mono ?_); rintro e w41 ⟨rfl, hb⟩; have n0_ := Aside0.mk (below_step (by repeat (first | (with_reducible first | exact HB.out | apply below_alloc | apply pw_below_drewN | apply below_drew1) | exact HB.out)) hb); clear HB; have HB := n0_; clear n0_; (try clear hb); (try clear hb2); (try clear hk); (try clear hi)) | (go_at_call 19; (with_reducible refine (fold_Same.calls kj6 a0 a1 t362 _ A36.out).mono ?_); rintro e w42 ⟨rfl, hb⟩; have n0_ := Aside0.mk (below_step (by repeat (first | (with_reducible first | exact HB.out | apply below_alloc | apply pw_below_drewN | apply below_drew1) | exact HB.out)) hb); clear HB; have HB := n0_; clear n0_; (try clear hb); (try clear hb2); (try clear hk); (try clear hi)))
                    go_meet
                    case rel => exact ⟨_, ((t361 != t362)), (by first | rfl | (simp; done) | (simp [*]; done)), H', ⟨by have := HJ6.out; first | omega | exact Nat.le_refl _⟩, ⟨by repeat (first | (with_reducible first | exact HB.out | apply below_alloc | apply pw_below_drewN | apply below_drew1) | exact HB.out)⟩⟩
                  · replace c34 := Bool.eq_false_iff.mpr c34
                    subst c34
                    have H1 : (thistlelaw03_FoldTexts.j1 kj6 a0 t351 true) = some r := by rw [if_neg (show ¬ (false = true) by decide)] at H; exact H
                    clear H
                    have H := H1
                    clear H1
                    have H' := Aside0.mk H
                    clear H
                    go_wp2_with (first | ((with_reducible refine gate_callee (f := 19) rfl ?_); refine goesL_ (some 37) rfl rfl Try.func19 (by kernel_rfl) rfl #[.string a0, .string a1] rfl (by (try simp only [List.map_toArray, List.map_cons, List.map_nil]); first | done | rfl | (simp only [List.length_drop, List.length_take]; rfl)) ?_; (with_reducible refine (fold_Same.calls kj6 a0 a1 t357 _ A26.out).mono ?_); rintro e w43 ⟨rfl, hb⟩; refine ⟨_, rfl, ?_⟩; have n0_ := Aside0.mk (below_step (by repeat (first | (with_reducible first | exact HB.out | apply below_alloc | apply pw_below_drewN | apply below_drew1) | exact HB.out)) hb); clear HB; have HB := n0_; clear n0_; (try clear hb); (try clear hb2); (try clear hk); (try clear hi)) | (go_at_call 17; (with_reducible refine (fold_Base.calls kj6 t351 t358 _ A29.out).mono ?_); rintro e w44 ⟨rfl, hb⟩; have n0_ := Aside0.mk (below_step (by repeat (first | (with_reducible first | exact HB.out | apply below_alloc | apply pw_below_drewN | apply below_drew1) | exact HB.out)) hb); clear HB; have HB := n0_; clear n0_; (try clear hb); (try clear hb2); (try clear hk); (try clear hi)) | (go_at_call 19; (with_reducible refine (fold_Same.calls kj6 a0 t351 true _ A31.out).mono ?_); rintro e w45 ⟨rfl, hb⟩; have n0_ := Aside0.mk (below_step (by repeat (first | (with_reducible first | exact HB.out | apply below_alloc | apply pw_below_drewN | apply below_drew1) | exact HB.out)) hb); clear HB; have HB := n0_; clear n0_; (try clear hb); (try clear hb2); (try clear hk); (try clear hi)) | (go_at_call 19; (with_reducible refine (fold_Same.calls kj6 a1 a1 false _ A33.out).mono ?_); rintro e w46 ⟨rfl, hb⟩; have n0_ := Aside0.mk (below_step (by repeat (first | (with_reducible first | exact HB.out | apply below_alloc | apply pw_below_drewN | apply below_drew1) | exact HB.out)) hb); clear HB; have HB := n0_; clear n0_; (try clear hb); (try clear hb2); (try clear hk); (try clear hi)))
                    go_meet
                    case rel => exact ⟨_, (true), (by first | rfl | (simp; done) | (simp [*]; done)), H', ⟨by have := HJ6.out; first | omega | exact Nat.le_refl _⟩, ⟨by repeat (first | (with_reducible first | exact HB.out | apply below_alloc | apply pw_below_drewN | apply below_drew1) | exact HB.out)⟩⟩
                · replace c32 := Bool.eq_false_iff.mpr c32
                  subst c32
                  have H1 : (thistlelaw03_FoldTexts.j1 kj6 a0 t351 true) = some r := by rw [if_neg (show ¬ (false = true) by decide)] at H; exact H
                  clear H
                  have H := H1
                  clear H1
                  have H' := Aside0.mk H
                  clear H
                  go_wp2_with (first | ((with_reducible refine gate_callee (f := 19) rfl ?_); refine goesL_ (some 37) rfl rfl Try.func19 (by kernel_rfl) rfl #[.string a0, .string a1] rfl (by (try simp only [List.map_toArray, List.map_cons, List.map_nil]); first | done | rfl | (simp only [List.length_drop, List.length_take]; rfl)) ?_; (with_reducible refine (fold_Same.calls kj6 a0 a1 t357 _ A26.out).mono ?_); rintro e w47 ⟨rfl, hb⟩; refine ⟨_, rfl, ?_⟩; have n0_ := Aside0.mk (below_step (by repeat (first | (with_reducible first | exact HB.out | apply below_alloc | apply pw_below_drewN | apply below_drew1) | exact HB.out)) hb); clear HB; have HB := n0_; clear n0_; (try clear hb); (try clear hb2); (try clear hk); (try clear hi)) | (go_at_call 17; (with_reducible refine (fold_Base.calls kj6 t351 t358 _ A29.out).mono ?_); rintro e w48 ⟨rfl, hb⟩; have n0_ := Aside0.mk (below_step (by repeat (first | (with_reducible first | exact HB.out | apply below_alloc | apply pw_below_drewN | apply below_drew1) | exact HB.out)) hb); clear HB; have HB := n0_; clear n0_; (try clear hb); (try clear hb2); (try clear hk); (try clear hi)) | (go_at_call 19; (with_reducible refine (fold_Same.calls kj6 a0 t351 false _ A31.out).mono ?_); rintro e w49 ⟨rfl, hb⟩; have n0_ := Aside0.mk (below_step (by repeat (first | (with_reducible first | exact HB.out | apply below_alloc | apply pw_below_drewN | apply below_drew1) | exact HB.out)) hb); clear HB; have HB := n0_; clear n0_; (try clear hb); (try clear hb2); (try clear hk); (try clear hi)))
                  go_meet
                  case rel => exact ⟨_, (true), (by first | rfl | (simp; done) | (simp [*]; done)), H', ⟨by have := HJ6.out; first | omega | exact Nat.le_refl _⟩, ⟨by repeat (first | (with_reducible first | exact HB.out | apply below_alloc | apply pw_below_drewN | apply below_drew1) | exact HB.out)⟩⟩
              · rw [if_neg c30] at H
                have c30b0 : (t358.toList == t351.toList) = false := beq_eq_false_iff_ne.mpr c30
                have c30b1 : (t358.toList != t351.toList) = true := bne_iff_ne.mpr c30
                have H' := Aside0.mk H
                clear H
                go_wp2_with (first | ((with_reducible refine gate_callee (f := 19) rfl ?_); refine goesL_ (some 37) rfl rfl Try.func19 (by kernel_rfl) rfl #[.string a0, .string a1] rfl (by (try simp only [List.map_toArray, List.map_cons, List.map_nil]); first | done | rfl | (simp only [List.length_drop, List.length_take]; rfl)) ?_; (with_reducible refine (fold_Same.calls kj6 a0 a1 t357 _ A26.out).mono ?_); rintro e w50 ⟨rfl, hb⟩; refine ⟨_, rfl, ?_⟩; have n0_ := Aside0.mk (below_step (by repeat (first | (with_reducible first | exact HB.out | apply below_alloc | apply pw_below_drewN | apply below_drew1) | exact HB.out)) hb); clear HB; have HB := n0_; clear n0_; (try clear hb); (try clear hb2); (try clear hk); (try clear hi)) | (go_at_call 17; (with_reducible refine (fold_Base.calls kj6 t351 t358 _ A29.out).mono ?_); rintro e w51 ⟨rfl, hb⟩; have n0_ := Aside0.mk (below_step (by repeat (first | (with_reducible first | exact HB.out | apply below_alloc | apply pw_below_drewN | apply below_drew1) | exact HB.out)) hb); clear HB; have HB := n0_; clear n0_; (try clear hb); (try clear hb2); (try clear hk); (try clear hi)))
                go_meet
                case rel => exact ⟨_, (true), (by first | rfl | (simp; done) | (simp [*]; done)), H', ⟨by have := HJ6.out; first | omega | exact Nat.le_refl _⟩, ⟨by repeat (first | (with_reducible first | exact HB.out | apply below_alloc | apply pw_below_drewN | apply below_drew1) | exact HB.out)⟩⟩
          case rest =>
            clear HC25
            try clear c1
            try clear c2
            try clear p2
            try clear c3
            try clear c4
            try clear c6
            try clear c7
            try clear c12
            try clear c12b0
            try clear c12b1
            try clear c14
            try clear c14b0
            try clear c14b1
            try clear c17
            try clear c18
            try clear c19
            try clear c24
            try clear c27
            try clear c27b0
            try clear c27b1
            try clear c27b2
            try clear c30
            try clear c30b0
            try clear c30b1
            try clear c32
            try clear c34
            try clear p2
            obtain ⟨kq, x68_24, rfl, HA, HJ24, HB⟩ := hcut
            cases kq with
            | zero => exact absurd HA.out (by simp [thistlelaw03_FoldTexts.j1])
            | succ kj24 =>
              have H := HA.out
              clear HA
              simp only [thistlelaw03_FoldTexts.j1] at H
              by_cases c52 : x68_24 = true
              · subst c52
                have H1 : (some false) = some r := by rw [if_pos rfl] at H; exact H
                clear H
                have H := H1
                clear H1
                obtain rfl := Option.some.inj H
                go_wp2
                go_ret
                exact ⟨by first | rfl | (simp [errW_none, errW_some] <;> rfl) | (simp [*, errW_none, errW_some] <;> rfl), by repeat (first | (with_reducible first | exact HB.out | apply below_alloc | apply pw_below_drewN | apply below_drew1) | exact HB.out)⟩
              · replace c52 := Bool.eq_false_iff.mpr c52
                subst c52
                have H1 : ((utf_Units.f kj24 a0).bind fun t363 => ((utf_Units.f kj24 t351).bind fun t366 => (if (t363.length : Int) = (t366.length : Int) then (thistlelaw03_FoldTexts.l0 kj24 t363 t366 0) else (some false)))) = some r := by rw [if_neg (show ¬ (false = true) by decide)] at H; exact H
                clear H
                have H := H1
                clear H1
                replace H := Option.bind_eq_some_iff.mp H
                obtain ⟨t363, A530, H⟩ := H
                replace H : ((utf_Units.f kj24 t351).bind fun t366 => (if (t363.length : Int) = (t366.length : Int) then (thistlelaw03_FoldTexts.l0 kj24 t363 t366 0) else (some false))) = some r := H
                have A53 := Aside0.mk A530
                clear A530
                replace H := Option.bind_eq_some_iff.mp H
                obtain ⟨t366, A540, H⟩ := H
                replace H : (if (t363.length : Int) = (t366.length : Int) then (thistlelaw03_FoldTexts.l0 kj24 t363 t366 0) else (some false)) = some r := H
                have A54 := Aside0.mk A540
                clear A540
                by_cases c55 : (t363.length : Int) = (t366.length : Int)
                · rw [if_pos c55] at H
                  have c55b0 : ((t363.length : Int) == (t366.length : Int)) = true := beq_iff_eq.mpr c55
                  have c55b1 : ((t363.length : Int) != (t366.length : Int)) = false := bne_eq_false_iff_eq.mpr c55
                  have c55b2 : (t363.length == t366.length) = true := by first | simpa using c55 | (simp at c55 ⊢; omega)
                  clear c55
                  have H' := Aside0.mk H
                  clear H
                  go_wp2_with (first | ((with_reducible refine gate_callee (f := 21) rfl ?_); refine goesL_ (some 70) rfl rfl Try.func21 (by kernel_rfl) rfl #[.string a0] rfl (by (try simp only [List.map_toArray, List.map_cons, List.map_nil]); first | done | rfl | (simp only [List.length_drop, List.length_take]; rfl)) ?_; (with_reducible refine (utf_Units.calls kj24 a0 t363 _ A53.out).mono ?_); rintro e w56 ⟨v364, rfl, ho0, hb⟩; refine ⟨_, rfl, ?_⟩; have n0_ := Aside0.mk (Kd.R_lower ho0 (below_size (by repeat (first | (with_reducible first | exact HB.out | apply below_alloc | apply pw_below_drewN | apply below_drew1) | exact HB.out)))); have n1_ := Aside0.mk (below_step (by repeat (first | (with_reducible first | exact HB.out | apply below_alloc | apply pw_below_drewN | apply below_drew1) | exact HB.out)) hb); clear HB; have HO365 := n0_; have HB := n1_; clear n0_ n1_; (try clear hb); (try clear hb2); (try clear hk); (try clear hi); (try clear ho0)) | ((with_reducible refine gate_callee (f := 21) rfl ?_); refine goesL_ (some 72) rfl rfl Try.func21 (by kernel_rfl) rfl #[.string t351] rfl (by (try simp only [List.map_toArray, List.map_cons, List.map_nil]); first | done | rfl | (simp only [List.length_drop, List.length_take]; rfl)) ?_; (with_reducible refine (utf_Units.calls kj24 t351 t366 _ A54.out).mono ?_); rintro e w57 ⟨v367, rfl, ho0, hb⟩; refine ⟨_, rfl, ?_⟩; have n0_ := Aside0.mk (Kd.R_elder' (by (with_reducible repeat (first | apply Kd.R_alloc | apply Kd.R_drewN | apply Kd.R_drew)); exact HO365.out) (Kd.R_base ho0) hb); have n1_ := Aside0.mk (Kd.R_lower (Kd.R_new' ho0 (Kd.R_lt (by (with_reducible repeat (first | apply Kd.R_alloc | apply Kd.R_drewN | apply Kd.R_drew)); exact HO365.out))) (below_size (by repeat (first | (with_reducible first | exact HB.out | apply below_alloc | apply pw_below_drewN | apply below_drew1) | exact HB.out)))); have n2_ := Aside0.mk (below_step (by repeat (first | (with_reducible first | exact HB.out | apply below_alloc | apply pw_below_drewN | apply below_drew1) | exact HB.out)) hb); clear HO365; clear HB; have HO365 := n0_; have HO368 := n1_; have HB := n2_; clear n0_ n1_ n2_; (try clear hb); (try clear hb2); (try clear hk); (try clear hi); (try clear ho0); obtain ⟨Ao58, co58, eo58⟩ := Kd.R_slice HO365.out; subst eo58; obtain ⟨Ao59, co59, eo59⟩ := Kd.R_slice HO368.out; subst eo59))
                  go_loopg [9] kj24 (fun kq v9 w' => ∃ (x9_3 : Int), v9 = .int .i64 x9_3 ∧ Aside0 (thistlelaw03_FoldTexts.l0 kq t363 t366 x9_3 = some r) ∧ Aside0 (kq ≤ kj24) ∧ Aside0 (Kd.R (Kd.int .i32) 21 w' w.heap.size (fun k_ => some k_ ≠ ((.slice Ao59 t366.length co59) : Value).ownBlock) (.slice Ao58 t363.length co58) t363) ∧ Aside0 (Kd.R (Kd.int .i32) 21 w' w.heap.size (fun k_ => some k_ ≠ ((.slice Ao58 t363.length co58) : Value).ownBlock) (.slice Ao59 t366.length co59) t366) ∧ Aside0 (Below w.heap.size w w'))
                  case atStart => exact ⟨(0), (by first | rfl | (simp; done) | (simp [*]; done)), H', ⟨Nat.le_refl _⟩, ⟨by (with_reducible repeat (first | apply Kd.R_alloc | apply Kd.R_drewN | apply Kd.R_drew)); exact Kd.R_mono HO365.out (fun _ hk => hk.2)⟩, ⟨by (with_reducible repeat (first | apply Kd.R_alloc | apply Kd.R_drewN | apply Kd.R_drew)); exact Kd.R_mono HO368.out (fun _ hk => hk.2)⟩, ⟨by repeat (first | (with_reducible first | exact HB.out | apply below_alloc | apply pw_below_drewN | apply below_drew1) | exact HB.out)⟩⟩
                  case round =>
                    clear H'
                    try clear c1
                    try clear c2
                    try clear p2
                    try clear c3
                    try clear c4
                    try clear c5
                    try clear c6
                    try clear c7
                    try clear c12
                    try clear c12b0
                    try clear c12b1
                    try clear c14
                    try clear c14b0
                    try clear c14b1
                    try clear c17
                    try clear c18
                    try clear c19
                    try clear c21
                    try clear c24
                    try clear c27
                    try clear c27b0
                    try clear c27b1
                    try clear c27b2
                    try clear c30
                    try clear c30b0
                    try clear c30b1
                    try clear c32
                    try clear c34
                    try clear c52
                    try clear c55
                    try clear c55b0
                    try clear c55b1
                    try clear c55b2
                    try clear p2
                    obtain ⟨x9_3, rfl, HA, HK3, HO_7, HO_8, HB⟩ := hrel
                    cases gk with
                    | zero => exact absurd HA.out (by simp [thistlelaw03_FoldTexts.l0])
                    | succ k3 =>
                      have H := HA.out
                      clear HA
                      simp only [thistlelaw03_FoldTexts.l0] at H
                      by_cases c60 : x9_3 < (t363.length : Int)
                      · rw [if_pos c60] at H
                        have c60b0 : decide (x9_3 < (t363.length : Int)) = true := decide_eq_true c60
                        clear c60
                        by_cases c61 : 0 ≤ x9_3
                        · rw [if_pos c61] at H
                          have c61b0 : decide (0 ≤ x9_3) = true := decide_eq_true c61
                          clear c61
                          by_cases c62 : x9_3 < (t366.length : Int)
                          · rw [if_pos c62] at H
                            have c62b0 : decide (x9_3 < (t366.length : Int)) = true := decide_eq_true c62
                            clear c62
                            replace H := Option.bind_eq_some_iff.mp H
                            obtain ⟨t371, A630, H⟩ := H
                            replace H : (if (rd t366 x9_3) = t371 then (thistlelaw03_FoldTexts.l0 k3 t363 t366 (wrap64 (x9_3 + 1))) else (some false)) = some r := H
                            have A63 := Aside0.mk A630
                            clear A630
                            by_cases c64 : (rd t366 x9_3) = t371
                            · rw [if_pos c64] at H
                              have c64b0 : ((rd t366 x9_3) == t371) = true := beq_iff_eq.mpr c64
                              have c64b1 : ((rd t366 x9_3) != t371) = false := bne_eq_false_iff_eq.mpr c64
                              clear c64
                              have H' := Aside0.mk H
                              clear H
                              try go_wp2
                              have n0_ := Aside0.mk (Kd.R_drew HO_7.out)
                              have n1_ := Aside0.mk (Kd.R_drew HO_8.out)
                              have n2_ := Aside0.mk (below_drew1 HB.out)
                              clear HO_7
                              clear HO_8
                              clear HB
                              have HO_7 := n0_
                              have HO_8 := n1_
                              have HB := n2_
                              clear n0_ n1_ n2_
                              have p369 : 0 ≤ (x9_3 : Int) := of_decide_eq_true (by first | (with_reducible assumption) | assumption)
                              have q369 : x9_3 < (t366.length : Int) := of_decide_eq_true (by first | (with_reducible assumption) | assumption)
                              obtain ⟨ad369, e369, hx369_0⟩ := Kd.at_int (Kd.R_reads' HO_8.out).2.2 x9_3 p369 q369
                              cases e369
                              replace p369 := eq_true p369
                              replace q369 := eq_true q369
                              have p370 : 0 ≤ (x9_3 : Int) := of_decide_eq_true (by first | (with_reducible assumption) | assumption)
                              have q370 : x9_3 < (t363.length : Int) := of_decide_eq_true (by first | (with_reducible assumption) | assumption)
                              obtain ⟨ad370, e370, hx370_0⟩ := Kd.at_int (Kd.R_reads' HO_7.out).2.2 x9_3 p370 q370
                              cases e370
                              replace p370 := eq_true p370
                              replace q370 := eq_true q370
                              refine start_ (n := 10) (S := fun w' => w'.cell? (ad369.add (x9_3).toNat) = some (.int .i32 (rd t366 x9_3)) ∧ w'.cell? (ad370.add (x9_3).toNat) = some (.int .i32 (rd t363 x9_3))) (ds := []) #[false, false, false, false, false, false, false, false, false, false] (by kernel_rfl) rfl rfl ⟨hx369_0, hx370_0⟩ (fun hHeld => ?_); refine with_tabW thistlelaw03_FoldTexts.tab16 thistlelaw03_FoldTexts.bits16 (fun HT_ HW_ => ?_)
                              generalize wr.drew = w65 at HO_7 HO_8 HB hx369_0 hx370_0 hHeld ⊢
                              refine pure_ (i := 0) (N := some 84) (v := ?_) (a' := ?_) #[true, false, false, false, false, false, false, false, false, false] rfl rfl (any_of HT_.out (by kernel_rfl)) (fun _ _ _ h => h) (Or.inl ⟨by rfl, ?_⟩) ?_ ?_
                              rotate_left
                              · intro w'
                                go_simp
                                with_reducible rfl
                              rotate_left
                              · simp only [Act.put, List.setIfInBounds_toArray, List.set_cons_zero, List.set_cons_succ, i64_w, i32_w]
                                rfl
                              refine pure_ (i := 1) (N := some 85) (v := ?_) (a' := ?_) #[true, true, false, false, false, false, false, false, false, false] rfl rfl (any_of HT_.out (by kernel_rfl)) (fun _ _ _ h => h) (Or.inl ⟨by rfl, ?_⟩) ?_ ?_
                              rotate_left
                              · intro w'
                                go_simp
                                with_reducible rfl
                              rotate_left
                              · simp only [Act.put, List.setIfInBounds_toArray, List.set_cons_zero, List.set_cons_succ, i64_w, i32_w]
                                rfl
                              refine pure_ (i := 2) (N := some 86) (v := ?_) (a' := ?_) #[true, true, true, false, false, false, false, false, false, false] rfl rfl (any_of HT_.out (by kernel_rfl)) (fun _ _ _ h => h) (Or.inl ⟨by rfl, ?_⟩) ?_ ?_
                              rotate_left
                              · intro w'
                                go_simp
                                with_reducible rfl
                              rotate_left
                              · simp only [Act.put, List.setIfInBounds_toArray, List.set_cons_zero, List.set_cons_succ, i64_w, i32_w]
                                rfl
                              refine pure_ (i := 4) (N := some 88) (v := ?_) (a' := ?_) #[true, true, true, false, true, false, false, false, false, false] rfl rfl (any_of HT_.out (by kernel_rfl)) (fun _ _ _ h => h) (Or.inl ⟨by rfl, ?_⟩) ?_ ?_
                              rotate_left
                              · intro w'
                                go_simp
                                with_reducible rfl
                              rotate_left
                              · simp only [Act.put, List.setIfInBounds_toArray, List.set_cons_zero, List.set_cons_succ, i64_w, i32_w]
                                rfl
                              refine pure_ (i := 5) (N := some 89) (v := ?_) (a' := ?_) #[true, true, true, false, true, true, false, false, false, false] rfl rfl (any_of HT_.out (by kernel_rfl)) (fun _ _ _ h => h) (Or.inl ⟨by rfl, ?_⟩) ?_ ?_
                              rotate_left
                              · intro w'
                                go_simp
                                with_reducible rfl
                              rotate_left
                              · simp only [Act.put, List.setIfInBounds_toArray, List.set_cons_zero, List.set_cons_succ, i64_w, i32_w]
                                rfl
                              refine pure_ (i := 6) (N := some 90) (v := ?_) (a' := ?_) #[true, true, true, false, true, true, true, false, false, false] rfl rfl (any_of HT_.out (by kernel_rfl)) (fun _ _ _ h => h) (Or.inl ⟨by rfl, ?_⟩) ?_ ?_
                              rotate_left
                              · intro w'
                                go_simp
                                with_reducible rfl
                              rotate_left
                              · simp only [Act.put, List.setIfInBounds_toArray, List.set_cons_zero, List.set_cons_succ, i64_w, i32_w]
                                rfl
                              refine take_ (i := 3) (N := some 87) (v := ?_) (a' := ?_) #[true, true, true, true, true, true, true, false, false, false] rfl rfl (take_ofW HT_.out HW_.out (by kernel_rfl)) (fun _ _ _ h => h) (Or.inl ⟨by rfl, ?_⟩) hHeld ?_ ?_
                              rotate_left
                              · rintro w' ⟨s0, s1⟩
                                go_simp
                                with_reducible rfl
                              rotate_left
                              · simp only [Act.put, List.setIfInBounds_toArray, List.set_cons_zero, List.set_cons_succ, i64_w, i32_w]
                                rfl
                              refine take_ (i := 7) (N := some 91) (v := ?_) (a' := ?_) #[true, true, true, true, true, true, true, true, false, false] rfl rfl (take_ofW HT_.out HW_.out (by kernel_rfl)) (fun _ _ _ h => h) (Or.inl ⟨by rfl, ?_⟩) hHeld ?_ ?_
                              rotate_left
                              · rintro w' ⟨s0, s1⟩
                                go_simp
                                with_reducible rfl
                              rotate_left
                              · simp only [Act.put, List.setIfInBounds_toArray, List.set_cons_zero, List.set_cons_succ, i64_w, i32_w]
                                rfl
                              refine one_ (i := 8) (N := some 92) #[true, true, true, true, true, true, true, true, true, false] rfl rfl (one_of HT_.out (by kernel_rfl)) (by decide) (fun K hK => ?_)
                              refine goes_ Try.func10 (by kernel_rfl) rfl #[.int .i32 (rd t363 x9_3)] (by rfl) rfl rfl (by (try simp only [List.map_toArray, List.map_cons, List.map_nil]); first | done | rfl | (simp only [List.length_drop, List.length_take]; rfl)) ?_
                              with_reducible refine (fold_Least.calls k3 (rd t363 x9_3) t371 _ A63.out).mono ?_
                              rintro e w66 ⟨rfl, hb⟩
                              have HS0_ := (hb.cell (World.block_lt_of_cell? _ _ (hHeld.1))).trans (hHeld.1)
                              have HS1_ := (hb.cell (World.block_lt_of_cell? _ _ (hHeld.2))).trans (hHeld.2)
                              refine ⟨_, rfl, ?_⟩
                              have n0_ := Aside0.mk (Kd.R_below (by (with_reducible repeat (first | apply Kd.R_alloc | apply Kd.R_drewN | apply Kd.R_drew)); exact HO_7.out) hb)
                              have n1_ := Aside0.mk (Kd.R_below (by (with_reducible repeat (first | apply Kd.R_alloc | apply Kd.R_drewN | apply Kd.R_drew)); exact HO_8.out) hb)
                              have n2_ := Aside0.mk (below_step (by repeat (first | (with_reducible first | exact HB.out | apply below_alloc | apply pw_below_drewN | apply below_drew1) | exact HB.out)) hb)
                              clear HO_7
                              clear HO_8
                              clear HB
                              have HO_7 := n0_
                              have HO_8 := n1_
                              have HB := n2_
                              clear n0_ n1_ n2_
                              (try clear hb)
                              (try clear hb2)
                              (try clear hk)
                              (try clear hi)
                              refine hK.out _ _ ⟨HS0_, HS1_⟩ (fun hHeld => ?_)
                              clear hK K
                              refine norm_ (a' := ?_) ?_ ?_
                              rotate_left
                              · show Act.put _ (some 92) _ = _
                                simp only [Act.put, List.setIfInBounds_toArray, List.set_cons_zero, List.set_cons_succ, i64_w, i32_w]
                                rfl
                              refine pure_ (i := 9) (N := some 93) (v := ?_) (a' := ?_) #[true, true, true, true, true, true, true, true, true, true] rfl rfl (any_of HT_.out (by kernel_rfl)) (fun _ _ _ h => h) (Or.inl ⟨by rfl, ?_⟩) ?_ ?_
                              rotate_left
                              · intro w'
                                go_simp
                                with_reducible rfl
                              rotate_left
                              · simp only [Act.put, List.setIfInBounds_toArray, List.set_cons_zero, List.set_cons_succ, i64_w, i32_w]
                                rfl
                              refine done_ (done_of HT_.out (by kernel_rfl)) ?_
                              try go_wp2
                              go_roundg k3
                              case measure => have := HJ6.out; have := HJ24.out; have := HK3.out; omega
                              case rel => exact ⟨(wrap64 (x9_3 + 1)), (by first | rfl | (simp; done) | (simp [*]; done)), H', ⟨by have := HJ6.out; have := HJ24.out; have := HK3.out; omega⟩, ⟨by (with_reducible repeat (first | apply Kd.R_alloc | apply Kd.R_drewN | apply Kd.R_drew)); exact HO_7.out⟩, ⟨by (with_reducible repeat (first | apply Kd.R_alloc | apply Kd.R_drewN | apply Kd.R_drew)); exact HO_8.out⟩, ⟨by repeat (first | (with_reducible first | exact HB.out | apply below_alloc | apply pw_below_drewN | apply below_drew1) | exact HB.out)⟩⟩
                            · rw [if_neg c64] at H
                              have c64b0 : ((rd t366 x9_3) == t371) = false := beq_eq_false_iff_ne.mpr c64
                              have c64b1 : ((rd t366 x9_3) != t371) = true := bne_iff_ne.mpr c64
                              obtain rfl := Option.some.inj H
                              try go_wp2
                              have n0_ := Aside0.mk (Kd.R_drew HO_7.out)
                              have n1_ := Aside0.mk (Kd.R_drew HO_8.out)
                              have n2_ := Aside0.mk (below_drew1 HB.out)
                              clear HO_7
                              clear HO_8
                              clear HB
                              have HO_7 := n0_
                              have HO_8 := n1_
                              have HB := n2_
                              clear n0_ n1_ n2_
                              have p369 : 0 ≤ (x9_3 : Int) := of_decide_eq_true (by first | (with_reducible assumption) | assumption)
                              have q369 : x9_3 < (t366.length : Int) := of_decide_eq_true (by first | (with_reducible assumption) | assumption)
                              obtain ⟨ad369, e369, hx369_0⟩ := Kd.at_int (Kd.R_reads' HO_8.out).2.2 x9_3 p369 q369
                              cases e369
                              replace p369 := eq_true p369
                              replace q369 := eq_true q369
                              have p370 : 0 ≤ (x9_3 : Int) := of_decide_eq_true (by first | (with_reducible assumption) | assumption)
                              have q370 : x9_3 < (t363.length : Int) := of_decide_eq_true (by first | (with_reducible assumption) | assumption)
                              obtain ⟨ad370, e370, hx370_0⟩ := Kd.at_int (Kd.R_reads' HO_7.out).2.2 x9_3 p370 q370
                              cases e370
                              replace p370 := eq_true p370
                              replace q370 := eq_true q370
                              refine start_ (n := 10) (S := fun w' => w'.cell? (ad369.add (x9_3).toNat) = some (.int .i32 (rd t366 x9_3)) ∧ w'.cell? (ad370.add (x9_3).toNat) = some (.int .i32 (rd t363 x9_3))) (ds := []) #[false, false, false, false, false, false, false, false, false, false] (by kernel_rfl) rfl rfl ⟨hx369_0, hx370_0⟩ (fun hHeld => ?_); refine with_tabW thistlelaw03_FoldTexts.tab16 thistlelaw03_FoldTexts.bits16 (fun HT_ HW_ => ?_)
                              generalize wr.drew = w67 at HO_7 HO_8 HB hx369_0 hx370_0 hHeld ⊢
                              refine pure_ (i := 0) (N := some 84) (v := ?_) (a' := ?_) #[true, false, false, false, false, false, false, false, false, false] rfl rfl (any_of HT_.out (by kernel_rfl)) (fun _ _ _ h => h) (Or.inl ⟨by rfl, ?_⟩) ?_ ?_
                              rotate_left
                              · intro w'
                                go_simp
                                with_reducible rfl
                              rotate_left
                              · simp only [Act.put, List.setIfInBounds_toArray, List.set_cons_zero, List.set_cons_succ, i64_w, i32_w]
                                rfl
                              refine pure_ (i := 1) (N := some 85) (v := ?_) (a' := ?_) #[true, true, false, false, false, false, false, false, false, false] rfl rfl (any_of HT_.out (by kernel_rfl)) (fun _ _ _ h => h) (Or.inl ⟨by rfl, ?_⟩) ?_ ?_
                              rotate_left
                              · intro w'
                                go_simp
                                with_reducible rfl
                              rotate_left
                              · simp only [Act.put, List.setIfInBounds_toArray, List.set_cons_zero, List.set_cons_succ, i64_w, i32_w]
                                rfl
                              refine pure_ (i := 2) (N := some 86) (v := ?_) (a' := ?_) #[true, true, true, false, false, false, false, false, false, false] rfl rfl (any_of HT_.out (by kernel_rfl)) (fun _ _ _ h => h) (Or.inl ⟨by rfl, ?_⟩) ?_ ?_
                              rotate_left
                              · intro w'
                                go_simp
                                with_reducible rfl
                              rotate_left
                              · simp only [Act.put, List.setIfInBounds_toArray, List.set_cons_zero, List.set_cons_succ, i64_w, i32_w]
                                rfl
                              refine pure_ (i := 4) (N := some 88) (v := ?_) (a' := ?_) #[true, true, true, false, true, false, false, false, false, false] rfl rfl (any_of HT_.out (by kernel_rfl)) (fun _ _ _ h => h) (Or.inl ⟨by rfl, ?_⟩) ?_ ?_
                              rotate_left
                              · intro w'
                                go_simp
                                with_reducible rfl
                              rotate_left
                              · simp only [Act.put, List.setIfInBounds_toArray, List.set_cons_zero, List.set_cons_succ, i64_w, i32_w]
                                rfl
                              refine pure_ (i := 5) (N := some 89) (v := ?_) (a' := ?_) #[true, true, true, false, true, true, false, false, false, false] rfl rfl (any_of HT_.out (by kernel_rfl)) (fun _ _ _ h => h) (Or.inl ⟨by rfl, ?_⟩) ?_ ?_
                              rotate_left
                              · intro w'
                                go_simp
                                with_reducible rfl
                              rotate_left
                              · simp only [Act.put, List.setIfInBounds_toArray, List.set_cons_zero, List.set_cons_succ, i64_w, i32_w]
                                rfl
                              refine pure_ (i := 6) (N := some 90) (v := ?_) (a' := ?_) #[true, true, true, false, true, true, true, false, false, false] rfl rfl (any_of HT_.out (by kernel_rfl)) (fun _ _ _ h => h) (Or.inl ⟨by rfl, ?_⟩) ?_ ?_
                              rotate_left
                              · intro w'
                                go_simp
                                with_reducible rfl
                              rotate_left
                              · simp only [Act.put, List.setIfInBounds_toArray, List.set_cons_zero, List.set_cons_succ, i64_w, i32_w]
                                rfl
                              refine take_ (i := 3) (N := some 87) (v := ?_) (a' := ?_) #[true, true, true, true, true, true, true, false, false, false] rfl rfl (take_ofW HT_.out HW_.out (by kernel_rfl)) (fun _ _ _ h => h) (Or.inl ⟨by rfl, ?_⟩) hHeld ?_ ?_
                              rotate_left
                              · rintro w' ⟨s0, s1⟩
                                go_simp
                                with_reducible rfl
                              rotate_left
                              · simp only [Act.put, List.setIfInBounds_toArray, List.set_cons_zero, List.set_cons_succ, i64_w, i32_w]
                                rfl
                              refine take_ (i := 7) (N := some 91) (v := ?_) (a' := ?_) #[true, true, true, true, true, true, true, true, false, false] rfl rfl (take_ofW HT_.out HW_.out (by kernel_rfl)) (fun _ _ _ h => h) (Or.inl ⟨by rfl, ?_⟩) hHeld ?_ ?_
                              rotate_left
                              · rintro w' ⟨s0, s1⟩
                                go_simp
                                with_reducible rfl
                              rotate_left
                              · simp only [Act.put, List.setIfInBounds_toArray, List.set_cons_zero, List.set_cons_succ, i64_w, i32_w]
                                rfl
                              refine one_ (i := 8) (N := some 92) #[true, true, true, true, true, true, true, true, true, false] rfl rfl (one_of HT_.out (by kernel_rfl)) (by decide) (fun K hK => ?_)
                              refine goes_ Try.func10 (by kernel_rfl) rfl #[.int .i32 (rd t363 x9_3)] (by rfl) rfl rfl (by (try simp only [List.map_toArray, List.map_cons, List.map_nil]); first | done | rfl | (simp only [List.length_drop, List.length_take]; rfl)) ?_
                              with_reducible refine (fold_Least.calls k3 (rd t363 x9_3) t371 _ A63.out).mono ?_
                              rintro e w68 ⟨rfl, hb⟩
                              have HS0_ := (hb.cell (World.block_lt_of_cell? _ _ (hHeld.1))).trans (hHeld.1)
                              have HS1_ := (hb.cell (World.block_lt_of_cell? _ _ (hHeld.2))).trans (hHeld.2)
                              refine ⟨_, rfl, ?_⟩
                              have n0_ := Aside0.mk (Kd.R_below (by (with_reducible repeat (first | apply Kd.R_alloc | apply Kd.R_drewN | apply Kd.R_drew)); exact HO_7.out) hb)
                              have n1_ := Aside0.mk (Kd.R_below (by (with_reducible repeat (first | apply Kd.R_alloc | apply Kd.R_drewN | apply Kd.R_drew)); exact HO_8.out) hb)
                              have n2_ := Aside0.mk (below_step (by repeat (first | (with_reducible first | exact HB.out | apply below_alloc | apply pw_below_drewN | apply below_drew1) | exact HB.out)) hb)
                              clear HO_7
                              clear HO_8
                              clear HB
                              have HO_7 := n0_
                              have HO_8 := n1_
                              have HB := n2_
                              clear n0_ n1_ n2_
                              (try clear hb)
                              (try clear hb2)
                              (try clear hk)
                              (try clear hi)
                              refine hK.out _ _ ⟨HS0_, HS1_⟩ (fun hHeld => ?_)
                              clear hK K
                              refine norm_ (a' := ?_) ?_ ?_
                              rotate_left
                              · show Act.put _ (some 92) _ = _
                                simp only [Act.put, List.setIfInBounds_toArray, List.set_cons_zero, List.set_cons_succ, i64_w, i32_w]
                                rfl
                              refine pure_ (i := 9) (N := some 93) (v := ?_) (a' := ?_) #[true, true, true, true, true, true, true, true, true, true] rfl rfl (any_of HT_.out (by kernel_rfl)) (fun _ _ _ h => h) (Or.inl ⟨by rfl, ?_⟩) ?_ ?_
                              rotate_left
                              · intro w'
                                go_simp
                                with_reducible rfl
                              rotate_left
                              · simp only [Act.put, List.setIfInBounds_toArray, List.set_cons_zero, List.set_cons_succ, i64_w, i32_w]
                                rfl
                              refine done_ (done_of HT_.out (by kernel_rfl)) ?_
                              try go_wp2
                              go_ret
                              exact ⟨by first | rfl | (simp [errW_none, errW_some] <;> rfl) | (simp [*, errW_none, errW_some] <;> rfl), by repeat (first | (with_reducible first | exact HB.out | apply below_alloc | apply pw_below_drewN | apply below_drew1) | exact HB.out)⟩
                          · rw [if_neg c62] at H
                            exact absurd H (by simp)
                        · rw [if_neg c61] at H
                          exact absurd H (by simp)
                      · rw [if_neg c60] at H
                        have c60b0 : decide (x9_3 < (t363.length : Int)) = false := decide_eq_false c60
                        clear c60
                        obtain rfl := Option.some.inj H
                        go_wp2
                        go_ret
                        exact ⟨by first | rfl | (simp [errW_none, errW_some] <;> rfl) | (simp [*, errW_none, errW_some] <;> rfl), by repeat (first | (with_reducible first | exact HB.out | apply below_alloc | apply pw_below_drewN | apply below_drew1) | exact HB.out)⟩
                · rw [if_neg c55] at H
                  have c55b0 : ((t363.length : Int) == (t366.length : Int)) = false := beq_eq_false_iff_ne.mpr c55
                  have c55b1 : ((t363.length : Int) != (t366.length : Int)) = true := bne_iff_ne.mpr c55
                  have c55b2 : (t363.length == t366.length) = false := by first | simpa using c55 | (simp at c55 ⊢; omega)
                  obtain rfl := Option.some.inj H
                  go_wp2_with (first | ((with_reducible refine gate_callee (f := 21) rfl ?_); refine goesL_ (some 70) rfl rfl Try.func21 (by kernel_rfl) rfl #[.string a0] rfl (by (try simp only [List.map_toArray, List.map_cons, List.map_nil]); first | done | rfl | (simp only [List.length_drop, List.length_take]; rfl)) ?_; (with_reducible refine (utf_Units.calls kj24 a0 t363 _ A53.out).mono ?_); rintro e w69 ⟨v364, rfl, ho0, hb⟩; refine ⟨_, rfl, ?_⟩; have n0_ := Aside0.mk (Kd.R_lower ho0 (below_size (by repeat (first | (with_reducible first | exact HB.out | apply below_alloc | apply pw_below_drewN | apply below_drew1) | exact HB.out)))); have n1_ := Aside0.mk (below_step (by repeat (first | (with_reducible first | exact HB.out | apply below_alloc | apply pw_below_drewN | apply below_drew1) | exact HB.out)) hb); clear HB; have HO365 := n0_; have HB := n1_; clear n0_ n1_; (try clear hb); (try clear hb2); (try clear hk); (try clear hi); (try clear ho0)) | ((with_reducible refine gate_callee (f := 21) rfl ?_); refine goesL_ (some 72) rfl rfl Try.func21 (by kernel_rfl) rfl #[.string t351] rfl (by (try simp only [List.map_toArray, List.map_cons, List.map_nil]); first | done | rfl | (simp only [List.length_drop, List.length_take]; rfl)) ?_; (with_reducible refine (utf_Units.calls kj24 t351 t366 _ A54.out).mono ?_); rintro e w70 ⟨v367, rfl, ho0, hb⟩; refine ⟨_, rfl, ?_⟩; have n0_ := Aside0.mk (Kd.R_elder' (by (with_reducible repeat (first | apply Kd.R_alloc | apply Kd.R_drewN | apply Kd.R_drew)); exact HO365.out) (Kd.R_base ho0) hb); have n1_ := Aside0.mk (Kd.R_lower (Kd.R_new' ho0 (Kd.R_lt (by (with_reducible repeat (first | apply Kd.R_alloc | apply Kd.R_drewN | apply Kd.R_drew)); exact HO365.out))) (below_size (by repeat (first | (with_reducible first | exact HB.out | apply below_alloc | apply pw_below_drewN | apply below_drew1) | exact HB.out)))); have n2_ := Aside0.mk (below_step (by repeat (first | (with_reducible first | exact HB.out | apply below_alloc | apply pw_below_drewN | apply below_drew1) | exact HB.out)) hb); clear HO365; clear HB; have HO365 := n0_; have HO368 := n1_; have HB := n2_; clear n0_ n1_ n2_; (try clear hb); (try clear hb2); (try clear hk); (try clear hi); (try clear ho0); obtain ⟨Ao71, co71, eo71⟩ := Kd.R_slice HO365.out; subst eo71; obtain ⟨Ao72, co72, eo72⟩ := Kd.R_slice HO368.out; subst eo72))
                  go_ret
                  exact ⟨by first | rfl | (simp [errW_none, errW_some] <;> rfl) | (simp [*, errW_none, errW_some] <;> rfl), by repeat (first | (with_reducible first | exact HB.out | apply below_alloc | apply pw_below_drewN | apply below_drew1) | exact HB.out)⟩
  · replace c4 := Bool.eq_false_iff.mpr c4
    subst c4
    have H1 : (some false) = some r := by rw [if_neg (show ¬ (false = true) by decide)] at H; exact H
    clear H
    have H := H1
    clear H1
    obtain rfl := Option.some.inj H
    go_enter Try.func6, Try.ntmps6
    go_wp2_with (first | ((with_reducible refine gate_callee (f := 7) rfl ?_); refine goesL_ (some 10) rfl rfl Try.func7 (by kernel_rfl) rfl #[] rfl (by (try simp only [List.map_toArray, List.map_cons, List.map_nil]); first | done | rfl | (simp only [List.length_drop, List.length_take]; rfl)) ?_; (with_reducible refine (thistlelaw03_awake.calls k  false _ A3.out).mono ?_); rintro e w73 ⟨rfl, hb⟩; refine ⟨_, rfl, ?_⟩; have n0_ := Aside0.mk (below_step (by repeat (first | (with_reducible first | exact HB.out | apply below_alloc | apply pw_below_drewN | apply below_drew1) | exact HB.out)) hb); clear HB; have HB := n0_; clear n0_; (try clear hb); (try clear hb2); (try clear hk); (try clear hi)))
    go_ret
    exact ⟨by first | rfl | (simp [errW_none, errW_some] <;> rfl) | (simp [*, errW_none, errW_some] <;> rfl), by repeat (first | (with_reducible first | exact HB.out | apply below_alloc | apply pw_below_drewN | apply below_drew1) | exact HB.out)⟩

/-- THE ONE PURE STATEMENT of thistlelaw03_FoldTexts: yours. -/
def thistlelaw03_FoldTexts.Pure : Prop := ∀ (a0 : ByteArray) (a1 : ByteArray), a0.size ≤ 140737488351232 → a1.size ≤ 140737488351232 → ∃ k, thistlelaw03_FoldTexts.f k a0 a1 = some true
theorem thistlelaw03_FoldTexts.walk (P : thistlelaw03_FoldTexts.Pure) (a0 : ByteArray) (a1 : ByteArray) (w : World) (w0 : a0.size ≤ 140737488351232) (w1 : a1.size ≤ 140737488351232) :
    Calls Try.prog 6 #[.string a0, .string a1] w fun e w' => e = .returned (.bool true) ∧ Below w.heap.size w w' := by
  obtain ⟨k, h⟩ := P a0 a1 w0 w1
  refine (thistlelaw03_FoldTexts.calls k a0 a1 true w h).mono ?_
  rintro e w' ⟨rfl, hd⟩
  exact ⟨rfl, hd⟩

end Go.Proofs.Ytpfhppgklklhcaa.XF
