/- WRITTEN BY A PROGRAM OF THIS SESSION (wip/tools/xprint.py, over the kit's printer): contracts of the functions that the seat's laws reach. -/
import Derived.Test.YtmokclfiifmhpaaDoorXS0
import Derived.Test.YtmokclfiifmhpaaDoorXS3
import Derived.Test.YtmokclfiifmhpaaDoorXS4
import Derived.Test.YtmokclfiifmhpaaDoorXS8
import Derived.Test.YtmokclfiifmhpaaDoorXS9
namespace Go.Proofs.YtmokclfiifmhpaaDoor.XS
open Go.RowKit Go.Proofs.YtmokclfiifmhpaaDoorW.PrintWords Go.Proofs.YtmokclfiifmhpaaDoorW.PrintLast Go.Proofs.YtmokclfiifmhpaaDoorW.PrintMore
attribute [local go_sem] max2_int min2_int max_two min_two max_three min_three max_four min_four   -- for this text's walks alone
set_option linter.unusedVariables false
set_option linter.unusedSimpArgs false

/-! ### thistlelaw05_SeqsRising: function 3 -/
mutual
def thistlelaw05_SeqsRising.j0 : Nat → List (S31) → List (List (S35)) → Int → Bool → Option (Bool)
  | 0, _, _, _, _ => none
  | k + 1, x3, x5, x6, x46 => if x46 = true then (if x6 = 2 then (some ((x5.length : Int) == 0)) else (some false)) else (if x6 = 0 then (thistlelaw05_SeqsRising.j1 k x5 (((x3.length : Int) == 0) != ((x5.length : Int) == 0))) else (thistlelaw05_SeqsRising.j1 k x5 true))
def thistlelaw05_SeqsRising.j1 : Nat → List (List (S35)) → Bool → Option (Bool)
  | 0, _, _ => none
  | k + 1, x5, x64 => if x64 = true then (some false) else (thistlelaw05_SeqsRising.l0 k x5 (⟨#[]⟩ : ByteArray) 0)
def thistlelaw05_SeqsRising.l0 : Nat → List (List (S35)) → ByteArray → Int → Option (Bool)
  | 0, _, _, _ => none
  | k + 1, x5, x7, x8 => if x8 < (x5.length : Int) then (thistlelaw05_SeqsRising.l1 k x5 x7 x8 ([] : List Int) ([] : List Int) 0) else (some true)
def thistlelaw05_SeqsRising.l1 : Nat → List (List (S35)) → ByteArray → Int → List Int → List Int → Int → Option (Bool)
  | 0, _, _, _, _, _, _ => none
  | k + 1, x5, x7, x8, x9, x10, x11 => if 0 ≤ x8 then (if x8 < (x5.length : Int) then (if x11 < ((rd_L5 x5 x8).length : Int) then (if 0 ≤ x11 then (if x9.length < 140737488355328 then (if x10.length < 140737488355328 then (thistlelaw05_SeqsRising.l1 k x5 x7 x8 (x9 ++ [(rd_T35 (rd_L5 x5 x8) x11).f0]) (x10 ++ [(rd_T35 (rd_L5 x5 x8) x11).f1]) (wrap64 (x11 + 1))) else (none)) else (none)) else (none)) else ((thistleref01_Next.f k (strOfNums x9) 0).bind fun bt281 => ((thistleref01_Next.f k (strOfNums x10) 0).bind fun bt284 => (if bt281.2.2 = 0 then (if bt284.2.2 = 0 then (if bt281.2.1 = ((strOfNums x9).size : Int) then (if bt284.2.1 = ((strOfNums x10).size : Int) then ((thistleref01_IsChar.f bt281.1).bind fun t287 => (if t287 = true then ((thistleref01_IsChar.f bt284.1).bind fun t288 => (thistlelaw05_SeqsRising.j4 k x5 x7 x8 (strOfNums x9) (strOfNums x10) (!t288))) else (thistlelaw05_SeqsRising.j4 k x5 x7 x8 (strOfNums x9) (strOfNums x10) true))) else (thistlelaw05_SeqsRising.j4 k x5 x7 x8 (strOfNums x9) (strOfNums x10) true)) else (thistlelaw05_SeqsRising.j4 k x5 x7 x8 (strOfNums x9) (strOfNums x10) true)) else (thistlelaw05_SeqsRising.j4 k x5 x7 x8 (strOfNums x9) (strOfNums x10) true)) else (thistlelaw05_SeqsRising.j4 k x5 x7 x8 (strOfNums x9) (strOfNums x10) true))))) else (none)) else (none)
def thistlelaw05_SeqsRising.j4 : Nat → List (List (S35)) → ByteArray → Int → ByteArray → ByteArray → Bool → Option (Bool)
  | 0, _, _, _, _, _, _ => none
  | k + 1, x5, x7, x8, x12, x13, x145 => if x145 = true then (some false) else (if (Op.bytesLess x13.toList x12.toList) = true then (some false) else (if x8 > 0 then (if ((Op.bytesLess x7.toList x12.toList) = true) then (thistlelaw05_SeqsRising.l0 k x5 x13 (wrap64 (x8 + 1))) else (some false)) else (thistlelaw05_SeqsRising.l0 k x5 x13 (wrap64 (x8 + 1)))))
end
def thistlelaw05_SeqsRising.f (k : Nat) (l0 : List (S31)) : Option (Bool) := (thistlelaw05_wakes.f k).bind fun t260 => (if t260 = true then ((thistleref02_Make.f k l0).bind fun bt261 => (if bt261.2 = 0 then ((seqs_Split.f k bt261.1).bind fun bt265 => (if (bt261.1.length : Int) > 0 then (if 0 ≤ (wrap64 ((bt261.1.length : Int) - 1)) then (if (wrap64 ((bt261.1.length : Int) - 1)) < (bt261.1.length : Int) then (thistlelaw05_SeqsRising.j0 k bt261.1 bt265.1 bt265.2 (decide (((rd_T31 bt261.1 (wrap64 ((bt261.1.length : Int) - 1))).f1) > 1114111))) else (none)) else (none)) else (thistlelaw05_SeqsRising.j0 k bt261.1 bt265.1 bt265.2 false))) else (some true))) else (some false))
theorem thistlelaw05_SeqsRising.mono_l : ∀ k, (∀ y0 y1 y2 y3, LeO (thistlelaw05_SeqsRising.j0 k y0 y1 y2 y3) (thistlelaw05_SeqsRising.j0 (k + 1) y0 y1 y2 y3)) ∧ (∀ y0 y1, LeO (thistlelaw05_SeqsRising.j1 k y0 y1) (thistlelaw05_SeqsRising.j1 (k + 1) y0 y1)) ∧ (∀ y0 y1 y2, LeO (thistlelaw05_SeqsRising.l0 k y0 y1 y2) (thistlelaw05_SeqsRising.l0 (k + 1) y0 y1 y2)) ∧ (∀ y0 y1 y2 y3 y4 y5, LeO (thistlelaw05_SeqsRising.l1 k y0 y1 y2 y3 y4 y5) (thistlelaw05_SeqsRising.l1 (k + 1) y0 y1 y2 y3 y4 y5)) ∧ (∀ y0 y1 y2 y3 y4 y5, LeO (thistlelaw05_SeqsRising.j4 k y0 y1 y2 y3 y4 y5) (thistlelaw05_SeqsRising.j4 (k + 1) y0 y1 y2 y3 y4 y5))
  | 0 => ⟨fun _ _ _ _ r h => by simp [thistlelaw05_SeqsRising.j0] at h, fun _ _ r h => by simp [thistlelaw05_SeqsRising.j1] at h, fun _ _ _ r h => by simp [thistlelaw05_SeqsRising.l0] at h, fun _ _ _ _ _ _ r h => by simp [thistlelaw05_SeqsRising.l1] at h, fun _ _ _ _ _ _ r h => by simp [thistlelaw05_SeqsRising.j4] at h⟩
  | k + 1 => by
    obtain ⟨ih0, ih1, ih2, ih3, ih4⟩ := thistlelaw05_SeqsRising.mono_l k
    refine ⟨?_, ?_, ?_, ?_, ?_⟩
    · intro y0 y1 y2 y3
      unfold thistlelaw05_SeqsRising.j0
      repeat' first
      | (with_reducible exact ih0 _ _ _ _)
      | (with_reducible exact ih1 _ _)
      | (with_reducible exact ih2 _ _ _)
      | (with_reducible exact ih3 _ _ _ _ _ _)
      | (with_reducible exact ih4 _ _ _ _ _ _)
      | (with_reducible exact seqs_Split.mono _ _)
      | (with_reducible exact thistlelaw05_wakes.mono _)
      | (with_reducible exact thistleref01_Next.mono _ _ _)
      | (with_reducible exact thistleref02_Make.mono _ _)
      | (with_reducible exact LeO.refl _)
      | (with_reducible exact LeO.none _)
      | (with_reducible refine LeO.ite ?_ ?_)
      | (with_reducible refine LeO.bind ?_ (fun _ => ?_))
      | exact ih0 _ _ _ _
      | exact ih1 _ _
      | exact ih2 _ _ _
      | exact ih3 _ _ _ _ _ _
      | exact ih4 _ _ _ _ _ _
      | exact seqs_Split.mono _ _
      | exact thistlelaw05_wakes.mono _
      | exact thistleref01_Next.mono _ _ _
      | exact thistleref02_Make.mono _ _
      | exact LeO.none _
      | refine LeO.ite ?_ ?_
      | refine LeO.bind ?_ (fun _ => ?_)
    · intro y0 y1
      unfold thistlelaw05_SeqsRising.j1
      repeat' first
      | (with_reducible exact ih0 _ _ _ _)
      | (with_reducible exact ih1 _ _)
      | (with_reducible exact ih2 _ _ _)
      | (with_reducible exact ih3 _ _ _ _ _ _)
      | (with_reducible exact ih4 _ _ _ _ _ _)
      | (with_reducible exact seqs_Split.mono _ _)
      | (with_reducible exact thistlelaw05_wakes.mono _)
      | (with_reducible exact thistleref01_Next.mono _ _ _)
      | (with_reducible exact thistleref02_Make.mono _ _)
      | (with_reducible exact LeO.refl _)
      | (with_reducible exact LeO.none _)
      | (with_reducible refine LeO.ite ?_ ?_)
      | (with_reducible refine LeO.bind ?_ (fun _ => ?_))
      | exact ih0 _ _ _ _
      | exact ih1 _ _
      | exact ih2 _ _ _
      | exact ih3 _ _ _ _ _ _
      | exact ih4 _ _ _ _ _ _
      | exact seqs_Split.mono _ _
      | exact thistlelaw05_wakes.mono _
      | exact thistleref01_Next.mono _ _ _
      | exact thistleref02_Make.mono _ _
      | exact LeO.none _
      | refine LeO.ite ?_ ?_
      | refine LeO.bind ?_ (fun _ => ?_)
    · intro y0 y1 y2
      unfold thistlelaw05_SeqsRising.l0
      repeat' first
      | (with_reducible exact ih0 _ _ _ _)
      | (with_reducible exact ih1 _ _)
      | (with_reducible exact ih2 _ _ _)
      | (with_reducible exact ih3 _ _ _ _ _ _)
      | (with_reducible exact ih4 _ _ _ _ _ _)
      | (with_reducible exact seqs_Split.mono _ _)
      | (with_reducible exact thistlelaw05_wakes.mono _)
      | (with_reducible exact thistleref01_Next.mono _ _ _)
      | (with_reducible exact thistleref02_Make.mono _ _)
      | (with_reducible exact LeO.refl _)
      | (with_reducible exact LeO.none _)
      | (with_reducible refine LeO.ite ?_ ?_)
      | (with_reducible refine LeO.bind ?_ (fun _ => ?_))
      | exact ih0 _ _ _ _
      | exact ih1 _ _
      | exact ih2 _ _ _
      | exact ih3 _ _ _ _ _ _
      | exact ih4 _ _ _ _ _ _
      | exact seqs_Split.mono _ _
      | exact thistlelaw05_wakes.mono _
      | exact thistleref01_Next.mono _ _ _
      | exact thistleref02_Make.mono _ _
      | exact LeO.none _
      | refine LeO.ite ?_ ?_
      | refine LeO.bind ?_ (fun _ => ?_)
    · intro y0 y1 y2 y3 y4 y5
      unfold thistlelaw05_SeqsRising.l1
      repeat' first
      | (with_reducible exact ih0 _ _ _ _)
      | (with_reducible exact ih1 _ _)
      | (with_reducible exact ih2 _ _ _)
      | (with_reducible exact ih3 _ _ _ _ _ _)
      | (with_reducible exact ih4 _ _ _ _ _ _)
      | (with_reducible exact seqs_Split.mono _ _)
      | (with_reducible exact thistlelaw05_wakes.mono _)
      | (with_reducible exact thistleref01_Next.mono _ _ _)
      | (with_reducible exact thistleref02_Make.mono _ _)
      | (with_reducible exact LeO.refl _)
      | (with_reducible exact LeO.none _)
      | (with_reducible refine LeO.ite ?_ ?_)
      | (with_reducible refine LeO.bind ?_ (fun _ => ?_))
      | exact ih0 _ _ _ _
      | exact ih1 _ _
      | exact ih2 _ _ _
      | exact ih3 _ _ _ _ _ _
      | exact ih4 _ _ _ _ _ _
      | exact seqs_Split.mono _ _
      | exact thistlelaw05_wakes.mono _
      | exact thistleref01_Next.mono _ _ _
      | exact thistleref02_Make.mono _ _
      | exact LeO.none _
      | refine LeO.ite ?_ ?_
      | refine LeO.bind ?_ (fun _ => ?_)
    · intro y0 y1 y2 y3 y4 y5
      unfold thistlelaw05_SeqsRising.j4
      repeat' first
      | (with_reducible exact ih0 _ _ _ _)
      | (with_reducible exact ih1 _ _)
      | (with_reducible exact ih2 _ _ _)
      | (with_reducible exact ih3 _ _ _ _ _ _)
      | (with_reducible exact ih4 _ _ _ _ _ _)
      | (with_reducible exact seqs_Split.mono _ _)
      | (with_reducible exact thistlelaw05_wakes.mono _)
      | (with_reducible exact thistleref01_Next.mono _ _ _)
      | (with_reducible exact thistleref02_Make.mono _ _)
      | (with_reducible exact LeO.refl _)
      | (with_reducible exact LeO.none _)
      | (with_reducible refine LeO.ite ?_ ?_)
      | (with_reducible refine LeO.bind ?_ (fun _ => ?_))
      | exact ih0 _ _ _ _
      | exact ih1 _ _
      | exact ih2 _ _ _
      | exact ih3 _ _ _ _ _ _
      | exact ih4 _ _ _ _ _ _
      | exact seqs_Split.mono _ _
      | exact thistlelaw05_wakes.mono _
      | exact thistleref01_Next.mono _ _ _
      | exact thistleref02_Make.mono _ _
      | exact LeO.none _
      | refine LeO.ite ?_ ?_
      | refine LeO.bind ?_ (fun _ => ?_)
theorem thistlelaw05_SeqsRising.mono : ∀ a0 k, LeO (thistlelaw05_SeqsRising.f k a0) (thistlelaw05_SeqsRising.f (k + 1) a0) := by
  intro a0 k
  obtain ⟨ih0, ih1, ih2, ih3, ih4⟩ := thistlelaw05_SeqsRising.mono_l k
  unfold thistlelaw05_SeqsRising.f
  repeat' first
      | (with_reducible exact ih0 _ _ _ _)
      | (with_reducible exact ih1 _ _)
      | (with_reducible exact ih2 _ _ _)
      | (with_reducible exact ih3 _ _ _ _ _ _)
      | (with_reducible exact ih4 _ _ _ _ _ _)
      | (with_reducible exact seqs_Split.mono _ _)
      | (with_reducible exact thistlelaw05_wakes.mono _)
      | (with_reducible exact thistleref01_Next.mono _ _ _)
      | (with_reducible exact thistleref02_Make.mono _ _)
      | (with_reducible exact LeO.refl _)
      | (with_reducible exact LeO.none _)
      | (with_reducible refine LeO.ite ?_ ?_)
      | (with_reducible refine LeO.bind ?_ (fun _ => ?_))
      | exact ih0 _ _ _ _
      | exact ih1 _ _
      | exact ih2 _ _ _
      | exact ih3 _ _ _ _ _ _
      | exact ih4 _ _ _ _ _ _
      | exact seqs_Split.mono _ _
      | exact thistlelaw05_wakes.mono _
      | exact thistleref01_Next.mono _ _ _
      | exact thistleref02_Make.mono _ _
      | exact LeO.none _
      | refine LeO.ite ?_ ?_
      | refine LeO.bind ?_ (fun _ => ?_)
set_option maxHeartbeats 8000000 in
set_option maxRecDepth 100000 in
theorem thistlelaw05_SeqsRising.calls (k : Nat) (A0 : Option Addr) (c0 : Nat) (l0 : List (S31)) (r : Bool) (w : World) (hr0 : Kd.C k31 w A0 l0.length l0) (hc0 : l0.length ≤ c0) (h : thistlelaw05_SeqsRising.f k l0 = some r) (hG : GOK w := by first | (with_reducible exact HG_.out) | exact GOK.below HG_.out (by repeat (first | (with_reducible exact Below.refl _ _) | (with_reducible first | exact HB.out | apply below_alloc | apply pw_below_drewN | apply below_drew1 | refine below_set ?_ (Aside0.out (by assumption))) | exact HB.out)) | exact GOK.drewN HG_.out _ | exact GOK.drewN (GOK.drewN HG_.out _) _ | exact GOK.drew HG_.out) :
    Calls Tryd.prog 3 #[.slice A0 l0.length c0] w fun e w' => e = .returned (.bool r) ∧ Below w.heap.size w w' := by
  have HG_ := Aside0.mk hG
  clear hG
  have HR0 := Aside0.mk hr0
  have HC0 := Aside0.mk hc0
  clear hr0 hc0
  have HB := Aside0.mk (Below.refl w.heap.size w)
  have H : ((thistlelaw05_wakes.f k).bind fun t260 => (if t260 = true then ((thistleref02_Make.f k l0).bind fun bt261 => (if bt261.2 = 0 then ((seqs_Split.f k bt261.1).bind fun bt265 => (if (bt261.1.length : Int) > 0 then (if 0 ≤ (wrap64 ((bt261.1.length : Int) - 1)) then (if (wrap64 ((bt261.1.length : Int) - 1)) < (bt261.1.length : Int) then (thistlelaw05_SeqsRising.j0 k bt261.1 bt265.1 bt265.2 (decide (((rd_T31 bt261.1 (wrap64 ((bt261.1.length : Int) - 1))).f1) > 1114111))) else (none)) else (none)) else (thistlelaw05_SeqsRising.j0 k bt261.1 bt265.1 bt265.2 false))) else (some true))) else (some false))) = some r := h
  clear h
  replace H := Option.bind_eq_some_iff.mp H
  obtain ⟨t260, A20, H⟩ := H
  replace H : (if t260 = true then ((thistleref02_Make.f k l0).bind fun bt261 => (if bt261.2 = 0 then ((seqs_Split.f k bt261.1).bind fun bt265 => (if (bt261.1.length : Int) > 0 then (if 0 ≤ (wrap64 ((bt261.1.length : Int) - 1)) then (if (wrap64 ((bt261.1.length : Int) - 1)) < (bt261.1.length : Int) then (thistlelaw05_SeqsRising.j0 k bt261.1 bt265.1 bt265.2 (decide (((rd_T31 bt261.1 (wrap64 ((bt261.1.length : Int) - 1))).f1) > 1114111))) else (none)) else (none)) else (thistlelaw05_SeqsRising.j0 k bt261.1 bt265.1 bt265.2 false))) else (some true))) else (some false)) = some r := H
  have A2 := Aside0.mk A20
  clear A20
  by_cases c3 : t260 = true
  · subst c3
    have H1 : ((thistleref02_Make.f k l0).bind fun bt261 => (if bt261.2 = 0 then ((seqs_Split.f k bt261.1).bind fun bt265 => (if (bt261.1.length : Int) > 0 then (if 0 ≤ (wrap64 ((bt261.1.length : Int) - 1)) then (if (wrap64 ((bt261.1.length : Int) - 1)) < (bt261.1.length : Int) then (thistlelaw05_SeqsRising.j0 k bt261.1 bt265.1 bt265.2 (decide (((rd_T31 bt261.1 (wrap64 ((bt261.1.length : Int) - 1))).f1) > 1114111))) else (none)) else (none)) else (thistlelaw05_SeqsRising.j0 k bt261.1 bt265.1 bt265.2 false))) else (some true))) = some r := by rw [if_pos rfl] at H; exact H
    clear H
    have H := H1
    clear H1
    replace H := Option.bind_eq_some_iff.mp H
    obtain ⟨⟨t261, t264⟩, A40, H⟩ := H
    replace H : (if t264 = 0 then ((seqs_Split.f k t261).bind fun bt265 => (if (t261.length : Int) > 0 then (if 0 ≤ (wrap64 ((t261.length : Int) - 1)) then (if (wrap64 ((t261.length : Int) - 1)) < (t261.length : Int) then (thistlelaw05_SeqsRising.j0 k t261 bt265.1 bt265.2 (decide (((rd_T31 t261 (wrap64 ((t261.length : Int) - 1))).f1) > 1114111))) else (none)) else (none)) else (thistlelaw05_SeqsRising.j0 k t261 bt265.1 bt265.2 false))) else (some true)) = some r := H
    have A4 := Aside0.mk A40
    clear A40
    by_cases c5 : t264 = 0
    · rw [if_pos c5] at H
      have c5b0 : (t264 == 0) = true := beq_iff_eq.mpr c5
      have c5b1 : (t264 != 0) = false := bne_eq_false_iff_eq.mpr c5
      clear c5
      replace H := Option.bind_eq_some_iff.mp H
      obtain ⟨⟨t265, t266⟩, A60, H⟩ := H
      replace H : (if (t261.length : Int) > 0 then (if 0 ≤ (wrap64 ((t261.length : Int) - 1)) then (if (wrap64 ((t261.length : Int) - 1)) < (t261.length : Int) then (thistlelaw05_SeqsRising.j0 k t261 t265 t266 (decide (((rd_T31 t261 (wrap64 ((t261.length : Int) - 1))).f1) > 1114111))) else (none)) else (none)) else (thistlelaw05_SeqsRising.j0 k t261 t265 t266 false)) = some r := H
      have A6 := Aside0.mk A60
      clear A60
      have HC7 := Aside0.mk H
      clear H
      go_enter Tryd.func3, Tryd.ntmps3
      go_upto_region 7 with (first | ((with_reducible refine gate_callee (f := 4) rfl ?_); refine goesL_ (some 20) rfl rfl Tryd.func4 (by kernel_rfl) rfl #[] rfl (by (try simp only [List.map_toArray, List.map_cons, List.map_nil]); first | done | rfl | (simp only [List.length_drop, List.length_take]; rfl)) ?_; (with_reducible refine (thistlelaw05_wakes.calls k  true _ A2.out).mono ?_); rintro e w8 ⟨rfl, hb⟩; refine ⟨_, rfl, ?_⟩; have n0_ := Aside0.mk (below_step (by repeat (first | (with_reducible first | exact HB.out | apply below_alloc | apply pw_below_drewN | apply below_drew1) | exact HB.out)) hb); clear HB; have HB := n0_; clear n0_; (try clear hb); (try clear hb2); (try clear hk); (try clear hi)) | ((with_reducible refine gate_callee (f := 5) rfl ?_); refine goesL_ (some 24) rfl rfl Tryd.func5 (by kernel_rfl) rfl #[.slice A0 l0.length c0] rfl (by (try simp only [List.map_toArray, List.map_cons, List.map_nil]); first | done | rfl | (simp only [List.length_drop, List.length_take]; rfl)) ?_; (with_reducible refine (thistleref02_Make.calls k (fun k_ => k_ < w.heap.size) _ _ l0 t261 t264 _ ?side1 A4.out).mono ?_); (case side1 => exact Kd.V_mk HC0.out (Kd.F_below (Kd.C_F k31_heap HR0.out) (by repeat (first | (with_reducible first | exact HB.out | apply below_alloc | apply pw_below_drewN | apply below_drew1) | exact HB.out)))); rintro e w9 ⟨v262, rfl, ho0, hb⟩; refine ⟨_, rfl, ?_⟩; have n0_ := Aside0.mk (Kd.R_lower (Kd.R_mono (ok' := fun k_ => True) ho0 (fun _ hk_ => trivial)) (below_size (by repeat (first | (with_reducible first | exact HB.out | apply below_alloc | apply pw_below_drewN | apply below_drew1) | exact HB.out)))); have n1_ := Aside0.mk (below_step (by repeat (first | (with_reducible first | exact HB.out | apply below_alloc | apply pw_below_drewN | apply below_drew1) | exact HB.out)) hb); clear HB; have HO263 := n0_; have HB := n1_; clear n0_ n1_; (try clear hb); (try clear hb2); (try clear hk); (try clear hi); (try clear ho0); obtain ⟨Ao10, co10, eo10⟩ := Kd.R_slice HO263.out; subst eo10) | ((with_reducible refine gate_callee (f := 6) rfl ?_); refine goesL_ (some 31) rfl rfl Tryd.func6 (by kernel_rfl) rfl #[.slice Ao10 t261.length co10] rfl (by (try simp only [List.map_toArray, List.map_cons, List.map_nil]); first | done | rfl | (simp only [List.length_drop, List.length_take]; rfl)) ?_; (with_reducible refine (seqs_Split.calls k _ _ t261 t265 t266 _ ?side1 ?side2 A6.out).mono ?_); (case side1 => repeat (first | exact (Kd.R_reads' HO263.out).2.2 | (with_reducible refine Kd.C_alloc ?_ _) | (with_reducible refine Kd.C_drewN ?_ _) | (with_reducible refine Kd.C_drew ?_))); (case side2 => exact (Kd.R_reads' HO263.out).2.1); rintro e w11 ⟨v267, rfl, ho0, hb⟩; refine ⟨_, rfl, ?_⟩; have n0_ := Aside0.mk (Kd.R_below (by (with_reducible repeat (first | apply Kd.R_alloc | apply Kd.R_drewN | apply Kd.R_drew)); exact HO263.out) hb); have n1_ := Aside0.mk (Kd.S_lower ho0 (below_size (by repeat (first | (with_reducible first | exact HB.out | apply below_alloc | apply pw_below_drewN | apply below_drew1) | exact HB.out)))); have n2_ := Aside0.mk (below_step (by repeat (first | (with_reducible first | exact HB.out | apply below_alloc | apply pw_below_drewN | apply below_drew1) | exact HB.out)) hb); clear HO263; clear HB; have HO263 := n0_; have HO268 := n1_; have HB := n2_; clear n0_ n1_ n2_; (try clear hb); (try clear hb2); (try clear hk); (try clear hi); (try clear ho0)))
      (try simp only [Act.put, List.setIfInBounds_toArray, List.set_cons_zero, List.set_cons_succ])
      go_cut [46] (fun v46 wc => ∃ (kq : Nat) (x46_6 : Bool), v46 = .bool x46_6 ∧ Aside0 (thistlelaw05_SeqsRising.j0 kq t261 t265 t266 x46_6 = some r) ∧ Aside0 (kq ≤ k) ∧ Aside0 (Kd.R k31 31 wc w.heap.size (fun _ => True) (.slice Ao10 t261.length co10) t261) ∧ Aside0 (Kd.S (Kd.slice 35 k35) 33 wc w.heap.size (fun _ => True) v267 t265) ∧ Aside0 (Below w.heap.size w wc))
      case first =>
        have H := HC7.out
        clear HC7
        by_cases c12 : (t261.length : Int) > 0
        · rw [if_pos c12] at H
          have c12b0 : decide (0 < (t261.length : Int)) = true := decide_eq_true c12
          have c12b1 : decide (0 < t261.length) = true := decide_eq_true (by omega)
          clear c12
          (first | rw [c12b0] | (simp only [i64_w, i32_w]; rw [c12b0]) | skip)
          obtain ⟨ji13, hji13⟩ : ∃ j_ : Int, (wrap64 ((t261.length : Int) - 1)) = j_ := ⟨_, rfl⟩
          replace H : (if 0 ≤ (ji13) then (if (ji13) < (t261.length : Int) then (thistlelaw05_SeqsRising.j0 k t261 t265 t266 (decide (((rd_T31 t261 (ji13)).f1) > 1114111))) else (none)) else (none)) = some r := by first | (rw [hji13] at H; exact H) | (simp only [hji13] at H ⊢; exact H)
          have hji13w : (IntKind.i64.wrap ((t261.length : Int) - 1)) = ji13 := (i64_w _).trans hji13
          by_cases c14 : 0 ≤ (ji13)
          · rw [if_pos c14] at H
            have c14b0 : decide (0 ≤ (ji13)) = true := decide_eq_true c14
            clear c14
            by_cases c15 : (ji13) < (t261.length : Int)
            · rw [if_pos c15] at H
              have c15b0 : decide ((ji13) < (t261.length : Int)) = true := decide_eq_true c15
              clear c15
              have H' := Aside0.mk H
              clear H
              have p269 : 0 ≤ ((ji13) : Int) := of_decide_eq_true (by first | (with_reducible assumption) | assumption)
              have q269 : (ji13) < (t261.length : Int) := of_decide_eq_true (by first | (with_reducible assumption) | assumption)
              obtain ⟨ad269, e269, hx269_0, hx269_1⟩ := at_T31 (Kd.R_reads' HO263.out).2.2 (ji13) p269 q269
              cases e269
              replace p269 := eq_true p269
              replace q269 := eq_true q269
              go_wp2
              go_meet
              case rel => exact ⟨_, (decide (((rd_T31 t261 (ji13)).f1) > 1114111)), (by first | rfl | (simp; done) | (simp only [← hji13] <;> (first | rfl | simp)) | (simp [*]; done)), H', ⟨by first | omega | exact Nat.le_refl _⟩, ⟨by (with_reducible repeat (first | apply Kd.R_alloc | apply Kd.R_drewN | apply Kd.R_drew)); exact HO263.out⟩, ⟨by (with_reducible repeat (first | apply Kd.S_alloc | apply Kd.S_drewN | apply Kd.S_drew)); exact HO268.out⟩, ⟨by repeat (first | (with_reducible first | exact HB.out | apply below_alloc | apply pw_below_drewN | apply below_drew1) | exact HB.out)⟩⟩
            · rw [if_neg c15] at H
              exact absurd H (by simp)
          · rw [if_neg c14] at H
            exact absurd H (by simp)
        · rw [if_neg c12] at H
          have c12b0 : decide (0 < (t261.length : Int)) = false := decide_eq_false c12
          have c12b1 : decide (0 < t261.length) = false := decide_eq_false (by omega)
          clear c12
          (first | rw [c12b0] | (simp only [i64_w, i32_w]; rw [c12b0]) | skip)
          have H' := Aside0.mk H
          clear H
          go_wp2
          go_meet
          case rel => exact ⟨_, (false), (by first | rfl | (simp; done) | (simp [*]; done)), H', ⟨by first | omega | exact Nat.le_refl _⟩, ⟨by (with_reducible repeat (first | apply Kd.R_alloc | apply Kd.R_drewN | apply Kd.R_drew)); exact HO263.out⟩, ⟨by (with_reducible repeat (first | apply Kd.S_alloc | apply Kd.S_drewN | apply Kd.S_drew)); exact HO268.out⟩, ⟨by repeat (first | (with_reducible first | exact HB.out | apply below_alloc | apply pw_below_drewN | apply below_drew1) | exact HB.out)⟩⟩
      case rest =>
        clear HC7
        try clear c1
        try clear p2
        try clear q2
        try clear hx2
        try clear c3
        try clear c4
        try clear c5
        try clear c5b0
        try clear c5b1
        try clear c6
        try clear p6
        try clear c12
        try clear c12b0
        try clear c12b1
        try clear c14
        try clear c14b0
        try clear c15
        try clear c15b0
        try clear hx269_0
        try clear hx269_1
        try clear p269
        try clear q269
        obtain ⟨kq, x46_6, rfl, HA, HJ6, HO_3, HO_5, HB⟩ := hcut
        cases kq with
        | zero => exact absurd HA.out (by simp [thistlelaw05_SeqsRising.j0])
        | succ kj6 =>
          have H := HA.out
          clear HA
          simp only [thistlelaw05_SeqsRising.j0] at H
          by_cases c16 : x46_6 = true
          · subst c16
            have H1 : (if t266 = 2 then (some ((t265.length : Int) == 0)) else (some false)) = some r := by rw [if_pos rfl] at H; exact H
            clear H
            have H := H1
            clear H1
            by_cases c17 : t266 = 2
            · rw [if_pos c17] at H
              have c17b0 : (t266 == 2) = true := beq_iff_eq.mpr c17
              have c17b1 : (t266 != 2) = false := bne_eq_false_iff_eq.mpr c17
              clear c17
              obtain rfl := Option.some.inj H
              obtain ⟨Ao18, co18, eo18⟩ := Kd.S_slice HO_5.out
              subst eo18
              go_wp2
              go_ret
              exact ⟨by first | rfl | (simp [errW_none, errW_some] <;> rfl) | (simp [*, errW_none, errW_some] <;> rfl), by repeat (first | (with_reducible first | exact HB.out | apply below_alloc | apply pw_below_drewN | apply below_drew1) | exact HB.out)⟩
            · rw [if_neg c17] at H
              have c17b0 : (t266 == 2) = false := beq_eq_false_iff_ne.mpr c17
              have c17b1 : (t266 != 2) = true := bne_iff_ne.mpr c17
              obtain rfl := Option.some.inj H
              go_wp2
              go_ret
              exact ⟨by first | rfl | (simp [errW_none, errW_some] <;> rfl) | (simp [*, errW_none, errW_some] <;> rfl), by repeat (first | (with_reducible first | exact HB.out | apply below_alloc | apply pw_below_drewN | apply below_drew1) | exact HB.out)⟩
          · replace c16 := Bool.eq_false_iff.mpr c16
            subst c16
            have H1 : (if t266 = 0 then (thistlelaw05_SeqsRising.j1 kj6 t265 (((t261.length : Int) == 0) != ((t265.length : Int) == 0))) else (thistlelaw05_SeqsRising.j1 kj6 t265 true)) = some r := by rw [if_neg (show ¬ (false = true) by decide)] at H; exact H
            clear H
            have H := H1
            clear H1
            have HC19 := Aside0.mk H
            clear H
            go_upto_region 9 with (fail)
            go_cut [64] (fun v64 wc => ∃ (kq : Nat) (x64_18 : Bool), v64 = .bool x64_18 ∧ Aside0 (thistlelaw05_SeqsRising.j1 kq t265 x64_18 = some r) ∧ Aside0 (kq ≤ kj6) ∧ Aside0 (Kd.S (Kd.slice 35 k35) 33 wc w.heap.size (fun _ => True) v267 t265) ∧ Aside0 (Below w.heap.size w wc))
            case first =>
              have H := HC19.out
              clear HC19
              by_cases c20 : t266 = 0
              · rw [if_pos c20] at H
                have c20b0 : (t266 == 0) = true := beq_iff_eq.mpr c20
                have c20b1 : (t266 != 0) = false := bne_eq_false_iff_eq.mpr c20
                clear c20
                (first | rw [c20b0] | (simp only [i64_w, i32_w]; rw [c20b0]) | skip)
                have H' := Aside0.mk H
                clear H
                obtain ⟨Ao21, co21, eo21⟩ := Kd.S_slice HO_5.out
                subst eo21
                go_wp2
                go_meet
                case rel => exact ⟨_, ((((t261.length : Int) == 0) != ((t265.length : Int) == 0))), (by first | rfl | (simp; done) | (simp [*]; done)), H', ⟨by have := HJ6.out; first | omega | exact Nat.le_refl _⟩, ⟨by (with_reducible repeat (first | apply Kd.S_alloc | apply Kd.S_drewN | apply Kd.S_drew)); exact HO_5.out⟩, ⟨by repeat (first | (with_reducible first | exact HB.out | apply below_alloc | apply pw_below_drewN | apply below_drew1) | exact HB.out)⟩⟩
              · rw [if_neg c20] at H
                have c20b0 : (t266 == 0) = false := beq_eq_false_iff_ne.mpr c20
                have c20b1 : (t266 != 0) = true := bne_iff_ne.mpr c20
                (first | rw [c20b0] | (simp only [i64_w, i32_w]; rw [c20b0]) | skip)
                have H' := Aside0.mk H
                clear H
                go_wp2
                go_meet
                case rel => exact ⟨_, (true), (by first | rfl | (simp; done) | (simp [*]; done)), H', ⟨by have := HJ6.out; first | omega | exact Nat.le_refl _⟩, ⟨by (with_reducible repeat (first | apply Kd.S_alloc | apply Kd.S_drewN | apply Kd.S_drew)); exact HO_5.out⟩, ⟨by repeat (first | (with_reducible first | exact HB.out | apply below_alloc | apply pw_below_drewN | apply below_drew1) | exact HB.out)⟩⟩
            case rest =>
              clear HC19
              try clear c1
              try clear c2
              try clear p2
              try clear q2
              try clear hx2
              try clear c3
              try clear c4
              try clear c5
              try clear c5b0
              try clear c5b1
              try clear c6
              try clear p6
              try clear c12
              try clear c12b0
              try clear c12b1
              try clear c14
              try clear c14b0
              try clear c15
              try clear c15b0
              try clear c16
              try clear c17
              try clear c17b0
              try clear c17b1
              try clear c20
              try clear c20b0
              try clear c20b1
              try clear hx269_0
              try clear hx269_1
              try clear p2
              try clear p269
              try clear p6
              try clear q2
              try clear q269
              obtain ⟨kq, x64_18, rfl, HA, HJ18, HO_5, HB⟩ := hcut
              cases kq with
              | zero => exact absurd HA.out (by simp [thistlelaw05_SeqsRising.j1])
              | succ kj18 =>
                have H := HA.out
                clear HA
                simp only [thistlelaw05_SeqsRising.j1] at H
                by_cases c22 : x64_18 = true
                · subst c22
                  have H1 : (some false) = some r := by rw [if_pos rfl] at H; exact H
                  clear H
                  have H := H1
                  clear H1
                  obtain rfl := Option.some.inj H
                  go_wp2
                  go_ret
                  exact ⟨by first | rfl | (simp [errW_none, errW_some] <;> rfl) | (simp [*, errW_none, errW_some] <;> rfl), by repeat (first | (with_reducible first | exact HB.out | apply below_alloc | apply pw_below_drewN | apply below_drew1) | exact HB.out)⟩
                · replace c22 := Bool.eq_false_iff.mpr c22
                  subst c22
                  have H1 : (thistlelaw05_SeqsRising.l0 kj18 t265 (⟨#[]⟩ : ByteArray) 0) = some r := by rw [if_neg (show ¬ (false = true) by decide)] at H; exact H
                  clear H
                  have H := H1
                  clear H1
                  have H' := Aside0.mk H
                  clear H
                  go_wp2
                  go_loopg [7, 8] kj18 (fun kq v7 v8 w' => ∃ (x7_3 : ByteArray) (x8_3 : Int), v7 = .string x7_3 ∧ v8 = .int .i64 x8_3 ∧ Aside0 (thistlelaw05_SeqsRising.l0 kq t265 x7_3 x8_3 = some r) ∧ Aside0 (kq ≤ kj18) ∧ Aside0 (Kd.S (Kd.slice 35 k35) 33 w' w.heap.size (fun _ => True) v267 t265) ∧ Aside0 (Below w.heap.size w w'))
                  case atStart => exact ⟨((⟨#[]⟩ : ByteArray)), (0), (by first | rfl | (simp; done) | (simp [*]; done)), (by first | rfl | (simp; done) | (simp [*]; done)), H', ⟨Nat.le_refl _⟩, ⟨by (with_reducible repeat (first | apply Kd.S_alloc | apply Kd.S_drewN | apply Kd.S_drew)); exact HO_5.out⟩, ⟨by repeat (first | (with_reducible first | exact HB.out | apply below_alloc | apply pw_below_drewN | apply below_drew1) | exact HB.out)⟩⟩
                  case round =>
                    clear H'
                    try clear c1
                    try clear c2
                    try clear p2
                    try clear q2
                    try clear hx2
                    try clear c3
                    try clear c4
                    try clear c5
                    try clear c5b0
                    try clear c5b1
                    try clear c6
                    try clear p6
                    try clear c12
                    try clear c12b0
                    try clear c12b1
                    try clear c14
                    try clear c14b0
                    try clear c15
                    try clear c15b0
                    try clear c16
                    try clear c17
                    try clear c17b0
                    try clear c17b1
                    try clear c20
                    try clear c20b0
                    try clear c20b1
                    try clear c22
                    try clear hx269_0
                    try clear hx269_1
                    try clear p2
                    try clear p269
                    try clear p6
                    try clear q2
                    try clear q269
                    obtain ⟨x7_3, x8_3, rfl, rfl, HA, HK3, HO_5, HB⟩ := hrel
                    cases gk with
                    | zero => exact absurd HA.out (by simp [thistlelaw05_SeqsRising.l0])
                    | succ k3 =>
                      have H := HA.out
                      clear HA
                      simp only [thistlelaw05_SeqsRising.l0] at H
                      by_cases c23 : x8_3 < (t265.length : Int)
                      · rw [if_pos c23] at H
                        have c23b0 : decide (x8_3 < (t265.length : Int)) = true := decide_eq_true c23
                        clear c23
                        have H' := Aside0.mk H
                        clear H
                        obtain ⟨Ao24, co24, eo24⟩ := Kd.S_slice HO_5.out
                        subst eo24
                        go_wp2
                        go_loopg [9, 10, 11] k3 (fun kq v9 v10 v11 w' => ∃ (x9_4 : List Int) (x10_4 : List Int) (x11_4 : Int), v11 = .int .i64 x11_4 ∧ Aside0 (thistlelaw05_SeqsRising.l1 kq t265 x7_3 x8_3 x9_4 x10_4 x11_4 = some r) ∧ Aside0 (kq ≤ k3) ∧ Aside0 (Kd.S (Kd.slice 35 k35) 33 w' w.heap.size (fun _ => True) (.slice Ao24 t265.length co24) t265) ∧ Aside0 (Kd.R (Kd.int .u8) 5 w' w.heap.size (fun k_ => some k_ ≠ (v10 : Value).ownBlock) v9 x9_4) ∧ Aside0 (Kd.R (Kd.int .u8) 5 w' w.heap.size (fun k_ => some k_ ≠ (v9 : Value).ownBlock) v10 x10_4) ∧ Aside0 (Below w.heap.size w w'))
                        case atStart => exact ⟨(([] : List Int)), (([] : List Int)), (0), (by first | rfl | (simp; done) | (simp [*]; done)), H', ⟨Nat.le_refl _⟩, ⟨by (with_reducible repeat (first | apply Kd.S_alloc | apply Kd.S_drewN | apply Kd.S_drew)); exact HO_5.out⟩, ⟨by first | exact Kd.R_nil _ _ _ _ _ | exact Kd.N_nil _ _ _ _ _ | exact Kd.V_nil _ _ _ _ _ | exact Kd.Q_nil _ _ _ _ _ | exact Kd.S_nil _ _ _ _ _⟩, ⟨by first | exact Kd.R_nil _ _ _ _ _ | exact Kd.N_nil _ _ _ _ _ | exact Kd.V_nil _ _ _ _ _ | exact Kd.Q_nil _ _ _ _ _ | exact Kd.S_nil _ _ _ _ _⟩, ⟨by repeat (first | (with_reducible first | exact HB.out | apply below_alloc | apply pw_below_drewN | apply below_drew1) | exact HB.out)⟩⟩
                        case round =>
                          clear H'
                          try clear c1
                          try clear c2
                          try clear p2
                          try clear q2
                          try clear hx2
                          try clear c3
                          try clear c4
                          try clear c5
                          try clear c5b0
                          try clear c5b1
                          try clear c6
                          try clear p6
                          try clear c12
                          try clear c12b0
                          try clear c12b1
                          try clear c14
                          try clear c14b0
                          try clear c15
                          try clear c15b0
                          try clear c16
                          try clear c17
                          try clear c17b0
                          try clear c17b1
                          try clear c20
                          try clear c20b0
                          try clear c20b1
                          try clear c22
                          try clear c23
                          try clear c23b0
                          try clear hx269_0
                          try clear hx269_1
                          try clear p2
                          try clear p269
                          try clear p6
                          try clear q2
                          try clear q269
                          obtain ⟨x9_4, x10_4, x11_4, rfl, HA, HK4, HO_5, HO_9, HO_10, HB⟩ := hrel
                          cases gk with
                          | zero => exact absurd HA.out (by simp [thistlelaw05_SeqsRising.l1])
                          | succ k4 =>
                            have H := HA.out
                            clear HA
                            simp only [thistlelaw05_SeqsRising.l1] at H
                            by_cases c25 : 0 ≤ x8_3
                            · rw [if_pos c25] at H
                              have c25b0 : decide (0 ≤ x8_3) = true := decide_eq_true c25
                              clear c25
                              by_cases c26 : x8_3 < (t265.length : Int)
                              · rw [if_pos c26] at H
                                have c26b0 : decide (x8_3 < (t265.length : Int)) = true := decide_eq_true c26
                                clear c26
                                by_cases c27 : x11_4 < ((rd_L5 t265 x8_3).length : Int)
                                · rw [if_pos c27] at H
                                  have c27b0 : decide (x11_4 < ((rd_L5 t265 x8_3).length : Int)) = true := decide_eq_true c27
                                  clear c27
                                  by_cases c28 : 0 ≤ x11_4
                                  · rw [if_pos c28] at H
                                    have c28b0 : decide (0 ≤ x11_4) = true := decide_eq_true c28
                                    clear c28
                                    by_cases c29 : x9_4.length < 140737488355328
                                    · rw [if_pos c29] at H
                                      have LMc29 := Aside0.mk c29
                                      clear c29
                                      obtain ⟨y273, hy273⟩ : ∃ y_ : List Int, y_ = (x9_4 ++ [(rd_T35 (rd_L5 t265 x8_3) x11_4).f0]) := ⟨_, rfl⟩
                                      replace H : (if x10_4.length < 140737488355328 then (thistlelaw05_SeqsRising.l1 k4 t265 x7_3 x8_3 y273 (x10_4 ++ [(rd_T35 (rd_L5 t265 x8_3) x11_4).f1]) (wrap64 (x11_4 + 1))) else (none)) = some r := by first | (rw [hy273]; with_reducible exact H) | (have H2_ := (Option.bind_some _ _).symm.trans H; rw [hy273]; with_reducible exact H2_) | (have H2_ := (Option.bind_some _ _).symm.trans H; with_reducible exact H2_) | with_reducible exact H | (rw [hy273]; exact H) | exact H
                                      have Ny273 := Aside0.mk hy273
                                      clear hy273
                                      by_cases c30 : x10_4.length < 140737488355328
                                      · rw [if_pos c30] at H
                                        have LMc30 := Aside0.mk c30
                                        clear c30
                                        obtain ⟨y278, hy278⟩ : ∃ y_ : List Int, y_ = (x10_4 ++ [(rd_T35 (rd_L5 t265 x8_3) x11_4).f1]) := ⟨_, rfl⟩
                                        replace H : (thistlelaw05_SeqsRising.l1 k4 t265 x7_3 x8_3 y273 y278 (wrap64 (x11_4 + 1))) = some r := by first | (rw [hy278]; with_reducible exact H) | (have H2_ := (Option.bind_some _ _).symm.trans H; rw [hy278]; with_reducible exact H2_) | (have H2_ := (Option.bind_some _ _).symm.trans H; with_reducible exact H2_) | with_reducible exact H | (rw [hy278]; exact H) | exact H
                                        have Ny278 := Aside0.mk hy278
                                        clear hy278
                                        have H' := Aside0.mk H
                                        clear H
                                        have p270 : 0 ≤ (x8_3 : Int) := of_decide_eq_true (by first | (with_reducible assumption) | assumption)
                                        have q270 : x8_3 < (t265.length : Int) := of_decide_eq_true (by first | (with_reducible assumption) | assumption)
                                        obtain ⟨ad270, A270_0, c270_0, e270, hx270_0, hl270_0, hi270_0⟩ := at_L5 (Kd.S_reads' HO_5.out).2.2 x8_3 p270 q270
                                        cases e270
                                        obtain ⟨ce270, hce270, hMe270, hcc270⟩ := Kd.S_get HO_5.out [] x8_3 p270 (by first | exact q270 | exact of_decide_eq_true (by first | (with_reducible assumption) | assumption) | (have e_ := (Kd.S_reads' HO_5.out).1; omega))
                                        obtain ⟨ve270_0, rfl, ge270_0⟩ := hMe270
                                        have hv270_0 := hcc270 0 _ rfl
                                        rw [Nat.add_zero, show ((Kd.slice 35 k35)).sz = 1 from rfl, Nat.mul_one] at hv270_0
                                        replace hv270_0 := Option.some.inj (hv270_0.symm.trans hx270_0)
                                        rw [hv270_0] at ge270_0
                                        have HL270_0 := Aside0.mk (show Kd.R k35 35 _ _ _ _ (rd_L5 t265 x8_3) from ge270_0)
                                        clear hv270_0 ge270_0
                                        clear hcc270 hce270
                                        have HR270_0 := Aside0.mk hi270_0
                                        have HC270_0 := Aside0.mk hl270_0
                                        clear hi270_0 hl270_0
                                        replace p270 := eq_true p270
                                        replace q270 := eq_true q270
                                        have p271 : 0 ≤ (x8_3 : Int) := of_decide_eq_true (by first | (with_reducible assumption) | assumption)
                                        have q271 : x8_3 < (t265.length : Int) := of_decide_eq_true (by first | (with_reducible assumption) | assumption)
                                        obtain ⟨ad271, A271_0, c271_0, e271, hx271_0, hl271_0, hi271_0⟩ := at_L5 (Kd.S_reads' HO_5.out).2.2 x8_3 p271 q271
                                        obtain rfl : ad270 = ad271 := (by injection e271)
                                        obtain ⟨ce271, hce271, hMe271, hcc271⟩ := Kd.S_get HO_5.out [] x8_3 p271 (by first | exact q271 | exact of_decide_eq_true (by first | (with_reducible assumption) | assumption) | (have e_ := (Kd.S_reads' HO_5.out).1; omega))
                                        obtain ⟨ve271_0, rfl, ge271_0⟩ := hMe271
                                        have hv271_0 := hcc271 0 _ rfl
                                        rw [Nat.add_zero, show ((Kd.slice 35 k35)).sz = 1 from rfl, Nat.mul_one] at hv271_0
                                        replace hv271_0 := Option.some.inj (hv271_0.symm.trans hx271_0)
                                        rw [hv271_0] at ge271_0
                                        have HL271_0 := Aside0.mk (show Kd.R k35 35 _ _ _ _ (rd_L5 t265 x8_3) from ge271_0)
                                        clear hv271_0 ge271_0
                                        clear hcc271 hce271
                                        have HR271_0 := Aside0.mk hi271_0
                                        have HC271_0 := Aside0.mk hl271_0
                                        clear hi271_0 hl271_0
                                        replace p271 := eq_true p271
                                        replace q271 := eq_true q271
                                        have ea_ := Option.some.inj (hx270_0.symm.trans hx271_0)
                                        injection ea_ with ea_ en_ ec_
                                        subst ea_
                                        subst ec_
                                        clear en_
                                        have p272 : 0 ≤ (x11_4 : Int) := of_decide_eq_true (by first | (with_reducible assumption) | assumption)
                                        have q272 : x11_4 < ((rd_L5 t265 x8_3).length : Int) := of_decide_eq_true (by first | (with_reducible assumption) | assumption)
                                        obtain ⟨ad272, e272, hx272_0, hx272_1⟩ := at_T35 (by repeat (first | (with_reducible exact HR271_0.out) | (with_reducible refine Kd.C_alloc ?_ _) | (with_reducible refine Kd.C_drewN ?_ _) | (with_reducible refine Kd.C_drew ?_) | exact HR271_0.out)) x11_4 p272 q272
                                        cases e272
                                        replace p272 := eq_true p272
                                        replace q272 := eq_true q272
                                        go_wp2_with (first | ((with_reducible refine gate_builtin (b := .append) (xs := #[.tmp 80, .tmp 89]) rfl ?_); (try (refine gate_guard (by rfl) ?_; dsimp only)); at_builtin; refine Kd.R_append (Kd.int .u8) (w0 := w) w.heap.size rfl (.tmp 80) (.tmp 89) 32 5 (.int .u8 0) 1 rfl Tryd.underlying32 info5 rfl (by decide) (by omega) u9 x9_4 ((rd_T35 (rd_L5 t265 x8_3) x11_4).f0) [.int .u8 ((rd_T35 (rd_L5 t265 x8_3) x11_4).f0)] (fun k_ => some k_ ≠ (u10 : Value).ownBlock) (fun _ => False) rfl rfl ?aP (fun _ hk => hk.elim) ?aF ?aO ?aB ?aS ?aL ?_; (case aP => exact rfl); (case aB => exact (by repeat (first | (with_reducible first | exact HB.out | apply below_alloc | apply pw_below_drewN | apply below_drew1) | exact HB.out))); (case aF => exact (fun k_ hk => Kd.fresh' (Kd.R_lt (by (with_reducible repeat (first | apply Kd.R_alloc | apply Kd.R_drewN | apply Kd.R_drew)); exact HO_10.out)) k_ hk)); (case aO => exact (by (with_reducible repeat (first | apply Kd.R_alloc | apply Kd.R_drewN | apply Kd.R_drew)); exact HO_9.out)); (case aS => exact (below_size (by repeat (first | (with_reducible first | exact HB.out | apply below_alloc | apply pw_below_drewN | apply below_drew1) | exact HB.out)))); (case aL => have := LMc29.out; omega); intro v274 w31 ho hb hg hat; rw [← Ny273.out] at ho; have n0_ := Aside0.mk (Kd.S_over' (by (with_reducible repeat (first | apply Kd.S_alloc | apply Kd.S_drewN | apply Kd.S_drew)); exact HO_5.out) (Kd.R_typed (by (with_reducible repeat (first | apply Kd.R_alloc | apply Kd.R_drewN | apply Kd.R_drew)); exact HO_9.out)) (by decide) hg); have n1_ := Aside0.mk (Kd.R_after (ok := (fun _ => True)) (by (with_reducible repeat (first | apply Kd.R_alloc | apply Kd.R_drewN | apply Kd.R_drew)); exact Kd.R_mono HO_10.out (fun _ hk => ⟨trivial, hk⟩)) hg hat); have n2_ := Aside0.mk (Kd.R_over' (by (with_reducible repeat (first | apply Kd.R_alloc | apply Kd.R_drewN | apply Kd.R_drew)); exact HL270_0.out) (Kd.R_typed (by (with_reducible repeat (first | apply Kd.R_alloc | apply Kd.R_drewN | apply Kd.R_drew)); exact HO_9.out)) (by decide) hg); have n3_ := Aside0.mk (Kd.R_over' (by (with_reducible repeat (first | apply Kd.R_alloc | apply Kd.R_drewN | apply Kd.R_drew)); exact HL271_0.out) (Kd.R_typed (by (with_reducible repeat (first | apply Kd.R_alloc | apply Kd.R_drewN | apply Kd.R_drew)); exact HO_9.out)) (by decide) hg); have n4_ := Aside0.mk (hb); have n5_ := Aside0.mk (ho); clear HO_5; clear HO_10; clear HL270_0; clear HL271_0; clear HB; clear HO_9; have HO_5 := n0_; have HO_10 := n1_; have HL270_0 := n2_; have HL271_0 := n3_; have HB := n4_; have HO275 := n5_; clear n0_ n1_ n2_ n3_ n4_ n5_; clear ho hb hg hat; have p276 : 0 ≤ (x8_3 : Int) := of_decide_eq_true (by first | (with_reducible assumption) | assumption); have q276 : x8_3 < (t265.length : Int) := of_decide_eq_true (by first | (with_reducible assumption) | assumption); obtain ⟨ad276, A276_0, c276_0, e276, hx276_0, hl276_0, hi276_0⟩ := at_L5 (Kd.S_reads' HO_5.out).2.2 x8_3 p276 q276; obtain rfl : ad270 = ad276 := (by injection e276); obtain ⟨ce276, hce276, hMe276, hcc276⟩ := Kd.S_get HO_5.out [] x8_3 p276 (by first | exact q276 | exact of_decide_eq_true (by first | (with_reducible assumption) | assumption) | (have e_ := (Kd.S_reads' HO_5.out).1; omega)); obtain ⟨ve276_0, rfl, ge276_0⟩ := hMe276; have hv276_0 := hcc276 0 _ rfl; rw [Nat.add_zero, show ((Kd.slice 35 k35)).sz = 1 from rfl, Nat.mul_one] at hv276_0; replace hv276_0 := Option.some.inj (hv276_0.symm.trans hx276_0); rw [hv276_0] at ge276_0; have HL276_0 := Aside0.mk (show Kd.R k35 35 _ _ _ _ (rd_L5 t265 x8_3) from ge276_0); clear hv276_0 ge276_0; clear hcc276 hce276; have HR276_0 := Aside0.mk hi276_0; have HC276_0 := Aside0.mk hl276_0; clear hi276_0 hl276_0; replace p276 := eq_true p276; replace q276 := eq_true q276; have p277 : 0 ≤ (x11_4 : Int) := of_decide_eq_true (by first | (with_reducible assumption) | assumption); have q277 : x11_4 < ((rd_L5 t265 x8_3).length : Int) := of_decide_eq_true (by first | (with_reducible assumption) | assumption); obtain ⟨ad277, e277, hx277_0, hx277_1⟩ := at_T35 (by repeat (first | (with_reducible exact HR276_0.out) | (with_reducible refine Kd.C_alloc ?_ _) | (with_reducible refine Kd.C_drewN ?_ _) | (with_reducible refine Kd.C_drew ?_) | exact HR276_0.out)) x11_4 p277 q277; cases e277; replace p277 := eq_true p277; replace q277 := eq_true q277) | ((with_reducible refine gate_builtin (b := .append) (xs := #[.tmp 91, .tmp 100]) rfl ?_); (try (refine gate_guard (by rfl) ?_; dsimp only)); at_builtin; refine Kd.R_append (Kd.int .u8) (w0 := w) w.heap.size rfl (.tmp 91) (.tmp 100) 32 5 (.int .u8 0) 1 rfl Tryd.underlying32 info5 rfl (by decide) (by omega) u10 x10_4 ((rd_T35 (rd_L5 t265 x8_3) x11_4).f1) [.int .u8 ((rd_T35 (rd_L5 t265 x8_3) x11_4).f1)] (fun k_ => some k_ ≠ (v274 : Value).ownBlock) (fun _ => False) rfl rfl ?aP (fun _ hk => hk.elim) ?aF ?aO ?aB ?aS ?aL ?_; (case aP => exact rfl); (case aB => exact (by repeat (first | (with_reducible first | exact HB.out | apply below_alloc | apply pw_below_drewN | apply below_drew1) | exact HB.out))); (case aF => exact (fun k_ hk => Kd.fresh' (Kd.R_lt (by (with_reducible repeat (first | apply Kd.R_alloc | apply Kd.R_drewN | apply Kd.R_drew)); exact HO275.out)) k_ hk)); (case aO => exact (by (with_reducible repeat (first | apply Kd.R_alloc | apply Kd.R_drewN | apply Kd.R_drew)); exact Kd.R_mono HO_10.out (fun _ hk => hk.2))); (case aS => exact (below_size (by repeat (first | (with_reducible first | exact HB.out | apply below_alloc | apply pw_below_drewN | apply below_drew1) | exact HB.out)))); (case aL => have := LMc30.out; omega); intro v279 w32 ho hb hg hat; rw [← Ny278.out] at ho; have n0_ := Aside0.mk (Kd.S_over' (by (with_reducible repeat (first | apply Kd.S_alloc | apply Kd.S_drewN | apply Kd.S_drew)); exact HO_5.out) (Kd.R_typed (by (with_reducible repeat (first | apply Kd.R_alloc | apply Kd.R_drewN | apply Kd.R_drew)); exact HO_10.out)) (by decide) hg); have n1_ := Aside0.mk (Kd.R_over' (by (with_reducible repeat (first | apply Kd.R_alloc | apply Kd.R_drewN | apply Kd.R_drew)); exact HL270_0.out) (Kd.R_typed (by (with_reducible repeat (first | apply Kd.R_alloc | apply Kd.R_drewN | apply Kd.R_drew)); exact HO_10.out)) (by decide) hg); have n2_ := Aside0.mk (Kd.R_over' (by (with_reducible repeat (first | apply Kd.R_alloc | apply Kd.R_drewN | apply Kd.R_drew)); exact HL271_0.out) (Kd.R_typed (by (with_reducible repeat (first | apply Kd.R_alloc | apply Kd.R_drewN | apply Kd.R_drew)); exact HO_10.out)) (by decide) hg); have n3_ := Aside0.mk (Kd.R_after (ok := (fun _ => True)) (by (with_reducible repeat (first | apply Kd.R_alloc | apply Kd.R_drewN | apply Kd.R_drew)); exact Kd.R_mono HO275.out (fun _ hk => ⟨trivial, hk⟩)) hg hat); have n4_ := Aside0.mk (Kd.R_over' (by (with_reducible repeat (first | apply Kd.R_alloc | apply Kd.R_drewN | apply Kd.R_drew)); exact HL276_0.out) (Kd.R_typed (by (with_reducible repeat (first | apply Kd.R_alloc | apply Kd.R_drewN | apply Kd.R_drew)); exact HO_10.out)) (by decide) hg); have n5_ := Aside0.mk (hb); have n6_ := Aside0.mk (ho); clear HO_5; clear HL270_0; clear HL271_0; clear HO275; clear HL276_0; clear HB; clear HO_10; have HO_5 := n0_; have HL270_0 := n1_; have HL271_0 := n2_; have HO275 := n3_; have HL276_0 := n4_; have HB := n5_; have HO280 := n6_; clear n0_ n1_ n2_ n3_ n4_ n5_ n6_; clear ho hb hg hat))
                                        go_roundg k4
                                        case measure => have := HJ6.out; have := HJ18.out; have := HK3.out; have := HK4.out; omega
                                        case rel => exact ⟨(y273), (y278), (wrap64 (x11_4 + 1)), (by first | rfl | (simp; done) | (simp [*]; done)), H', ⟨by have := HJ6.out; have := HJ18.out; have := HK3.out; have := HK4.out; omega⟩, ⟨by (with_reducible repeat (first | apply Kd.S_alloc | apply Kd.S_drewN | apply Kd.S_drew)); exact HO_5.out⟩, ⟨by (with_reducible repeat (first | apply Kd.R_alloc | apply Kd.R_drewN | apply Kd.R_drew)); exact Kd.R_mono HO275.out (fun _ hk => hk.2)⟩, ⟨by (with_reducible repeat (first | apply Kd.R_alloc | apply Kd.R_drewN | apply Kd.R_drew)); exact HO280.out⟩, ⟨by repeat (first | (with_reducible first | exact HB.out | apply below_alloc | apply pw_below_drewN | apply below_drew1) | exact HB.out)⟩⟩
                                      · rw [if_neg c30] at H
                                        exact absurd H (by simp)
                                    · rw [if_neg c29] at H
                                      exact absurd H (by simp)
                                  · rw [if_neg c28] at H
                                    exact absurd H (by simp)
                                · rw [if_neg c27] at H
                                  have c27b0 : decide (x11_4 < ((rd_L5 t265 x8_3).length : Int)) = false := decide_eq_false c27
                                  clear c27
                                  replace H := Option.bind_eq_some_iff.mp H
                                  obtain ⟨⟨t281, t282, t283⟩, A330, H⟩ := H
                                  replace H : ((thistleref01_Next.f k4 (strOfNums x10_4) 0).bind fun bt284 => (if t283 = 0 then (if bt284.2.2 = 0 then (if t282 = ((strOfNums x9_4).size : Int) then (if bt284.2.1 = ((strOfNums x10_4).size : Int) then ((thistleref01_IsChar.f t281).bind fun t287 => (if t287 = true then ((thistleref01_IsChar.f bt284.1).bind fun t288 => (thistlelaw05_SeqsRising.j4 k4 t265 x7_3 x8_3 (strOfNums x9_4) (strOfNums x10_4) (!t288))) else (thistlelaw05_SeqsRising.j4 k4 t265 x7_3 x8_3 (strOfNums x9_4) (strOfNums x10_4) true))) else (thistlelaw05_SeqsRising.j4 k4 t265 x7_3 x8_3 (strOfNums x9_4) (strOfNums x10_4) true)) else (thistlelaw05_SeqsRising.j4 k4 t265 x7_3 x8_3 (strOfNums x9_4) (strOfNums x10_4) true)) else (thistlelaw05_SeqsRising.j4 k4 t265 x7_3 x8_3 (strOfNums x9_4) (strOfNums x10_4) true)) else (thistlelaw05_SeqsRising.j4 k4 t265 x7_3 x8_3 (strOfNums x9_4) (strOfNums x10_4) true))) = some r := H
                                  have A33 := Aside0.mk A330
                                  clear A330
                                  replace H := Option.bind_eq_some_iff.mp H
                                  obtain ⟨⟨t284, t285, t286⟩, A340, H⟩ := H
                                  replace H : (if t283 = 0 then (if t286 = 0 then (if t282 = ((strOfNums x9_4).size : Int) then (if t285 = ((strOfNums x10_4).size : Int) then ((thistleref01_IsChar.f t281).bind fun t287 => (if t287 = true then ((thistleref01_IsChar.f t284).bind fun t288 => (thistlelaw05_SeqsRising.j4 k4 t265 x7_3 x8_3 (strOfNums x9_4) (strOfNums x10_4) (!t288))) else (thistlelaw05_SeqsRising.j4 k4 t265 x7_3 x8_3 (strOfNums x9_4) (strOfNums x10_4) true))) else (thistlelaw05_SeqsRising.j4 k4 t265 x7_3 x8_3 (strOfNums x9_4) (strOfNums x10_4) true)) else (thistlelaw05_SeqsRising.j4 k4 t265 x7_3 x8_3 (strOfNums x9_4) (strOfNums x10_4) true)) else (thistlelaw05_SeqsRising.j4 k4 t265 x7_3 x8_3 (strOfNums x9_4) (strOfNums x10_4) true)) else (thistlelaw05_SeqsRising.j4 k4 t265 x7_3 x8_3 (strOfNums x9_4) (strOfNums x10_4) true)) = some r := H
                                  have A34 := Aside0.mk A340
                                  clear A340
                                  have HC35 := Aside0.mk H
                                  clear H
                                  have p270 : 0 ≤ (x8_3 : Int) := of_decide_eq_true (by first | (with_reducible assumption) | assumption)
                                  have q270 : x8_3 < (t265.length : Int) := of_decide_eq_true (by first | (with_reducible assumption) | assumption)
                                  obtain ⟨ad270, A270_0, c270_0, e270, hx270_0, hl270_0, hi270_0⟩ := at_L5 (Kd.S_reads' HO_5.out).2.2 x8_3 p270 q270
                                  cases e270
                                  obtain ⟨ce270, hce270, hMe270, hcc270⟩ := Kd.S_get HO_5.out [] x8_3 p270 (by first | exact q270 | exact of_decide_eq_true (by first | (with_reducible assumption) | assumption) | (have e_ := (Kd.S_reads' HO_5.out).1; omega))
                                  obtain ⟨ve270_0, rfl, ge270_0⟩ := hMe270
                                  have hv270_0 := hcc270 0 _ rfl
                                  rw [Nat.add_zero, show ((Kd.slice 35 k35)).sz = 1 from rfl, Nat.mul_one] at hv270_0
                                  replace hv270_0 := Option.some.inj (hv270_0.symm.trans hx270_0)
                                  rw [hv270_0] at ge270_0
                                  have HL270_0 := Aside0.mk (show Kd.R k35 35 _ _ _ _ (rd_L5 t265 x8_3) from ge270_0)
                                  clear hv270_0 ge270_0
                                  clear hcc270 hce270
                                  have HR270_0 := Aside0.mk hi270_0
                                  have HC270_0 := Aside0.mk hl270_0
                                  clear hi270_0 hl270_0
                                  replace p270 := eq_true p270
                                  replace q270 := eq_true q270
                                  have hcv36 := own_string (P := Tryd.prog) Tryd.underlying32 Tryd.underlying5 Tryd.underlying9 (Kd.own_of_R HO_9.out)
                                  have hcv37 := own_string (P := Tryd.prog) Tryd.underlying32 Tryd.underlying5 Tryd.underlying9 (Kd.own_of_R HO_10.out)
                                  go_upto_region 25 with (first | ((with_reducible refine gate_callee (f := 7) rfl ?_); refine goesL_ (some 108) rfl rfl Tryd.func7 (by kernel_rfl) rfl #[.string (strOfNums x9_4), .int .i64 0] rfl (by (try simp only [List.map_toArray, List.map_cons, List.map_nil]); first | done | rfl | (simp only [List.length_drop, List.length_take]; rfl)) ?_; (with_reducible refine (thistleref01_Next.calls k4 (strOfNums x9_4) 0 t281 t282 t283 _ A33.out).mono ?_); rintro e w' ⟨rfl, ⟨nd, rfl⟩⟩; refine ⟨_, rfl, ?_⟩) | ((with_reducible refine gate_callee (f := 7) rfl ?_); refine goesL_ (some 114) rfl rfl Tryd.func7 (by kernel_rfl) rfl #[.string (strOfNums x10_4), .int .i64 0] rfl (by (try simp only [List.map_toArray, List.map_cons, List.map_nil]); first | done | rfl | (simp only [List.length_drop, List.length_take]; rfl)) ?_; (with_reducible refine (thistleref01_Next.calls k4 (strOfNums x10_4) 0 t284 t285 t286 _ A34.out).mono ?_); rintro e w' ⟨rfl, ⟨nd, rfl⟩⟩; refine ⟨_, rfl, ?_⟩))
                                  (try simp only [Act.put, List.setIfInBounds_toArray, List.set_cons_zero, List.set_cons_succ])
                                  go_cut [145] (fun v145 wc => ∃ (kq : Nat) (x145_34 : Bool), v145 = .bool x145_34 ∧ Aside0 (thistlelaw05_SeqsRising.j4 kq t265 x7_3 x8_3 (strOfNums x9_4) (strOfNums x10_4) x145_34 = some r) ∧ Aside0 (kq ≤ k4) ∧ Aside0 (Kd.S (Kd.slice 35 k35) 33 wc w.heap.size (fun _ => True) (.slice (some ad270) t265.length co24) t265) ∧ Aside0 (Kd.C k35 wc A270_0 (rd_L5 t265 x8_3).length (rd_L5 t265 x8_3)) ∧ Aside0 (Below w.heap.size w wc))
                                  case first =>
                                    have H := HC35.out
                                    clear HC35
                                    by_cases c38 : t283 = 0
                                    · rw [if_pos c38] at H
                                      have c38b0 : (t283 == 0) = true := beq_iff_eq.mpr c38
                                      have c38b1 : (t283 != 0) = false := bne_eq_false_iff_eq.mpr c38
                                      clear c38
                                      (first | rw [c38b0] | (simp only [i64_w, i32_w]; rw [c38b0]) | skip)
                                      by_cases c39 : t286 = 0
                                      · rw [if_pos c39] at H
                                        have c39b0 : (t286 == 0) = true := beq_iff_eq.mpr c39
                                        have c39b1 : (t286 != 0) = false := bne_eq_false_iff_eq.mpr c39
                                        clear c39
                                        by_cases c40 : t282 = ((strOfNums x9_4).size : Int)
                                        · rw [if_pos c40] at H
                                          have c40b0 : (t282 == ((strOfNums x9_4).size : Int)) = true := beq_iff_eq.mpr c40
                                          have c40b1 : (t282 != ((strOfNums x9_4).size : Int)) = false := bne_eq_false_iff_eq.mpr c40
                                          clear c40
                                          by_cases c41 : t285 = ((strOfNums x10_4).size : Int)
                                          · rw [if_pos c41] at H
                                            have c41b0 : (t285 == ((strOfNums x10_4).size : Int)) = true := beq_iff_eq.mpr c41
                                            have c41b1 : (t285 != ((strOfNums x10_4).size : Int)) = false := bne_eq_false_iff_eq.mpr c41
                                            clear c41
                                            replace H := Option.bind_eq_some_iff.mp H
                                            obtain ⟨t287, A420, H⟩ := H
                                            replace H : (if t287 = true then ((thistleref01_IsChar.f t284).bind fun t288 => (thistlelaw05_SeqsRising.j4 k4 t265 x7_3 x8_3 (strOfNums x9_4) (strOfNums x10_4) (!t288))) else (thistlelaw05_SeqsRising.j4 k4 t265 x7_3 x8_3 (strOfNums x9_4) (strOfNums x10_4) true)) = some r := H
                                            have A42 := Aside0.mk A420
                                            clear A420
                                            by_cases c43 : t287 = true
                                            · subst c43
                                              have H1 : ((thistleref01_IsChar.f t284).bind fun t288 => (thistlelaw05_SeqsRising.j4 k4 t265 x7_3 x8_3 (strOfNums x9_4) (strOfNums x10_4) (!t288))) = some r := by rw [if_pos rfl] at H; exact H
                                              clear H
                                              have H := H1
                                              clear H1
                                              replace H := Option.bind_eq_some_iff.mp H
                                              obtain ⟨t288, A440, H⟩ := H
                                              replace H : (thistlelaw05_SeqsRising.j4 k4 t265 x7_3 x8_3 (strOfNums x9_4) (strOfNums x10_4) (!t288)) = some r := H
                                              have A44 := Aside0.mk A440
                                              clear A440
                                              have H' := Aside0.mk H
                                              clear H
                                              go_wp2_with (first | (go_at_call 8; (with_reducible refine (thistleref01_IsChar.calls t281 true _ A42.out).mono ?_); rintro e w' ⟨rfl, ⟨nd, rfl⟩⟩) | (go_at_call 8; (with_reducible refine (thistleref01_IsChar.calls t284 t288 _ A44.out).mono ?_); rintro e w' ⟨rfl, ⟨nd, rfl⟩⟩))
                                              go_meet
                                              case rel => exact ⟨_, (!t288), (by first | rfl | (simp; done) | (simp [*]; done)), H', ⟨by have := HJ6.out; have := HJ18.out; have := HK3.out; have := HK4.out; first | omega | exact Nat.le_refl _⟩, ⟨by (with_reducible repeat (first | apply Kd.S_alloc | apply Kd.S_drewN | apply Kd.S_drew)); exact HO_5.out⟩, ⟨by repeat (first | (with_reducible exact HR270_0.out) | (with_reducible refine Kd.C_alloc ?_ _) | (with_reducible refine Kd.C_drewN ?_ _) | (with_reducible refine Kd.C_drew ?_) | exact HR270_0.out)⟩, ⟨by repeat (first | (with_reducible first | exact HB.out | apply below_alloc | apply pw_below_drewN | apply below_drew1) | exact HB.out)⟩⟩
                                            · replace c43 := Bool.eq_false_iff.mpr c43
                                              subst c43
                                              have H1 : (thistlelaw05_SeqsRising.j4 k4 t265 x7_3 x8_3 (strOfNums x9_4) (strOfNums x10_4) true) = some r := by rw [if_neg (show ¬ (false = true) by decide)] at H; exact H
                                              clear H
                                              have H := H1
                                              clear H1
                                              have H' := Aside0.mk H
                                              clear H
                                              go_wp2_with (first | (go_at_call 8; (with_reducible refine (thistleref01_IsChar.calls t281 false _ A42.out).mono ?_); rintro e w' ⟨rfl, ⟨nd, rfl⟩⟩))
                                              go_meet
                                              case rel => exact ⟨_, (true), (by first | rfl | (simp; done) | (simp [*]; done)), H', ⟨by have := HJ6.out; have := HJ18.out; have := HK3.out; have := HK4.out; first | omega | exact Nat.le_refl _⟩, ⟨by (with_reducible repeat (first | apply Kd.S_alloc | apply Kd.S_drewN | apply Kd.S_drew)); exact HO_5.out⟩, ⟨by repeat (first | (with_reducible exact HR270_0.out) | (with_reducible refine Kd.C_alloc ?_ _) | (with_reducible refine Kd.C_drewN ?_ _) | (with_reducible refine Kd.C_drew ?_) | exact HR270_0.out)⟩, ⟨by repeat (first | (with_reducible first | exact HB.out | apply below_alloc | apply pw_below_drewN | apply below_drew1) | exact HB.out)⟩⟩
                                          · rw [if_neg c41] at H
                                            have c41b0 : (t285 == ((strOfNums x10_4).size : Int)) = false := beq_eq_false_iff_ne.mpr c41
                                            have c41b1 : (t285 != ((strOfNums x10_4).size : Int)) = true := bne_iff_ne.mpr c41
                                            have H' := Aside0.mk H
                                            clear H
                                            go_wp2
                                            go_meet
                                            case rel => exact ⟨_, (true), (by first | rfl | (simp; done) | (simp [*]; done)), H', ⟨by have := HJ6.out; have := HJ18.out; have := HK3.out; have := HK4.out; first | omega | exact Nat.le_refl _⟩, ⟨by (with_reducible repeat (first | apply Kd.S_alloc | apply Kd.S_drewN | apply Kd.S_drew)); exact HO_5.out⟩, ⟨by repeat (first | (with_reducible exact HR270_0.out) | (with_reducible refine Kd.C_alloc ?_ _) | (with_reducible refine Kd.C_drewN ?_ _) | (with_reducible refine Kd.C_drew ?_) | exact HR270_0.out)⟩, ⟨by repeat (first | (with_reducible first | exact HB.out | apply below_alloc | apply pw_below_drewN | apply below_drew1) | exact HB.out)⟩⟩
                                        · rw [if_neg c40] at H
                                          have c40b0 : (t282 == ((strOfNums x9_4).size : Int)) = false := beq_eq_false_iff_ne.mpr c40
                                          have c40b1 : (t282 != ((strOfNums x9_4).size : Int)) = true := bne_iff_ne.mpr c40
                                          have H' := Aside0.mk H
                                          clear H
                                          go_wp2
                                          go_meet
                                          case rel => exact ⟨_, (true), (by first | rfl | (simp; done) | (simp [*]; done)), H', ⟨by have := HJ6.out; have := HJ18.out; have := HK3.out; have := HK4.out; first | omega | exact Nat.le_refl _⟩, ⟨by (with_reducible repeat (first | apply Kd.S_alloc | apply Kd.S_drewN | apply Kd.S_drew)); exact HO_5.out⟩, ⟨by repeat (first | (with_reducible exact HR270_0.out) | (with_reducible refine Kd.C_alloc ?_ _) | (with_reducible refine Kd.C_drewN ?_ _) | (with_reducible refine Kd.C_drew ?_) | exact HR270_0.out)⟩, ⟨by repeat (first | (with_reducible first | exact HB.out | apply below_alloc | apply pw_below_drewN | apply below_drew1) | exact HB.out)⟩⟩
                                      · rw [if_neg c39] at H
                                        have c39b0 : (t286 == 0) = false := beq_eq_false_iff_ne.mpr c39
                                        have c39b1 : (t286 != 0) = true := bne_iff_ne.mpr c39
                                        have H' := Aside0.mk H
                                        clear H
                                        go_wp2
                                        go_meet
                                        case rel => exact ⟨_, (true), (by first | rfl | (simp; done) | (simp [*]; done)), H', ⟨by have := HJ6.out; have := HJ18.out; have := HK3.out; have := HK4.out; first | omega | exact Nat.le_refl _⟩, ⟨by (with_reducible repeat (first | apply Kd.S_alloc | apply Kd.S_drewN | apply Kd.S_drew)); exact HO_5.out⟩, ⟨by repeat (first | (with_reducible exact HR270_0.out) | (with_reducible refine Kd.C_alloc ?_ _) | (with_reducible refine Kd.C_drewN ?_ _) | (with_reducible refine Kd.C_drew ?_) | exact HR270_0.out)⟩, ⟨by repeat (first | (with_reducible first | exact HB.out | apply below_alloc | apply pw_below_drewN | apply below_drew1) | exact HB.out)⟩⟩
                                    · rw [if_neg c38] at H
                                      have c38b0 : (t283 == 0) = false := beq_eq_false_iff_ne.mpr c38
                                      have c38b1 : (t283 != 0) = true := bne_iff_ne.mpr c38
                                      (first | rw [c38b0] | (simp only [i64_w, i32_w]; rw [c38b0]) | skip)
                                      have H' := Aside0.mk H
                                      clear H
                                      go_wp2
                                      go_meet
                                      case rel => exact ⟨_, (true), (by first | rfl | (simp; done) | (simp [*]; done)), H', ⟨by have := HJ6.out; have := HJ18.out; have := HK3.out; have := HK4.out; first | omega | exact Nat.le_refl _⟩, ⟨by (with_reducible repeat (first | apply Kd.S_alloc | apply Kd.S_drewN | apply Kd.S_drew)); exact HO_5.out⟩, ⟨by repeat (first | (with_reducible exact HR270_0.out) | (with_reducible refine Kd.C_alloc ?_ _) | (with_reducible refine Kd.C_drewN ?_ _) | (with_reducible refine Kd.C_drew ?_) | exact HR270_0.out)⟩, ⟨by repeat (first | (with_reducible first | exact HB.out | apply below_alloc | apply pw_below_drewN | apply below_drew1) | exact HB.out)⟩⟩
                                  case rest =>
                                    clear HC35
                                    try clear c1
                                    try clear c2
                                    try clear p2
                                    try clear q2
                                    try clear hx2
                                    try clear c3
                                    try clear hcv3
                                    try clear c4
                                    try clear c5
                                    try clear c5b0
                                    try clear c5b1
                                    try clear c6
                                    try clear p6
                                    try clear c7
                                    try clear c12
                                    try clear c12b0
                                    try clear c12b1
                                    try clear c14
                                    try clear c14b0
                                    try clear c15
                                    try clear c15b0
                                    try clear c16
                                    try clear c17
                                    try clear c17b0
                                    try clear c17b1
                                    try clear c20
                                    try clear c20b0
                                    try clear c20b1
                                    try clear c22
                                    try clear c23
                                    try clear c23b0
                                    try clear c25
                                    try clear c25b0
                                    try clear c26
                                    try clear c26b0
                                    try clear p26
                                    try clear q26
                                    try clear hx26
                                    try clear c27
                                    try clear c27b0
                                    try clear p27
                                    try clear q27
                                    try clear hx27
                                    try clear c28
                                    try clear c28b0
                                    try clear c29
                                    try clear c30
                                    try clear hcv36
                                    try clear hcv37
                                    try clear c38
                                    try clear c38b0
                                    try clear c38b1
                                    try clear c39
                                    try clear c39b0
                                    try clear c39b1
                                    try clear c40
                                    try clear c40b0
                                    try clear c40b1
                                    try clear c41
                                    try clear c41b0
                                    try clear c41b1
                                    try clear c43
                                    try clear hx269_0
                                    try clear hx269_1
                                    try clear hx270_0
                                    try clear hx271_0
                                    try clear hx272_0
                                    try clear hx272_1
                                    try clear hx276_0
                                    try clear hx277_0
                                    try clear hx277_1
                                    try clear p2
                                    try clear p269
                                    try clear p270
                                    try clear p271
                                    try clear p272
                                    try clear p276
                                    try clear p277
                                    try clear p6
                                    try clear q2
                                    try clear q269
                                    try clear q270
                                    try clear q271
                                    try clear q272
                                    try clear q276
                                    try clear q277
                                    obtain ⟨kq, x145_34, rfl, HA, HJ34, HO_5, HR270_0, HB⟩ := hcut
                                    cases kq with
                                    | zero => exact absurd HA.out (by simp [thistlelaw05_SeqsRising.j4])
                                    | succ kj34 =>
                                      have H := HA.out
                                      clear HA
                                      simp only [thistlelaw05_SeqsRising.j4] at H
                                      by_cases c45 : x145_34 = true
                                      · subst c45
                                        have H1 : (some false) = some r := by rw [if_pos rfl] at H; exact H
                                        clear H
                                        have H := H1
                                        clear H1
                                        obtain rfl := Option.some.inj H
                                        go_wp2
                                        go_ret
                                        exact ⟨by first | rfl | (simp [errW_none, errW_some] <;> rfl) | (simp [*, errW_none, errW_some] <;> rfl), by repeat (first | (with_reducible first | exact HB.out | apply below_alloc | apply pw_below_drewN | apply below_drew1) | exact HB.out)⟩
                                      · replace c45 := Bool.eq_false_iff.mpr c45
                                        subst c45
                                        have H1 : (if (Op.bytesLess (strOfNums x10_4).toList (strOfNums x9_4).toList) = true then (some false) else (if x8_3 > 0 then (if ((Op.bytesLess x7_3.toList (strOfNums x9_4).toList) = true) then (thistlelaw05_SeqsRising.l0 kj34 t265 (strOfNums x10_4) (wrap64 (x8_3 + 1))) else (some false)) else (thistlelaw05_SeqsRising.l0 kj34 t265 (strOfNums x10_4) (wrap64 (x8_3 + 1))))) = some r := by rw [if_neg (show ¬ (false = true) by decide)] at H; exact H
                                        clear H
                                        have H := H1
                                        clear H1
                                        by_cases c46 : (Op.bytesLess (strOfNums x10_4).toList (strOfNums x9_4).toList) = true
                                        · rw [if_pos c46] at H
                                          have c46b0 : (Op.bytesLess (strOfNums x10_4).toList (strOfNums x9_4).toList) = true := c46
                                          clear c46
                                          obtain rfl := Option.some.inj H
                                          go_wp2
                                          go_ret
                                          exact ⟨by first | rfl | (simp [errW_none, errW_some] <;> rfl) | (simp [*, errW_none, errW_some] <;> rfl), by repeat (first | (with_reducible first | exact HB.out | apply below_alloc | apply pw_below_drewN | apply below_drew1) | exact HB.out)⟩
                                        · rw [if_neg c46] at H
                                          have c46b0 : (Op.bytesLess (strOfNums x10_4).toList (strOfNums x9_4).toList) = false := by simpa using c46
                                          clear c46
                                          by_cases c47 : x8_3 > 0
                                          · rw [if_pos c47] at H
                                            have c47b0 : decide (0 < x8_3) = true := decide_eq_true c47
                                            clear c47
                                            by_cases c48 : ((Op.bytesLess x7_3.toList (strOfNums x9_4).toList) = true)
                                            · rw [if_pos c48] at H
                                              have c48b0 : (Op.bytesLess x7_3.toList (strOfNums x9_4).toList) = true := c48
                                              clear c48
                                              have H' := Aside0.mk H
                                              clear H
                                              go_wp2
                                              go_roundg kj34
                                              case measure => have := HJ6.out; have := HJ18.out; have := HK3.out; have := HK4.out; have := HJ34.out; omega
                                              case rel => exact ⟨((strOfNums x10_4)), (wrap64 (x8_3 + 1)), (by first | rfl | (simp; done) | (simp [*]; done)), (by first | rfl | (simp; done) | (simp [*]; done)), H', ⟨by have := HJ6.out; have := HJ18.out; have := HK3.out; have := HK4.out; have := HJ34.out; omega⟩, ⟨by (with_reducible repeat (first | apply Kd.S_alloc | apply Kd.S_drewN | apply Kd.S_drew)); exact HO_5.out⟩, ⟨by repeat (first | (with_reducible first | exact HB.out | apply below_alloc | apply pw_below_drewN | apply below_drew1) | exact HB.out)⟩⟩
                                            · rw [if_neg c48] at H
                                              have c48b0 : (Op.bytesLess x7_3.toList (strOfNums x9_4).toList) = false := by simpa using c48
                                              clear c48
                                              obtain rfl := Option.some.inj H
                                              go_wp2
                                              go_ret
                                              exact ⟨by first | rfl | (simp [errW_none, errW_some] <;> rfl) | (simp [*, errW_none, errW_some] <;> rfl), by repeat (first | (with_reducible first | exact HB.out | apply below_alloc | apply pw_below_drewN | apply below_drew1) | exact HB.out)⟩
                                          · rw [if_neg c47] at H
                                            have c47b0 : decide (0 < x8_3) = false := decide_eq_false c47
                                            clear c47
                                            have H' := Aside0.mk H
                                            clear H
                                            go_wp2
                                            go_roundg kj34
                                            case measure => have := HJ6.out; have := HJ18.out; have := HK3.out; have := HK4.out; have := HJ34.out; omega
                                            case rel => exact ⟨((strOfNums x10_4)), (wrap64 (x8_3 + 1)), (by first | rfl | (simp; done) | (simp [*]; done)), (by first | rfl | (simp; done) | (simp [*]; done)), H', ⟨by have := HJ6.out; have := HJ18.out; have := HK3.out; have := HK4.out; have := HJ34.out; omega⟩, ⟨by (with_reducible repeat (first | apply Kd.S_alloc | apply Kd.S_drewN | apply Kd.S_drew)); exact HO_5.out⟩, ⟨by repeat (first | (with_reducible first | exact HB.out | apply below_alloc | apply pw_below_drewN | apply below_drew1) | exact HB.out)⟩⟩
                              · rw [if_neg c26] at H
                                exact absurd H (by simp)
                            · rw [if_neg c25] at H
                              exact absurd H (by simp)
                      · rw [if_neg c23] at H
                        have c23b0 : decide (x8_3 < (t265.length : Int)) = false := decide_eq_false c23
                        clear c23
                        obtain rfl := Option.some.inj H
                        obtain ⟨Ao49, co49, eo49⟩ := Kd.S_slice HO_5.out
                        subst eo49
                        go_wp2
                        go_ret
                        exact ⟨by first | rfl | (simp [errW_none, errW_some] <;> rfl) | (simp [*, errW_none, errW_some] <;> rfl), by repeat (first | (with_reducible first | exact HB.out | apply below_alloc | apply pw_below_drewN | apply below_drew1) | exact HB.out)⟩
    · rw [if_neg c5] at H
      have c5b0 : (t264 == 0) = false := beq_eq_false_iff_ne.mpr c5
      have c5b1 : (t264 != 0) = true := bne_iff_ne.mpr c5
      obtain rfl := Option.some.inj H
      go_enter Tryd.func3, Tryd.ntmps3
      go_wp2_with (first | ((with_reducible refine gate_callee (f := 4) rfl ?_); refine goesL_ (some 20) rfl rfl Tryd.func4 (by kernel_rfl) rfl #[] rfl (by (try simp only [List.map_toArray, List.map_cons, List.map_nil]); first | done | rfl | (simp only [List.length_drop, List.length_take]; rfl)) ?_; (with_reducible refine (thistlelaw05_wakes.calls k  true _ A2.out).mono ?_); rintro e w50 ⟨rfl, hb⟩; refine ⟨_, rfl, ?_⟩; have n0_ := Aside0.mk (below_step (by repeat (first | (with_reducible first | exact HB.out | apply below_alloc | apply pw_below_drewN | apply below_drew1) | exact HB.out)) hb); clear HB; have HB := n0_; clear n0_; (try clear hb); (try clear hb2); (try clear hk); (try clear hi)) | ((with_reducible refine gate_callee (f := 5) rfl ?_); refine goesL_ (some 24) rfl rfl Tryd.func5 (by kernel_rfl) rfl #[.slice A0 l0.length c0] rfl (by (try simp only [List.map_toArray, List.map_cons, List.map_nil]); first | done | rfl | (simp only [List.length_drop, List.length_take]; rfl)) ?_; (with_reducible refine (thistleref02_Make.calls k (fun k_ => k_ < w.heap.size) _ _ l0 t261 t264 _ ?side1 A4.out).mono ?_); (case side1 => exact Kd.V_mk HC0.out (Kd.F_below (Kd.C_F k31_heap HR0.out) (by repeat (first | (with_reducible first | exact HB.out | apply below_alloc | apply pw_below_drewN | apply below_drew1) | exact HB.out)))); rintro e w51 ⟨v262, rfl, ho0, hb⟩; refine ⟨_, rfl, ?_⟩; have n0_ := Aside0.mk (Kd.R_lower (Kd.R_mono (ok' := fun k_ => True) ho0 (fun _ hk_ => trivial)) (below_size (by repeat (first | (with_reducible first | exact HB.out | apply below_alloc | apply pw_below_drewN | apply below_drew1) | exact HB.out)))); have n1_ := Aside0.mk (below_step (by repeat (first | (with_reducible first | exact HB.out | apply below_alloc | apply pw_below_drewN | apply below_drew1) | exact HB.out)) hb); clear HB; have HO263 := n0_; have HB := n1_; clear n0_ n1_; (try clear hb); (try clear hb2); (try clear hk); (try clear hi); (try clear ho0)))
      go_ret
      exact ⟨by first | rfl | (simp [errW_none, errW_some] <;> rfl) | (simp [*, errW_none, errW_some] <;> rfl), by repeat (first | (with_reducible first | exact HB.out | apply below_alloc | apply pw_below_drewN | apply below_drew1) | exact HB.out)⟩
  · replace c3 := Bool.eq_false_iff.mpr c3
    subst c3
    have H1 : (some false) = some r := by rw [if_neg (show ¬ (false = true) by decide)] at H; exact H
    clear H
    have H := H1
    clear H1
    obtain rfl := Option.some.inj H
    go_enter Tryd.func3, Tryd.ntmps3
    go_wp2_with (first | ((with_reducible refine gate_callee (f := 4) rfl ?_); refine goesL_ (some 20) rfl rfl Tryd.func4 (by kernel_rfl) rfl #[] rfl (by (try simp only [List.map_toArray, List.map_cons, List.map_nil]); first | done | rfl | (simp only [List.length_drop, List.length_take]; rfl)) ?_; (with_reducible refine (thistlelaw05_wakes.calls k  false _ A2.out).mono ?_); rintro e w52 ⟨rfl, hb⟩; refine ⟨_, rfl, ?_⟩; have n0_ := Aside0.mk (below_step (by repeat (first | (with_reducible first | exact HB.out | apply below_alloc | apply pw_below_drewN | apply below_drew1) | exact HB.out)) hb); clear HB; have HB := n0_; clear n0_; (try clear hb); (try clear hb2); (try clear hk); (try clear hi)))
    go_ret
    exact ⟨by first | rfl | (simp [errW_none, errW_some] <;> rfl) | (simp [*, errW_none, errW_some] <;> rfl), by repeat (first | (with_reducible first | exact HB.out | apply below_alloc | apply pw_below_drewN | apply below_drew1) | exact HB.out)⟩

end Go.Proofs.YtmokclfiifmhpaaDoor.XS
