/- WRITTEN BY A PROGRAM OF THIS SESSION (wip/tools/xprint.py, over the kit's printer): contracts of the functions that the seat's laws reach. -/
import Derived.Test.YtcpjflgiimjfmaaDoorXLibShort
import Derived.Test.YtcpjflgiimjfmaaDoorXF0
import Derived.Test.YtcpjflgiimjfmaaDoorXF8
namespace Go.Proofs.YtcpjflgiimjfmaaDoor.XF
open Go.Proofs.YtcpjflgiimjfmaaDoor.XShort (o i)
open Go.RowKit Go.Proofs.YtcpjflgiimjfmaaDoorW.PrintWords Go.Proofs.YtcpjflgiimjfmaaDoorW.PrintLast Go.Proofs.YtcpjflgiimjfmaaDoorW.PrintMore
attribute [local go_sem] max2_int min2_int max_two min_two max_three min_three max_four min_four
set_option linter.unusedVariables false
set_option linter.unusedSimpArgs false

/-! ### thistleref02_merged: function 66 -/
mutual
def thistleref02_merged.l0 : Nat → List Int → Int → Option (List Int)
 | 0, _, _ => none
 | k + 1, x0, x3 => if x3 < (x0.length : Int) then (if 0 ≤ (x0.length : Int) then (if ((x0.length : Int) : Int).toNat ≤ 35184372088832 then (thistleref02_merged.l1 k x0 x3 (([] : List Int)) 0) else (none)) else (none)) else (some x0)
def thistleref02_merged.l1 : Nat → List Int → Int → List Int → Int → Option (List Int)
 | 0, _, _, _, _ => none
 | k + 1, x0, x3, x4, x5 => if x5 < (x0.length : Int) then ((thistleref02_least.f (wrap64 (x5 + x3)) (x0.length : Int)).bind fun t219 => ((thistleref02_least.f (wrap64 (x5 + (wrap64 (2 * x3)))) (x0.length : Int)).bind fun t220 => (thistleref02_merged.l2 k x0 x3 x4 x5 t219 t220 x5 t219))) else (thistleref02_merged.l0 k x4 (wrap64 (2 * x3)))
def thistleref02_merged.l2 : Nat → List Int → Int → List Int → Int → Int → Int → Int → Int → Option (List Int)
 | 0, _, _, _, _, _, _, _, _ => none
 | k + 1, x0, x3, x4, x5, x6, x7, x8, x9 => if x8 < x6 then (thistleref02_merged.j3 k x0 x3 x4 x5 x6 x7 x8 x9 true) else (thistleref02_merged.j3 k x0 x3 x4 x5 x6 x7 x8 x9 (decide (x9 < x7)))
def thistleref02_merged.j3 : Nat → List Int → Int → List Int → Int → Int → Int → Int → Int → Bool → Option (List Int)
 | 0, _, _, _, _, _, _, _, _, _ => none
 | k + 1, x0, x3, x4, x5, x6, x7, x8, x9, x49 => if x49 = true then (if x9 = x7 then (if 0 ≤ x8 then (if x8 < (x0.length : Int) then (if x4.length < 17592186044416 then (thistleref02_merged.l2 k x0 x3 (x4 ++ [rd x0 x8]) x5 x6 x7 (wrap64 (x8 + 1)) x9) else (none)) else (none)) else (none)) else (if x8 < x6 then (if 0 ≤ x8 then (if x8 < (x0.length : Int) then (if 0 ≤ x9 then (if x9 < (x0.length : Int) then (if (rd x0 x8) ≤ (rd x0 x9) then (if x4.length < 17592186044416 then (thistleref02_merged.l2 k x0 x3 (x4 ++ [rd x0 x8]) x5 x6 x7 (wrap64 (x8 + 1)) x9) else (none)) else (if x4.length < 17592186044416 then (thistleref02_merged.l2 k x0 x3 (x4 ++ [rd x0 x9]) x5 x6 x7 x8 (wrap64 (x9 + 1))) else (none))) else (none)) else (none)) else (none)) else (none)) else (if 0 ≤ x9 then (if x9 < (x0.length : Int) then (if x4.length < 17592186044416 then (thistleref02_merged.l2 k x0 x3 (x4 ++ [rd x0 x9]) x5 x6 x7 x8 (wrap64 (x9 + 1))) else (none)) else (none)) else (none)))) else (thistleref02_merged.l1 k x0 x3 x4 (wrap64 (x5 + (wrap64 (2 * x3)))))
end
def thistleref02_merged.f (k : Nat) (l0 : List Int) : Option (List Int) := thistleref02_merged.l0 k l0 1
theorem thistleref02_merged.mono_l : ∀ k, (∀ y0 y1, LeO (thistleref02_merged.l0 k y0 y1) (thistleref02_merged.l0 (k + 1) y0 y1)) ∧ (∀ y0 y1 y2 y3, LeO (thistleref02_merged.l1 k y0 y1 y2 y3) (thistleref02_merged.l1 (k + 1) y0 y1 y2 y3)) ∧ (∀ y0 y1 y2 y3 y4 y5 y6 y7, LeO (thistleref02_merged.l2 k y0 y1 y2 y3 y4 y5 y6 y7) (thistleref02_merged.l2 (k + 1) y0 y1 y2 y3 y4 y5 y6 y7)) ∧ (∀ y0 y1 y2 y3 y4 y5 y6 y7 y8, LeO (thistleref02_merged.j3 k y0 y1 y2 y3 y4 y5 y6 y7 y8) (thistleref02_merged.j3 (k + 1) y0 y1 y2 y3 y4 y5 y6 y7 y8))
 | 0 => ⟨fun _ _ r h => by simp [thistleref02_merged.l0] at h, fun _ _ _ _ r h => by simp [thistleref02_merged.l1] at h, fun _ _ _ _ _ _ _ _ r h => by simp [thistleref02_merged.l2] at h, fun _ _ _ _ _ _ _ _ _ r h => by simp [thistleref02_merged.j3] at h⟩
 | k + 1 => by
  obtain ⟨ih0, ih1, ih2, ih3⟩ := thistleref02_merged.mono_l k
  refine ⟨?_, ?_, ?_, ?_⟩
  ·intro y0 y1
   unfold thistleref02_merged.l0
   repeat' first
   | (with_reducible exact ih0 _ _)
   | (with_reducible exact ih1 _ _ _ _)
   | (with_reducible exact ih2 _ _ _ _ _ _ _ _)
   | (with_reducible exact ih3 _ _ _ _ _ _ _ _ _)
   | (with_reducible exact LeO.refl _)
   | (with_reducible exact LeO.none _)
   | (with_reducible refine LeO.ite ?_ ?_)
   | (with_reducible refine LeO.bind ?_ (fun _ => ?_))
   | exact ih0 _ _
   | exact ih1 _ _ _ _
   | exact ih2 _ _ _ _ _ _ _ _
   | exact ih3 _ _ _ _ _ _ _ _ _
   | exact LeO.none _
   | refine LeO.ite ?_ ?_
   | refine LeO.bind ?_ (fun _ => ?_)
  ·intro y0 y1 y2 y3
   unfold thistleref02_merged.l1
   repeat' first
   | (with_reducible exact ih0 _ _)
   | (with_reducible exact ih1 _ _ _ _)
   | (with_reducible exact ih2 _ _ _ _ _ _ _ _)
   | (with_reducible exact ih3 _ _ _ _ _ _ _ _ _)
   | (with_reducible exact LeO.refl _)
   | (with_reducible exact LeO.none _)
   | (with_reducible refine LeO.ite ?_ ?_)
   | (with_reducible refine LeO.bind ?_ (fun _ => ?_))
   | exact ih0 _ _
   | exact ih1 _ _ _ _
   | exact ih2 _ _ _ _ _ _ _ _
   | exact ih3 _ _ _ _ _ _ _ _ _
   | exact LeO.none _
   | refine LeO.ite ?_ ?_
   | refine LeO.bind ?_ (fun _ => ?_)
  ·intro y0 y1 y2 y3 y4 y5 y6 y7
   unfold thistleref02_merged.l2
   repeat' first
   | (with_reducible exact ih0 _ _)
   | (with_reducible exact ih1 _ _ _ _)
   | (with_reducible exact ih2 _ _ _ _ _ _ _ _)
   | (with_reducible exact ih3 _ _ _ _ _ _ _ _ _)
   | (with_reducible exact LeO.refl _)
   | (with_reducible exact LeO.none _)
   | (with_reducible refine LeO.ite ?_ ?_)
   | (with_reducible refine LeO.bind ?_ (fun _ => ?_))
   | exact ih0 _ _
   | exact ih1 _ _ _ _
   | exact ih2 _ _ _ _ _ _ _ _
   | exact ih3 _ _ _ _ _ _ _ _ _
   | exact LeO.none _
   | refine LeO.ite ?_ ?_
   | refine LeO.bind ?_ (fun _ => ?_)
  ·intro y0 y1 y2 y3 y4 y5 y6 y7 y8
   unfold thistleref02_merged.j3
   repeat' first
   | (with_reducible exact ih0 _ _)
   | (with_reducible exact ih1 _ _ _ _)
   | (with_reducible exact ih2 _ _ _ _ _ _ _ _)
   | (with_reducible exact ih3 _ _ _ _ _ _ _ _ _)
   | (with_reducible exact LeO.refl _)
   | (with_reducible exact LeO.none _)
   | (with_reducible refine LeO.ite ?_ ?_)
   | (with_reducible refine LeO.bind ?_ (fun _ => ?_))
   | exact ih0 _ _
   | exact ih1 _ _ _ _
   | exact ih2 _ _ _ _ _ _ _ _
   | exact ih3 _ _ _ _ _ _ _ _ _
   | exact LeO.none _
   | refine LeO.ite ?_ ?_
   | refine LeO.bind ?_ (fun _ => ?_)
theorem thistleref02_merged.mono : ∀ a0 k, LeO (thistleref02_merged.f k a0) (thistleref02_merged.f (k + 1) a0) := by
 intro a0 k
 obtain ⟨ih0, ih1, ih2, ih3⟩ := thistleref02_merged.mono_l k
 unfold thistleref02_merged.f
 repeat' first
   | (with_reducible exact ih0 _ _)
   | (with_reducible exact ih1 _ _ _ _)
   | (with_reducible exact ih2 _ _ _ _ _ _ _ _)
   | (with_reducible exact ih3 _ _ _ _ _ _ _ _ _)
   | (with_reducible exact LeO.refl _)
   | (with_reducible exact LeO.none _)
   | (with_reducible refine LeO.ite ?_ ?_)
   | (with_reducible refine LeO.bind ?_ (fun _ => ?_))
   | exact ih0 _ _
   | exact ih1 _ _ _ _
   | exact ih2 _ _ _ _ _ _ _ _
   | exact ih3 _ _ _ _ _ _ _ _ _
   | exact LeO.none _
   | refine LeO.ite ?_ ?_
   | refine LeO.bind ?_ (fun _ => ?_)
set_option maxHeartbeats 8000000 in
set_option maxRecDepth 100000 in
theorem thistleref02_merged.calls (k : Nat) (P0_ : Nat → Prop) (A0 : Option Addr) (c0 : Nat) (l0 : List Int) (r : List Int) (w : World) (hs0 : Kd.V (Kd.int .i64) 3 w w.heap.size (fun k_ => P0_ k_) (.slice A0 l0.length c0) l0) (h : thistleref02_merged.f k l0 = some r) :
  Calls Tryd.prog 66 #[.slice A0 l0.length c0] w fun e w' => ∃ v0_ : Value, e = .returned (v0_) ∧ Kd.V (Kd.int .i64) 3 w' w.heap.size (fun k_ => (P0_ k_ ∨ w.heap.size ≤ k_)) v0_ r ∧ Below w.heap.size w w' := by
 have HO0 := Aside0.mk (show Kd.V (Kd.int .i64) 3 w w.heap.size (fun k_ => (P0_ k_ ∨ w.heap.size ≤ k_)) (.slice A0 l0.length c0) l0 from Kd.V_mono hs0 (fun k_ hk => .inl hk))
 have HB := Aside0.mk (Below.refl w.heap.size w)
 have H : (thistleref02_merged.l0 k l0 1) = some r := h
 clear h
 have H' := Aside0.mk H
 clear H
 go_enter Tryd.func66, Tryd.ntmps66
 go_wp2
 repeat (go_quiet (fail); try go_wp2)
 go_loopg [0, 3] k (fun kq v0 v3 w' => ∃ (x0_1 : List Int) (x3_1 : Int), v3 = .int .i64 x3_1 ∧ Aside0 (thistleref02_merged.l0 kq x0_1 x3_1 = some r) ∧ Aside0 (kq ≤ k) ∧ Aside0 (Kd.V (Kd.int .i64) 3 w' w.heap.size (fun k_ => (P0_ k_ ∨ w.heap.size ≤ k_)) v0 x0_1) ∧ Aside0 (Below w.heap.size w w'))
 case atStart => exact ⟨(l0), (1), XShort.eqs, H', ⟨Nat.le_refl _⟩, ⟨by (with_reducible repeat (first | apply Kd.V_alloc | apply Kd.V_drewN | apply Kd.V_drew)); exact HO0.out⟩, ⟨XShort.bel⟩⟩
 case round =>
  clear H'
  obtain ⟨x0_1, x3_1, rfl, HA, HK1, HO_0, HB⟩ := hrel
  cases gk with
  | zero => exact absurd HA.out (by simp [thistleref02_merged.l0])
  | succ k1 =>
   have H := HA.out
   clear HA
   simp only [thistleref02_merged.l0] at H
   by_cases c2 : x3_1 < (x0_1.length : Int)
   ·rw [if_pos c2] at H
    have c2b0 : decide (x3_1 < (x0_1.length : Int)) = true := decide_eq_true c2
    clear c2
    by_cases c3 : 0 ≤ (x0_1.length : Int)
    ·rw [if_pos c3] at H
     have c3b0 := eq_true c3
     have c3b1 : decide (0 ≤ (x0_1.length : Int)) = true := decide_eq_true c3
     clear c3
     by_cases c4 : ((x0_1.length : Int) : Int).toNat ≤ 35184372088832
     ·rw [if_pos c4] at H
      have c4b0 := eq_true c4
      have c4b1 : decide (((x0_1.length : Int) : Int).toNat ≤ 35184372088832) = true := decide_eq_true c4
      clear c4
      obtain ⟨y216, hy216⟩ : ∃ y_ : List Int, y_ = (([] : List Int)) := ⟨_, rfl⟩
      replace H : (thistleref02_merged.l1 k1 x0_1 x3_1 y216 0) = some r := by first | (rw [hy216]; with_reducible exact H) | (have H2_ := (Option.bind_some _ _).symm.trans H; rw [hy216]; with_reducible exact H2_) | (have H2_ := (Option.bind_some _ _).symm.trans H; with_reducible exact H2_) | with_reducible exact H | (rw [hy216]; exact H) | exact H
      have Ny216 := Aside0.mk hy216
      clear hy216
      have H' := Aside0.mk H
      clear H
      obtain ⟨Ao5, co5, eo5⟩ := Kd.V_slice HO_0.out
      subst eo5
      go_wp2_with (first | ((with_reducible refine gate_dst (N := 18) rfl ?_); refine XLib.R_make0 (Kd.int .i64) _ 3 rfl (N := 18) rfl 100 _ _ rfl (x0_1.length : Int) rfl rfl Tryd.underlying100 (.int .i64 0) 8 info3 rfl (by decide) (by omega) (ok := fun _ => True) (okp := fun _ => True) (fun _ hk => hk) trivial (of_decide_eq_true XShort.asm) (Nat.le_trans (Nat.mul_le_mul_right _ (of_decide_eq_true XShort.asm : (x0_1.length : Int).toNat ≤ 35184372088832)) (by omega)) (Below.refl _ _) (Nat.le_refl _) ?_; intro v217 w6 ho7 hb hg_ hnew_; clear hg_ hnew_; (first | rw [← Ny216.out] at ho7 | (simp only [Int.reduceToNat] at ho7; rw [← Ny216.out] at ho7)); have n0_ := Aside0.mk (Kd.V_elder' (XShort.vv HO_0.out) (Kd.R_base ho7) hb); have n1_ := Aside0.mk (Kd.R_lower (Kd.R_newM (M := fun k_ => (w.heap.size ≤ k_)) ho7 (below_size XShort.bel) (fun k_ h_ => h_)) (below_size XShort.bel)); have n2_ := Aside0.mk (below_step XShort.bel hb); clear HO_0; clear HB; have HO_0 := n0_; have HO218 := n1_; have HB := n2_; clear n0_ n1_ n2_; clear hb ho7))
      repeat (go_quiet (first | ((with_reducible refine gate_dst (N := 18) rfl ?_); refine XLib.R_make0 (Kd.int .i64) _ 3 rfl (N := 18) rfl 100 _ _ rfl (x0_1.length : Int) rfl rfl Tryd.underlying100 (.int .i64 0) 8 info3 rfl (by decide) (by omega) (ok := fun _ => True) (okp := fun _ => True) (fun _ hk => hk) trivial (of_decide_eq_true XShort.asm) (Nat.le_trans (Nat.mul_le_mul_right _ (of_decide_eq_true XShort.asm : (x0_1.length : Int).toNat ≤ 35184372088832)) (by omega)) (Below.refl _ _) (Nat.le_refl _) ?_; intro v217 w6 ho7 hb hg_ hnew_; clear hg_ hnew_; (first | rw [← Ny216.out] at ho7 | (simp only [Int.reduceToNat] at ho7; rw [← Ny216.out] at ho7)); have n0_ := Aside0.mk (Kd.V_elder' (XShort.vv HO_0.out) (Kd.R_base ho7) hb); have n1_ := Aside0.mk (Kd.R_lower (Kd.R_newM (M := fun k_ => (w.heap.size ≤ k_)) ho7 (below_size XShort.bel) (fun k_ h_ => h_)) (below_size XShort.bel)); have n2_ := Aside0.mk (below_step XShort.bel hb); clear HO_0; clear HB; have HO_0 := n0_; have HO218 := n1_; have HB := n2_; clear n0_ n1_ n2_; clear hb ho7)); try go_wp2_with (first | ((with_reducible refine gate_dst (N := 18) rfl ?_); refine XLib.R_make0 (Kd.int .i64) _ 3 rfl (N := 18) rfl 100 _ _ rfl (x0_1.length : Int) rfl rfl Tryd.underlying100 (.int .i64 0) 8 info3 rfl (by decide) (by omega) (ok := fun _ => True) (okp := fun _ => True) (fun _ hk => hk) trivial (of_decide_eq_true XShort.asm) (Nat.le_trans (Nat.mul_le_mul_right _ (of_decide_eq_true XShort.asm : (x0_1.length : Int).toNat ≤ 35184372088832)) (by omega)) (Below.refl _ _) (Nat.le_refl _) ?_; intro v217 w6 ho7 hb hg_ hnew_; clear hg_ hnew_; (first | rw [← Ny216.out] at ho7 | (simp only [Int.reduceToNat] at ho7; rw [← Ny216.out] at ho7)); have n0_ := Aside0.mk (Kd.V_elder' (XShort.vv HO_0.out) (Kd.R_base ho7) hb); have n1_ := Aside0.mk (Kd.R_lower (Kd.R_newM (M := fun k_ => (w.heap.size ≤ k_)) ho7 (below_size XShort.bel) (fun k_ h_ => h_)) (below_size XShort.bel)); have n2_ := Aside0.mk (below_step XShort.bel hb); clear HO_0; clear HB; have HO_0 := n0_; have HO218 := n1_; have HB := n2_; clear n0_ n1_ n2_; clear hb ho7)))
      go_loopg [4, 5] k1 (fun kq v4 v5 w' => ∃ (x4_2 : List Int) (x5_2 : Int), v5 = .int .i64 x5_2 ∧ Aside0 (thistleref02_merged.l1 kq x0_1 x3_1 x4_2 x5_2 = some r) ∧ Aside0 (kq ≤ k1) ∧ Aside0 (Kd.V (Kd.int .i64) 3 w' w.heap.size (fun k_ => (P0_ k_ ∨ w.heap.size ≤ k_) ∧ some k_ ≠ (v4 : Value).ownBlock) (.slice Ao5 x0_1.length co5) x0_1) ∧ Aside0 (Kd.R (Kd.int .i64) 3 w' w.heap.size (fun k_ => (w.heap.size ≤ k_)) v4 x4_2) ∧ Aside0 (Below w.heap.size w w'))
      case atStart => exact ⟨(y216), (0), XShort.eqs, H', ⟨Nat.le_refl _⟩, ⟨by (with_reducible repeat (first | apply Kd.V_alloc | apply Kd.V_drewN | apply Kd.V_drew)); exact HO_0.out⟩, ⟨by (with_reducible repeat (first | apply Kd.R_alloc | apply Kd.R_drewN | apply Kd.R_drew)); exact Kd.R_mono HO218.out (fun _ hk => hk.1)⟩, ⟨XShort.bel⟩⟩
      case round =>
       clear H'
       try clear c2
       try clear c2b0
       try clear p2
       try clear c3
       try clear c3b0
       try clear c3b1
       try clear c4
       try clear c4b0
       try clear c4b1
       try clear c6
       obtain ⟨x4_2, x5_2, rfl, HA, HK2, HO_0, HO_4, HB⟩ := hrel
       cases gk with
       | zero => exact absurd HA.out (by simp [thistleref02_merged.l1])
       | succ k2 =>
        have H := HA.out
        clear HA
        simp only [thistleref02_merged.l1] at H
        by_cases c8 : x5_2 < (x0_1.length : Int)
        ·rw [if_pos c8] at H
         have c8b0 : decide (x5_2 < (x0_1.length : Int)) = true := decide_eq_true c8
         clear c8
         replace H := Option.bind_eq_some_iff.mp H
         obtain ⟨t219, A90, H⟩ := H
         replace H : ((thistleref02_least.f (wrap64 (x5_2 + (wrap64 (2 * x3_1)))) (x0_1.length : Int)).bind fun t220 => (thistleref02_merged.l2 k2 x0_1 x3_1 x4_2 x5_2 t219 t220 x5_2 t219)) = some r := H
         have A9 := Aside0.mk A90
         clear A90
         replace H := Option.bind_eq_some_iff.mp H
         obtain ⟨t220, A100, H⟩ := H
         replace H : (thistleref02_merged.l2 k2 x0_1 x3_1 x4_2 x5_2 t219 t220 x5_2 t219) = some r := H
         have A10 := Aside0.mk A100
         clear A100
         have H' := Aside0.mk H
         clear H
         go_wp2_with (first | (go_at_call 85; (with_reducible refine (thistleref02_least.calls (wrap64 (x5_2 + x3_1)) (x0_1.length : Int) t219 _ A9.out).mono ?_); rintro e w' ⟨rfl, ⟨nd, rfl⟩⟩; (try first | exact ⟨rfl, _, World.drewN_drewN _ _ _⟩ | exact ⟨rfl, _, Eq.trans (World.drewN_drewN _ _ _) (congrArg (World.drewN _) (Nat.add_assoc _ _ _))⟩)) | (go_at_call 85; (with_reducible refine (thistleref02_least.calls (wrap64 (x5_2 + (wrap64 (2 * x3_1)))) (x0_1.length : Int) t220 _ A10.out).mono ?_); rintro e w' ⟨rfl, ⟨nd, rfl⟩⟩; (try first | exact ⟨rfl, _, World.drewN_drewN _ _ _⟩ | exact ⟨rfl, _, Eq.trans (World.drewN_drewN _ _ _) (congrArg (World.drewN _) (Nat.add_assoc _ _ _))⟩)))
         repeat (go_quiet (first | (go_at_call 85; (with_reducible refine (thistleref02_least.calls (wrap64 (x5_2 + x3_1)) (x0_1.length : Int) t219 _ A9.out).mono ?_); rintro e w' ⟨rfl, ⟨nd, rfl⟩⟩; (try first | exact ⟨rfl, _, World.drewN_drewN _ _ _⟩ | exact ⟨rfl, _, Eq.trans (World.drewN_drewN _ _ _) (congrArg (World.drewN _) (Nat.add_assoc _ _ _))⟩)) | (go_at_call 85; (with_reducible refine (thistleref02_least.calls (wrap64 (x5_2 + (wrap64 (2 * x3_1)))) (x0_1.length : Int) t220 _ A10.out).mono ?_); rintro e w' ⟨rfl, ⟨nd, rfl⟩⟩; (try first | exact ⟨rfl, _, World.drewN_drewN _ _ _⟩ | exact ⟨rfl, _, Eq.trans (World.drewN_drewN _ _ _) (congrArg (World.drewN _) (Nat.add_assoc _ _ _))⟩))); try go_wp2_with (first | (go_at_call 85; (with_reducible refine (thistleref02_least.calls (wrap64 (x5_2 + x3_1)) (x0_1.length : Int) t219 _ A9.out).mono ?_); rintro e w' ⟨rfl, ⟨nd, rfl⟩⟩; (try first | exact ⟨rfl, _, World.drewN_drewN _ _ _⟩ | exact ⟨rfl, _, Eq.trans (World.drewN_drewN _ _ _) (congrArg (World.drewN _) (Nat.add_assoc _ _ _))⟩)) | (go_at_call 85; (with_reducible refine (thistleref02_least.calls (wrap64 (x5_2 + (wrap64 (2 * x3_1)))) (x0_1.length : Int) t220 _ A10.out).mono ?_); rintro e w' ⟨rfl, ⟨nd, rfl⟩⟩; (try first | exact ⟨rfl, _, World.drewN_drewN _ _ _⟩ | exact ⟨rfl, _, Eq.trans (World.drewN_drewN _ _ _) (congrArg (World.drewN _) (Nat.add_assoc _ _ _))⟩))))
         go_loopg [4, 8, 9] k2 (fun kq v4 v8 v9 w' => ∃ (x4_3 : List Int) (x8_3 : Int) (x9_3 : Int), v8 = .int .i64 x8_3 ∧ v9 = .int .i64 x9_3 ∧ Aside0 (thistleref02_merged.l2 kq x0_1 x3_1 x4_3 x5_2 t219 t220 x8_3 x9_3 = some r) ∧ Aside0 (kq ≤ k2) ∧ Aside0 (Kd.V (Kd.int .i64) 3 w' w.heap.size (fun k_ => (P0_ k_ ∨ w.heap.size ≤ k_) ∧ some k_ ≠ (v4 : Value).ownBlock) (.slice Ao5 x0_1.length co5) x0_1) ∧ Aside0 (Kd.R (Kd.int .i64) 3 w' w.heap.size (fun k_ => (w.heap.size ≤ k_)) v4 x4_3) ∧ Aside0 (Below w.heap.size w w'))
         case atStart => exact ⟨(x4_2), (x5_2), (t219), XShort.eqs, XShort.eqs, H', ⟨Nat.le_refl _⟩, ⟨by (with_reducible repeat (first | apply Kd.V_alloc | apply Kd.V_drewN | apply Kd.V_drew)); exact HO_0.out⟩, ⟨by (with_reducible repeat (first | apply Kd.R_alloc | apply Kd.R_drewN | apply Kd.R_drew)); exact HO_4.out⟩, ⟨XShort.bel⟩⟩
         case round =>
          clear H'
          try clear c2
          try clear c2b0
          try clear p2
          try clear c3
          try clear c3b0
          try clear c3b1
          try clear c4
          try clear c4b0
          try clear c4b1
          try clear c6
          try clear p6
          try clear c8
          try clear c8b0
          try clear p2
          obtain ⟨x4_3, x8_3, x9_3, rfl, rfl, HA, HK3, HO_0, HO_4, HB⟩ := hrel
          cases gk with
          | zero => exact absurd HA.out (by simp [thistleref02_merged.l2])
          | succ k3 =>
           have H := HA.out
           clear HA
           simp only [thistleref02_merged.l2] at H
           have HC11 := Aside0.mk H
           clear H
           go_upto_region 12 with (fail)
           repeat (go_quiet (fail); go_upto_region 12 with (fail))
           go_cut [49] (fun v49 wc => ∃ (kq : Nat) (x49_10 : Bool), v49 = .bool x49_10 ∧ Aside0 (thistleref02_merged.j3 kq x0_1 x3_1 x4_3 x5_2 t219 t220 x8_3 x9_3 x49_10 = some r) ∧ Aside0 (kq ≤ k3) ∧ Aside0 (Kd.V (Kd.int .i64) 3 wc w.heap.size (fun k_ => (P0_ k_ ∨ w.heap.size ≤ k_) ∧ some k_ ≠ (u4 : Value).ownBlock) (.slice Ao5 x0_1.length co5) x0_1) ∧ Aside0 (Kd.R (Kd.int .i64) 3 wc w.heap.size (fun k_ => (w.heap.size ≤ k_)) u4 x4_3) ∧ Aside0 (Below w.heap.size w wc))
           case first =>
            have H := HC11.out
            clear HC11
            by_cases c12 : x8_3 < t219
            ·rw [if_pos c12] at H
             have c12b0 : decide (x8_3 < t219) = true := decide_eq_true c12
             clear c12
             (first | rw [c12b0] | (simp only [i64_w, i32_w]; rw [c12b0]) | skip)
             have H' := Aside0.mk H
             clear H
             go_wp2
             repeat (go_quiet (fail); try go_wp2)
             go_meet
             case rel => exact ⟨_, (true), XShort.eqs, H', ⟨by have := HK1.out; have := HK2.out; have := HK3.out; first | omega | exact Nat.le_refl _⟩, ⟨by (with_reducible repeat (first | apply Kd.V_alloc | apply Kd.V_drewN | apply Kd.V_drew)); exact HO_0.out⟩, ⟨by (with_reducible repeat (first | apply Kd.R_alloc | apply Kd.R_drewN | apply Kd.R_drew)); exact HO_4.out⟩, ⟨XShort.bel⟩⟩
            ·rw [if_neg c12] at H
             have c12b0 : decide (x8_3 < t219) = false := decide_eq_false c12
             clear c12
             (first | rw [c12b0] | (simp only [i64_w, i32_w]; rw [c12b0]) | skip)
             have H' := Aside0.mk H
             clear H
             go_wp2
             repeat (go_quiet (fail); try go_wp2)
             go_meet
             case rel => exact ⟨_, (decide (x9_3 < t220)), XShort.eqs, H', ⟨by have := HK1.out; have := HK2.out; have := HK3.out; first | omega | exact Nat.le_refl _⟩, ⟨by (with_reducible repeat (first | apply Kd.V_alloc | apply Kd.V_drewN | apply Kd.V_drew)); exact HO_0.out⟩, ⟨by (with_reducible repeat (first | apply Kd.R_alloc | apply Kd.R_drewN | apply Kd.R_drew)); exact HO_4.out⟩, ⟨XShort.bel⟩⟩
           case rest =>
            clear HC11
            try clear c1
            try clear c2
            try clear c2b0
            try clear p2
            try clear c3
            try clear c3b0
            try clear c3b1
            try clear c4
            try clear c4b0
            try clear c4b1
            try clear c6
            try clear p6
            try clear c8
            try clear c8b0
            try clear c12
            try clear c12b0
            try clear p2
            try clear p6
            obtain ⟨kq, x49_10, rfl, HA, HJ10, HO_0, HO_4, HB⟩ := hcut
            cases kq with
            | zero => exact absurd HA.out (by simp [thistleref02_merged.j3])
            | succ kj10 =>
             have H := HA.out
             clear HA
             simp only [thistleref02_merged.j3] at H
             by_cases c13 : x49_10 = true
             ·subst c13
              have H1 : (if x9_3 = t220 then (if 0 ≤ x8_3 then (if x8_3 < (x0_1.length : Int) then (if x4_3.length < 17592186044416 then (thistleref02_merged.l2 kj10 x0_1 x3_1 (x4_3 ++ [rd x0_1 x8_3]) x5_2 t219 t220 (wrap64 (x8_3 + 1)) x9_3) else (none)) else (none)) else (none)) else (if x8_3 < t219 then (if 0 ≤ x8_3 then (if x8_3 < (x0_1.length : Int) then (if 0 ≤ x9_3 then (if x9_3 < (x0_1.length : Int) then (if (rd x0_1 x8_3) ≤ (rd x0_1 x9_3) then (if x4_3.length < 17592186044416 then (thistleref02_merged.l2 kj10 x0_1 x3_1 (x4_3 ++ [rd x0_1 x8_3]) x5_2 t219 t220 (wrap64 (x8_3 + 1)) x9_3) else (none)) else (if x4_3.length < 17592186044416 then (thistleref02_merged.l2 kj10 x0_1 x3_1 (x4_3 ++ [rd x0_1 x9_3]) x5_2 t219 t220 x8_3 (wrap64 (x9_3 + 1))) else (none))) else (none)) else (none)) else (none)) else (none)) else (if 0 ≤ x9_3 then (if x9_3 < (x0_1.length : Int) then (if x4_3.length < 17592186044416 then (thistleref02_merged.l2 kj10 x0_1 x3_1 (x4_3 ++ [rd x0_1 x9_3]) x5_2 t219 t220 x8_3 (wrap64 (x9_3 + 1))) else (none)) else (none)) else (none)))) = some r := by rw [if_pos rfl] at H; exact H
              clear H
              have H := H1
              clear H1
              by_cases c14 : x9_3 = t220
              ·rw [if_pos c14] at H
               have c14b0 : (x9_3 == t220) = true := beq_iff_eq.mpr c14
               have c14b1 : (x9_3 != t220) = false := bne_eq_false_iff_eq.mpr c14
               clear c14
               by_cases c15 : 0 ≤ x8_3
               ·rw [if_pos c15] at H
                have c15b0 : decide (0 ≤ x8_3) = true := decide_eq_true c15
                clear c15
                by_cases c16 : x8_3 < (x0_1.length : Int)
                ·rw [if_pos c16] at H
                 have c16b0 : decide (x8_3 < (x0_1.length : Int)) = true := decide_eq_true c16
                 clear c16
                 by_cases c17 : x4_3.length < 17592186044416
                 ·rw [if_pos c17] at H
                  have LMc17 := Aside0.mk c17
                  clear c17
                  obtain ⟨y222, hy222⟩ : ∃ y_ : List Int, y_ = (x4_3 ++ [rd x0_1 x8_3]) := ⟨_, rfl⟩
                  replace H : (thistleref02_merged.l2 kj10 x0_1 x3_1 y222 x5_2 t219 t220 (wrap64 (x8_3 + 1)) x9_3) = some r := by first | (rw [hy222]; with_reducible exact H) | (have H2_ := (Option.bind_some _ _).symm.trans H; rw [hy222]; with_reducible exact H2_) | (have H2_ := (Option.bind_some _ _).symm.trans H; with_reducible exact H2_) | with_reducible exact H | (rw [hy222]; exact H) | exact H
                  have Ny222 := Aside0.mk hy222
                  clear hy222
                  have H' := Aside0.mk H
                  clear H
                  have p221 : 0 ≤ (x8_3 : Int) := of_decide_eq_true XShort.asm
                  have q221 : x8_3 < (x0_1.length : Int) := of_decide_eq_true XShort.asm
                  obtain ⟨ad221, e221, hx221_0⟩ := Kd.at_int (Kd.V_reads' HO_0.out).2.2 x8_3 p221 q221
                  cases e221
                  replace p221 := eq_true p221
                  replace q221 := eq_true q221
                  go_wp2_with (first | ((with_reducible refine gate_builtin (b := .append) (xs := #[.tmp 69, .tmp 74]) rfl ?_); at_builtin; refine Kd.R_append (Kd.int .i64) (w0 := w) w.heap.size rfl (.tmp 69) (.tmp 74) 100 3 (.int .i64 0) 8 rfl Tryd.underlying100 info3 rfl (by decide) (by omega) u4 x4_3 (rd x0_1 x8_3) [.int .i64 (rd x0_1 x8_3)] (fun k_ => (w.heap.size ≤ k_)) (fun _ => False) rfl rfl ?aP (fun _ hk => hk.elim) ?aF ?aO ?aB ?aS ?aL ?_; (case aP => exact rfl); (case aB => exact XShort.bel); (case aF => exact (fun k_ hk => (Nat.le_trans (below_size XShort.bel) hk))); (case aO => exact (XShort.rr HO_4.out)); (case aS => exact (below_size XShort.bel)); (case aL => have := LMc17.out; omega); intro v223 w18 ho hb hg hat; rw [← Ny222.out] at ho; have n0_ := Aside0.mk (Kd.V_afterv (ok := (fun k_ => (P0_ k_ ∨ w.heap.size ≤ k_))) (XShort.vv HO_0.out) hg hat); have n1_ := Aside0.mk (hb); have n2_ := Aside0.mk (ho); clear HO_0; clear HB; clear HO_4; have HO_0 := n0_; have HB := n1_; have HO224 := n2_; clear n0_ n1_ n2_; clear ho hb hg hat))
                  repeat (go_quiet (first | ((with_reducible refine gate_builtin (b := .append) (xs := #[.tmp 69, .tmp 74]) rfl ?_); at_builtin; refine Kd.R_append (Kd.int .i64) (w0 := w) w.heap.size rfl (.tmp 69) (.tmp 74) 100 3 (.int .i64 0) 8 rfl Tryd.underlying100 info3 rfl (by decide) (by omega) u4 x4_3 (rd x0_1 x8_3) [.int .i64 (rd x0_1 x8_3)] (fun k_ => (w.heap.size ≤ k_)) (fun _ => False) rfl rfl ?aP (fun _ hk => hk.elim) ?aF ?aO ?aB ?aS ?aL ?_; (case aP => exact rfl); (case aB => exact XShort.bel); (case aF => exact (fun k_ hk => (Nat.le_trans (below_size XShort.bel) hk))); (case aO => exact (XShort.rr HO_4.out)); (case aS => exact (below_size XShort.bel)); (case aL => have := LMc17.out; omega); intro v223 w18 ho hb hg hat; rw [← Ny222.out] at ho; have n0_ := Aside0.mk (Kd.V_afterv (ok := (fun k_ => (P0_ k_ ∨ w.heap.size ≤ k_))) (XShort.vv HO_0.out) hg hat); have n1_ := Aside0.mk (hb); have n2_ := Aside0.mk (ho); clear HO_0; clear HB; clear HO_4; have HO_0 := n0_; have HB := n1_; have HO224 := n2_; clear n0_ n1_ n2_; clear ho hb hg hat)); try go_wp2_with (first | ((with_reducible refine gate_builtin (b := .append) (xs := #[.tmp 69, .tmp 74]) rfl ?_); at_builtin; refine Kd.R_append (Kd.int .i64) (w0 := w) w.heap.size rfl (.tmp 69) (.tmp 74) 100 3 (.int .i64 0) 8 rfl Tryd.underlying100 info3 rfl (by decide) (by omega) u4 x4_3 (rd x0_1 x8_3) [.int .i64 (rd x0_1 x8_3)] (fun k_ => (w.heap.size ≤ k_)) (fun _ => False) rfl rfl ?aP (fun _ hk => hk.elim) ?aF ?aO ?aB ?aS ?aL ?_; (case aP => exact rfl); (case aB => exact XShort.bel); (case aF => exact (fun k_ hk => (Nat.le_trans (below_size XShort.bel) hk))); (case aO => exact (XShort.rr HO_4.out)); (case aS => exact (below_size XShort.bel)); (case aL => have := LMc17.out; omega); intro v223 w18 ho hb hg hat; rw [← Ny222.out] at ho; have n0_ := Aside0.mk (Kd.V_afterv (ok := (fun k_ => (P0_ k_ ∨ w.heap.size ≤ k_))) (XShort.vv HO_0.out) hg hat); have n1_ := Aside0.mk (hb); have n2_ := Aside0.mk (ho); clear HO_0; clear HB; clear HO_4; have HO_0 := n0_; have HB := n1_; have HO224 := n2_; clear n0_ n1_ n2_; clear ho hb hg hat)))
                  go_roundg kj10
                  case measure => have := HK1.out; have := HK2.out; have := HK3.out; have := HJ10.out; omega
                  case rel => exact ⟨(y222), (wrap64 (x8_3 + 1)), (x9_3), XShort.eqs, XShort.eqs, H', ⟨by have := HK1.out; have := HK2.out; have := HK3.out; have := HJ10.out; omega⟩, ⟨by (with_reducible repeat (first | apply Kd.V_alloc | apply Kd.V_drewN | apply Kd.V_drew)); exact HO_0.out⟩, ⟨by (with_reducible repeat (first | apply Kd.R_alloc | apply Kd.R_drewN | apply Kd.R_drew)); exact HO224.out⟩, ⟨XShort.bel⟩⟩
                 ·rw [if_neg c17] at H
                  exact absurd H (by simp)
                ·rw [if_neg c16] at H
                 exact absurd H (by simp)
               ·rw [if_neg c15] at H
                exact absurd H (by simp)
              ·rw [if_neg c14] at H
               have c14b0 : (x9_3 == t220) = false := beq_eq_false_iff_ne.mpr c14
               have c14b1 : (x9_3 != t220) = true := bne_iff_ne.mpr c14
               by_cases c19 : x8_3 < t219
               ·rw [if_pos c19] at H
                have c19b0 : decide (x8_3 < t219) = true := decide_eq_true c19
                clear c19
                by_cases c20 : 0 ≤ x8_3
                ·rw [if_pos c20] at H
                 have c20b0 : decide (0 ≤ x8_3) = true := decide_eq_true c20
                 clear c20
                 by_cases c21 : x8_3 < (x0_1.length : Int)
                 ·rw [if_pos c21] at H
                  have c21b0 : decide (x8_3 < (x0_1.length : Int)) = true := decide_eq_true c21
                  clear c21
                  by_cases c22 : 0 ≤ x9_3
                  ·rw [if_pos c22] at H
                   have c22b0 : decide (0 ≤ x9_3) = true := decide_eq_true c22
                   clear c22
                   by_cases c23 : x9_3 < (x0_1.length : Int)
                   ·rw [if_pos c23] at H
                    have c23b0 : decide (x9_3 < (x0_1.length : Int)) = true := decide_eq_true c23
                    clear c23
                    by_cases c24 : (rd x0_1 x8_3) ≤ (rd x0_1 x9_3)
                    ·rw [if_pos c24] at H
                     have c24b0 : decide ((rd x0_1 x8_3) ≤ (rd x0_1 x9_3)) = true := decide_eq_true c24
                     clear c24
                     by_cases c25 : x4_3.length < 17592186044416
                     ·rw [if_pos c25] at H
                      have LMc25 := Aside0.mk c25
                      clear c25
                      obtain ⟨y228, hy228⟩ : ∃ y_ : List Int, y_ = (x4_3 ++ [rd x0_1 x8_3]) := ⟨_, rfl⟩
                      replace H : (thistleref02_merged.l2 kj10 x0_1 x3_1 y228 x5_2 t219 t220 (wrap64 (x8_3 + 1)) x9_3) = some r := by first | (rw [hy228]; with_reducible exact H) | (have H2_ := (Option.bind_some _ _).symm.trans H; rw [hy228]; with_reducible exact H2_) | (have H2_ := (Option.bind_some _ _).symm.trans H; with_reducible exact H2_) | with_reducible exact H | (rw [hy228]; exact H) | exact H
                      have Ny228 := Aside0.mk hy228
                      clear hy228
                      have H' := Aside0.mk H
                      clear H
                      have p225 : 0 ≤ (x8_3 : Int) := of_decide_eq_true XShort.asm
                      have q225 : x8_3 < (x0_1.length : Int) := of_decide_eq_true XShort.asm
                      obtain ⟨ad225, e225, hx225_0⟩ := Kd.at_int (Kd.V_reads' HO_0.out).2.2 x8_3 p225 q225
                      cases e225
                      replace p225 := eq_true p225
                      replace q225 := eq_true q225
                      have p226 : 0 ≤ (x9_3 : Int) := of_decide_eq_true XShort.asm
                      have q226 : x9_3 < (x0_1.length : Int) := of_decide_eq_true XShort.asm
                      obtain ⟨ad226, e226, hx226_0⟩ := Kd.at_int (Kd.V_reads' HO_0.out).2.2 x9_3 p226 q226
                      obtain rfl : ad225 = ad226 := (by injection e226)
                      replace p226 := eq_true p226
                      replace q226 := eq_true q226
                      have p227 : 0 ≤ (x8_3 : Int) := of_decide_eq_true XShort.asm
                      have q227 : x8_3 < (x0_1.length : Int) := of_decide_eq_true XShort.asm
                      obtain ⟨ad227, e227, hx227_0⟩ := Kd.at_int (Kd.V_reads' HO_0.out).2.2 x8_3 p227 q227
                      obtain rfl : ad225 = ad227 := (by injection e227)
                      replace p227 := eq_true p227
                      replace q227 := eq_true q227
                      go_wp2_with (first | ((with_reducible refine gate_builtin (b := .append) (xs := #[.tmp 69, .tmp 74]) rfl ?_); at_builtin; refine Kd.R_append (Kd.int .i64) (w0 := w) w.heap.size rfl (.tmp 69) (.tmp 74) 100 3 (.int .i64 0) 8 rfl Tryd.underlying100 info3 rfl (by decide) (by omega) u4 x4_3 (rd x0_1 x8_3) [.int .i64 (rd x0_1 x8_3)] (fun k_ => (w.heap.size ≤ k_)) (fun _ => False) rfl rfl ?aP (fun _ hk => hk.elim) ?aF ?aO ?aB ?aS ?aL ?_; (case aP => exact rfl); (case aB => exact XShort.bel); (case aF => exact (fun k_ hk => (Nat.le_trans (below_size XShort.bel) hk))); (case aO => exact (XShort.rr HO_4.out)); (case aS => exact (below_size XShort.bel)); (case aL => have := LMc25.out; omega); intro v229 w26 ho hb hg hat; rw [← Ny228.out] at ho; have n0_ := Aside0.mk (Kd.V_afterv (ok := (fun k_ => (P0_ k_ ∨ w.heap.size ≤ k_))) (XShort.vv HO_0.out) hg hat); have n1_ := Aside0.mk (hb); have n2_ := Aside0.mk (ho); clear HO_0; clear HB; clear HO_4; have HO_0 := n0_; have HB := n1_; have HO230 := n2_; clear n0_ n1_ n2_; clear ho hb hg hat))
                      repeat (go_quiet (first | ((with_reducible refine gate_builtin (b := .append) (xs := #[.tmp 69, .tmp 74]) rfl ?_); at_builtin; refine Kd.R_append (Kd.int .i64) (w0 := w) w.heap.size rfl (.tmp 69) (.tmp 74) 100 3 (.int .i64 0) 8 rfl Tryd.underlying100 info3 rfl (by decide) (by omega) u4 x4_3 (rd x0_1 x8_3) [.int .i64 (rd x0_1 x8_3)] (fun k_ => (w.heap.size ≤ k_)) (fun _ => False) rfl rfl ?aP (fun _ hk => hk.elim) ?aF ?aO ?aB ?aS ?aL ?_; (case aP => exact rfl); (case aB => exact XShort.bel); (case aF => exact (fun k_ hk => (Nat.le_trans (below_size XShort.bel) hk))); (case aO => exact (XShort.rr HO_4.out)); (case aS => exact (below_size XShort.bel)); (case aL => have := LMc25.out; omega); intro v229 w26 ho hb hg hat; rw [← Ny228.out] at ho; have n0_ := Aside0.mk (Kd.V_afterv (ok := (fun k_ => (P0_ k_ ∨ w.heap.size ≤ k_))) (XShort.vv HO_0.out) hg hat); have n1_ := Aside0.mk (hb); have n2_ := Aside0.mk (ho); clear HO_0; clear HB; clear HO_4; have HO_0 := n0_; have HB := n1_; have HO230 := n2_; clear n0_ n1_ n2_; clear ho hb hg hat)); try go_wp2_with (first | ((with_reducible refine gate_builtin (b := .append) (xs := #[.tmp 69, .tmp 74]) rfl ?_); at_builtin; refine Kd.R_append (Kd.int .i64) (w0 := w) w.heap.size rfl (.tmp 69) (.tmp 74) 100 3 (.int .i64 0) 8 rfl Tryd.underlying100 info3 rfl (by decide) (by omega) u4 x4_3 (rd x0_1 x8_3) [.int .i64 (rd x0_1 x8_3)] (fun k_ => (w.heap.size ≤ k_)) (fun _ => False) rfl rfl ?aP (fun _ hk => hk.elim) ?aF ?aO ?aB ?aS ?aL ?_; (case aP => exact rfl); (case aB => exact XShort.bel); (case aF => exact (fun k_ hk => (Nat.le_trans (below_size XShort.bel) hk))); (case aO => exact (XShort.rr HO_4.out)); (case aS => exact (below_size XShort.bel)); (case aL => have := LMc25.out; omega); intro v229 w26 ho hb hg hat; rw [← Ny228.out] at ho; have n0_ := Aside0.mk (Kd.V_afterv (ok := (fun k_ => (P0_ k_ ∨ w.heap.size ≤ k_))) (XShort.vv HO_0.out) hg hat); have n1_ := Aside0.mk (hb); have n2_ := Aside0.mk (ho); clear HO_0; clear HB; clear HO_4; have HO_0 := n0_; have HB := n1_; have HO230 := n2_; clear n0_ n1_ n2_; clear ho hb hg hat)))
                      go_roundg kj10
                      case measure => have := HK1.out; have := HK2.out; have := HK3.out; have := HJ10.out; omega
                      case rel => exact ⟨(y228), (wrap64 (x8_3 + 1)), (x9_3), XShort.eqs, XShort.eqs, H', ⟨by have := HK1.out; have := HK2.out; have := HK3.out; have := HJ10.out; omega⟩, ⟨by (with_reducible repeat (first | apply Kd.V_alloc | apply Kd.V_drewN | apply Kd.V_drew)); exact HO_0.out⟩, ⟨by (with_reducible repeat (first | apply Kd.R_alloc | apply Kd.R_drewN | apply Kd.R_drew)); exact HO230.out⟩, ⟨XShort.bel⟩⟩
                     ·rw [if_neg c25] at H
                      exact absurd H (by simp)
                    ·rw [if_neg c24] at H
                     have c24b0 : decide ((rd x0_1 x8_3) ≤ (rd x0_1 x9_3)) = false := decide_eq_false c24
                     clear c24
                     by_cases c27 : x4_3.length < 17592186044416
                     ·rw [if_pos c27] at H
                      have LMc27 := Aside0.mk c27
                      clear c27
                      obtain ⟨y232, hy232⟩ : ∃ y_ : List Int, y_ = (x4_3 ++ [rd x0_1 x9_3]) := ⟨_, rfl⟩
                      replace H : (thistleref02_merged.l2 kj10 x0_1 x3_1 y232 x5_2 t219 t220 x8_3 (wrap64 (x9_3 + 1))) = some r := by first | (rw [hy232]; with_reducible exact H) | (have H2_ := (Option.bind_some _ _).symm.trans H; rw [hy232]; with_reducible exact H2_) | (have H2_ := (Option.bind_some _ _).symm.trans H; with_reducible exact H2_) | with_reducible exact H | (rw [hy232]; exact H) | exact H
                      have Ny232 := Aside0.mk hy232
                      clear hy232
                      have H' := Aside0.mk H
                      clear H
                      have p225 : 0 ≤ (x8_3 : Int) := of_decide_eq_true XShort.asm
                      have q225 : x8_3 < (x0_1.length : Int) := of_decide_eq_true XShort.asm
                      obtain ⟨ad225, e225, hx225_0⟩ := Kd.at_int (Kd.V_reads' HO_0.out).2.2 x8_3 p225 q225
                      cases e225
                      replace p225 := eq_true p225
                      replace q225 := eq_true q225
                      have p226 : 0 ≤ (x9_3 : Int) := of_decide_eq_true XShort.asm
                      have q226 : x9_3 < (x0_1.length : Int) := of_decide_eq_true XShort.asm
                      obtain ⟨ad226, e226, hx226_0⟩ := Kd.at_int (Kd.V_reads' HO_0.out).2.2 x9_3 p226 q226
                      obtain rfl : ad225 = ad226 := (by injection e226)
                      replace p226 := eq_true p226
                      replace q226 := eq_true q226
                      have p231 : 0 ≤ (x9_3 : Int) := of_decide_eq_true XShort.asm
                      have q231 : x9_3 < (x0_1.length : Int) := of_decide_eq_true XShort.asm
                      obtain ⟨ad231, e231, hx231_0⟩ := Kd.at_int (Kd.V_reads' HO_0.out).2.2 x9_3 p231 q231
                      obtain rfl : ad225 = ad231 := (by injection e231)
                      replace p231 := eq_true p231
                      replace q231 := eq_true q231
                      go_wp2_with (first | ((with_reducible refine gate_builtin (b := .append) (xs := #[.tmp 78, .tmp 83]) rfl ?_); at_builtin; refine Kd.R_append (Kd.int .i64) (w0 := w) w.heap.size rfl (.tmp 78) (.tmp 83) 100 3 (.int .i64 0) 8 rfl Tryd.underlying100 info3 rfl (by decide) (by omega) u4 x4_3 (rd x0_1 x9_3) [.int .i64 (rd x0_1 x9_3)] (fun k_ => (w.heap.size ≤ k_)) (fun _ => False) rfl rfl ?aP (fun _ hk => hk.elim) ?aF ?aO ?aB ?aS ?aL ?_; (case aP => exact rfl); (case aB => exact XShort.bel); (case aF => exact (fun k_ hk => (Nat.le_trans (below_size XShort.bel) hk))); (case aO => exact (XShort.rr HO_4.out)); (case aS => exact (below_size XShort.bel)); (case aL => have := LMc27.out; omega); intro v233 w28 ho hb hg hat; rw [← Ny232.out] at ho; have n0_ := Aside0.mk (Kd.V_afterv (ok := (fun k_ => (P0_ k_ ∨ w.heap.size ≤ k_))) (XShort.vv HO_0.out) hg hat); have n1_ := Aside0.mk (hb); have n2_ := Aside0.mk (ho); clear HO_0; clear HB; clear HO_4; have HO_0 := n0_; have HB := n1_; have HO234 := n2_; clear n0_ n1_ n2_; clear ho hb hg hat))
                      repeat (go_quiet (first | ((with_reducible refine gate_builtin (b := .append) (xs := #[.tmp 78, .tmp 83]) rfl ?_); at_builtin; refine Kd.R_append (Kd.int .i64) (w0 := w) w.heap.size rfl (.tmp 78) (.tmp 83) 100 3 (.int .i64 0) 8 rfl Tryd.underlying100 info3 rfl (by decide) (by omega) u4 x4_3 (rd x0_1 x9_3) [.int .i64 (rd x0_1 x9_3)] (fun k_ => (w.heap.size ≤ k_)) (fun _ => False) rfl rfl ?aP (fun _ hk => hk.elim) ?aF ?aO ?aB ?aS ?aL ?_; (case aP => exact rfl); (case aB => exact XShort.bel); (case aF => exact (fun k_ hk => (Nat.le_trans (below_size XShort.bel) hk))); (case aO => exact (XShort.rr HO_4.out)); (case aS => exact (below_size XShort.bel)); (case aL => have := LMc27.out; omega); intro v233 w28 ho hb hg hat; rw [← Ny232.out] at ho; have n0_ := Aside0.mk (Kd.V_afterv (ok := (fun k_ => (P0_ k_ ∨ w.heap.size ≤ k_))) (XShort.vv HO_0.out) hg hat); have n1_ := Aside0.mk (hb); have n2_ := Aside0.mk (ho); clear HO_0; clear HB; clear HO_4; have HO_0 := n0_; have HB := n1_; have HO234 := n2_; clear n0_ n1_ n2_; clear ho hb hg hat)); try go_wp2_with (first | ((with_reducible refine gate_builtin (b := .append) (xs := #[.tmp 78, .tmp 83]) rfl ?_); at_builtin; refine Kd.R_append (Kd.int .i64) (w0 := w) w.heap.size rfl (.tmp 78) (.tmp 83) 100 3 (.int .i64 0) 8 rfl Tryd.underlying100 info3 rfl (by decide) (by omega) u4 x4_3 (rd x0_1 x9_3) [.int .i64 (rd x0_1 x9_3)] (fun k_ => (w.heap.size ≤ k_)) (fun _ => False) rfl rfl ?aP (fun _ hk => hk.elim) ?aF ?aO ?aB ?aS ?aL ?_; (case aP => exact rfl); (case aB => exact XShort.bel); (case aF => exact (fun k_ hk => (Nat.le_trans (below_size XShort.bel) hk))); (case aO => exact (XShort.rr HO_4.out)); (case aS => exact (below_size XShort.bel)); (case aL => have := LMc27.out; omega); intro v233 w28 ho hb hg hat; rw [← Ny232.out] at ho; have n0_ := Aside0.mk (Kd.V_afterv (ok := (fun k_ => (P0_ k_ ∨ w.heap.size ≤ k_))) (XShort.vv HO_0.out) hg hat); have n1_ := Aside0.mk (hb); have n2_ := Aside0.mk (ho); clear HO_0; clear HB; clear HO_4; have HO_0 := n0_; have HB := n1_; have HO234 := n2_; clear n0_ n1_ n2_; clear ho hb hg hat)))
                      go_roundg kj10
                      case measure => have := HK1.out; have := HK2.out; have := HK3.out; have := HJ10.out; omega
                      case rel => exact ⟨(y232), (x8_3), (wrap64 (x9_3 + 1)), XShort.eqs, XShort.eqs, H', ⟨by have := HK1.out; have := HK2.out; have := HK3.out; have := HJ10.out; omega⟩, ⟨by (with_reducible repeat (first | apply Kd.V_alloc | apply Kd.V_drewN | apply Kd.V_drew)); exact HO_0.out⟩, ⟨by (with_reducible repeat (first | apply Kd.R_alloc | apply Kd.R_drewN | apply Kd.R_drew)); exact HO234.out⟩, ⟨XShort.bel⟩⟩
                     ·rw [if_neg c27] at H
                      exact absurd H (by simp)
                   ·rw [if_neg c23] at H
                    exact absurd H (by simp)
                  ·rw [if_neg c22] at H
                   exact absurd H (by simp)
                 ·rw [if_neg c21] at H
                  exact absurd H (by simp)
                ·rw [if_neg c20] at H
                 exact absurd H (by simp)
               ·rw [if_neg c19] at H
                have c19b0 : decide (x8_3 < t219) = false := decide_eq_false c19
                clear c19
                by_cases c29 : 0 ≤ x9_3
                ·rw [if_pos c29] at H
                 have c29b0 : decide (0 ≤ x9_3) = true := decide_eq_true c29
                 clear c29
                 by_cases c30 : x9_3 < (x0_1.length : Int)
                 ·rw [if_pos c30] at H
                  have c30b0 : decide (x9_3 < (x0_1.length : Int)) = true := decide_eq_true c30
                  clear c30
                  by_cases c31 : x4_3.length < 17592186044416
                  ·rw [if_pos c31] at H
                   have LMc31 := Aside0.mk c31
                   clear c31
                   obtain ⟨y236, hy236⟩ : ∃ y_ : List Int, y_ = (x4_3 ++ [rd x0_1 x9_3]) := ⟨_, rfl⟩
                   replace H : (thistleref02_merged.l2 kj10 x0_1 x3_1 y236 x5_2 t219 t220 x8_3 (wrap64 (x9_3 + 1))) = some r := by first | (rw [hy236]; with_reducible exact H) | (have H2_ := (Option.bind_some _ _).symm.trans H; rw [hy236]; with_reducible exact H2_) | (have H2_ := (Option.bind_some _ _).symm.trans H; with_reducible exact H2_) | with_reducible exact H | (rw [hy236]; exact H) | exact H
                   have Ny236 := Aside0.mk hy236
                   clear hy236
                   have H' := Aside0.mk H
                   clear H
                   have p235 : 0 ≤ (x9_3 : Int) := of_decide_eq_true XShort.asm
                   have q235 : x9_3 < (x0_1.length : Int) := of_decide_eq_true XShort.asm
                   obtain ⟨ad235, e235, hx235_0⟩ := Kd.at_int (Kd.V_reads' HO_0.out).2.2 x9_3 p235 q235
                   cases e235
                   replace p235 := eq_true p235
                   replace q235 := eq_true q235
                   go_wp2_with (first | ((with_reducible refine gate_builtin (b := .append) (xs := #[.tmp 78, .tmp 83]) rfl ?_); at_builtin; refine Kd.R_append (Kd.int .i64) (w0 := w) w.heap.size rfl (.tmp 78) (.tmp 83) 100 3 (.int .i64 0) 8 rfl Tryd.underlying100 info3 rfl (by decide) (by omega) u4 x4_3 (rd x0_1 x9_3) [.int .i64 (rd x0_1 x9_3)] (fun k_ => (w.heap.size ≤ k_)) (fun _ => False) rfl rfl ?aP (fun _ hk => hk.elim) ?aF ?aO ?aB ?aS ?aL ?_; (case aP => exact rfl); (case aB => exact XShort.bel); (case aF => exact (fun k_ hk => (Nat.le_trans (below_size XShort.bel) hk))); (case aO => exact (XShort.rr HO_4.out)); (case aS => exact (below_size XShort.bel)); (case aL => have := LMc31.out; omega); intro v237 w32 ho hb hg hat; rw [← Ny236.out] at ho; have n0_ := Aside0.mk (Kd.V_afterv (ok := (fun k_ => (P0_ k_ ∨ w.heap.size ≤ k_))) (XShort.vv HO_0.out) hg hat); have n1_ := Aside0.mk (hb); have n2_ := Aside0.mk (ho); clear HO_0; clear HB; clear HO_4; have HO_0 := n0_; have HB := n1_; have HO238 := n2_; clear n0_ n1_ n2_; clear ho hb hg hat))
                   repeat (go_quiet (first | ((with_reducible refine gate_builtin (b := .append) (xs := #[.tmp 78, .tmp 83]) rfl ?_); at_builtin; refine Kd.R_append (Kd.int .i64) (w0 := w) w.heap.size rfl (.tmp 78) (.tmp 83) 100 3 (.int .i64 0) 8 rfl Tryd.underlying100 info3 rfl (by decide) (by omega) u4 x4_3 (rd x0_1 x9_3) [.int .i64 (rd x0_1 x9_3)] (fun k_ => (w.heap.size ≤ k_)) (fun _ => False) rfl rfl ?aP (fun _ hk => hk.elim) ?aF ?aO ?aB ?aS ?aL ?_; (case aP => exact rfl); (case aB => exact XShort.bel); (case aF => exact (fun k_ hk => (Nat.le_trans (below_size XShort.bel) hk))); (case aO => exact (XShort.rr HO_4.out)); (case aS => exact (below_size XShort.bel)); (case aL => have := LMc31.out; omega); intro v237 w32 ho hb hg hat; rw [← Ny236.out] at ho; have n0_ := Aside0.mk (Kd.V_afterv (ok := (fun k_ => (P0_ k_ ∨ w.heap.size ≤ k_))) (XShort.vv HO_0.out) hg hat); have n1_ := Aside0.mk (hb); have n2_ := Aside0.mk (ho); clear HO_0; clear HB; clear HO_4; have HO_0 := n0_; have HB := n1_; have HO238 := n2_; clear n0_ n1_ n2_; clear ho hb hg hat)); try go_wp2_with (first | ((with_reducible refine gate_builtin (b := .append) (xs := #[.tmp 78, .tmp 83]) rfl ?_); at_builtin; refine Kd.R_append (Kd.int .i64) (w0 := w) w.heap.size rfl (.tmp 78) (.tmp 83) 100 3 (.int .i64 0) 8 rfl Tryd.underlying100 info3 rfl (by decide) (by omega) u4 x4_3 (rd x0_1 x9_3) [.int .i64 (rd x0_1 x9_3)] (fun k_ => (w.heap.size ≤ k_)) (fun _ => False) rfl rfl ?aP (fun _ hk => hk.elim) ?aF ?aO ?aB ?aS ?aL ?_; (case aP => exact rfl); (case aB => exact XShort.bel); (case aF => exact (fun k_ hk => (Nat.le_trans (below_size XShort.bel) hk))); (case aO => exact (XShort.rr HO_4.out)); (case aS => exact (below_size XShort.bel)); (case aL => have := LMc31.out; omega); intro v237 w32 ho hb hg hat; rw [← Ny236.out] at ho; have n0_ := Aside0.mk (Kd.V_afterv (ok := (fun k_ => (P0_ k_ ∨ w.heap.size ≤ k_))) (XShort.vv HO_0.out) hg hat); have n1_ := Aside0.mk (hb); have n2_ := Aside0.mk (ho); clear HO_0; clear HB; clear HO_4; have HO_0 := n0_; have HB := n1_; have HO238 := n2_; clear n0_ n1_ n2_; clear ho hb hg hat)))
                   go_roundg kj10
                   case measure => have := HK1.out; have := HK2.out; have := HK3.out; have := HJ10.out; omega
                   case rel => exact ⟨(y236), (x8_3), (wrap64 (x9_3 + 1)), XShort.eqs, XShort.eqs, H', ⟨by have := HK1.out; have := HK2.out; have := HK3.out; have := HJ10.out; omega⟩, ⟨by (with_reducible repeat (first | apply Kd.V_alloc | apply Kd.V_drewN | apply Kd.V_drew)); exact HO_0.out⟩, ⟨by (with_reducible repeat (first | apply Kd.R_alloc | apply Kd.R_drewN | apply Kd.R_drew)); exact HO238.out⟩, ⟨XShort.bel⟩⟩
                  ·rw [if_neg c31] at H
                   exact absurd H (by simp)
                 ·rw [if_neg c30] at H
                  exact absurd H (by simp)
                ·rw [if_neg c29] at H
                 exact absurd H (by simp)
             ·replace c13 := Bool.eq_false_iff.mpr c13
              subst c13
              have H1 : (thistleref02_merged.l1 kj10 x0_1 x3_1 x4_3 (wrap64 (x5_2 + (wrap64 (2 * x3_1))))) = some r := by rw [if_neg (show ¬ (false = true) by decide)] at H; exact H
              clear H
              have H := H1
              clear H1
              have H' := Aside0.mk H
              clear H
              go_wp2
              repeat (go_quiet (fail); try go_wp2)
              go_roundg kj10
              case measure => have := HK1.out; have := HK2.out; have := HK3.out; have := HJ10.out; omega
              case rel => exact ⟨(x4_3), (wrap64 (x5_2 + (wrap64 (2 * x3_1)))), XShort.eqs, H', ⟨by have := HK1.out; have := HK2.out; have := HK3.out; have := HJ10.out; omega⟩, ⟨by (with_reducible repeat (first | apply Kd.V_alloc | apply Kd.V_drewN | apply Kd.V_drew)); exact HO_0.out⟩, ⟨by (with_reducible repeat (first | apply Kd.R_alloc | apply Kd.R_drewN | apply Kd.R_drew)); exact HO_4.out⟩, ⟨XShort.bel⟩⟩
        ·rw [if_neg c8] at H
         have c8b0 : decide (x5_2 < (x0_1.length : Int)) = false := decide_eq_false c8
         clear c8
         have H' := Aside0.mk H
         clear H
         go_wp2
         repeat (go_quiet (fail); try go_wp2)
         go_roundg k2
         case measure => have := HK1.out; have := HK2.out; omega
         case rel => exact ⟨(x4_2), (wrap64 (2 * x3_1)), XShort.eqs, H', ⟨by have := HK1.out; have := HK2.out; omega⟩, ⟨Kd.V_mono (Kd.R_V (XShort.rr HO_4.out)) (fun k_ hk => by first | exact ⟨(.inr (hk.1)), hk.2⟩ | exact (.inr (hk)))⟩, ⟨XShort.bel⟩⟩
     ·rw [if_neg c4] at H
      exact absurd H (by simp)
    ·rw [if_neg c3] at H
     exact absurd H (by simp)
   ·rw [if_neg c2] at H
    have c2b0 : decide (x3_1 < (x0_1.length : Int)) = false := decide_eq_false c2
    clear c2
    obtain rfl := Option.some.inj H
    obtain ⟨Ao33, co33, eo33⟩ := Kd.V_slice HO_0.out
    subst eo33
    go_wp2
    repeat (go_quiet (fail); try go_wp2)
    go_ret
    exact ⟨_, by first | rfl | (simp [errW_none, errW_some] <;> rfl) | (simp [*, errW_none, errW_some] <;> rfl), by (with_reducible repeat (first | apply Kd.V_alloc | apply Kd.V_drewN | apply Kd.V_drew)); exact HO_0.out, XShort.bel⟩

/-! ### thistleref02_sorted: function 65 -/
def thistleref02_sorted.l0 : Nat → List Int → List Int → Int → Option (List Int)
 | 0, _, _, _ => none
 | k + 1, x0, x3, x4 => if x4 < (x0.length : Int) then (if x4 = 0 then (if 0 ≤ x4 then (if x3.length < 17592186044416 then (thistleref02_sorted.l0 k x0 (x3 ++ [rd x0 x4]) (wrap64 (x4 + 1))) else (none)) else (none)) else (if 0 ≤ x4 then (if 0 ≤ (wrap64 (x4 - 1)) then (if (wrap64 (x4 - 1)) < (x0.length : Int) then (if (rd x0 x4) = (rd x0 (wrap64 (x4 - 1))) then (thistleref02_sorted.l0 k x0 x3 (wrap64 (x4 + 1))) else (if x3.length < 17592186044416 then (thistleref02_sorted.l0 k x0 (x3 ++ [rd x0 x4]) (wrap64 (x4 + 1))) else (none))) else (none)) else (none)) else (none))) else (some x3)
def thistleref02_sorted.f (k : Nat) (l0 : List Int) : Option (List Int) := (thistleref02_merged.f k l0).bind fun t239 => (thistleref02_sorted.l0 k t239 ([] : List Int) 0)
theorem thistleref02_sorted.mono_l : ∀ k, (∀ y0 y1 y2, LeO (thistleref02_sorted.l0 k y0 y1 y2) (thistleref02_sorted.l0 (k + 1) y0 y1 y2))
 | 0 => fun _ _ _ r h => by simp [thistleref02_sorted.l0] at h
 | k + 1 => by
  have ih0 := thistleref02_sorted.mono_l k
  ·intro y0 y1 y2
   unfold thistleref02_sorted.l0
   repeat' first
   | (with_reducible exact ih0 _ _ _)
   | (with_reducible exact thistleref02_merged.mono _ _)
   | (with_reducible exact LeO.refl _)
   | (with_reducible exact LeO.none _)
   | (with_reducible refine LeO.ite ?_ ?_)
   | (with_reducible refine LeO.bind ?_ (fun _ => ?_))
   | exact ih0 _ _ _
   | exact thistleref02_merged.mono _ _
   | exact LeO.none _
   | refine LeO.ite ?_ ?_
   | refine LeO.bind ?_ (fun _ => ?_)
theorem thistleref02_sorted.mono : ∀ a0 k, LeO (thistleref02_sorted.f k a0) (thistleref02_sorted.f (k + 1) a0) := by
 intro a0 k
 have ih0 := thistleref02_sorted.mono_l k
 unfold thistleref02_sorted.f
 repeat' first
   | (with_reducible exact ih0 _ _ _)
   | (with_reducible exact thistleref02_merged.mono _ _)
   | (with_reducible exact LeO.refl _)
   | (with_reducible exact LeO.none _)
   | (with_reducible refine LeO.ite ?_ ?_)
   | (with_reducible refine LeO.bind ?_ (fun _ => ?_))
   | exact ih0 _ _ _
   | exact thistleref02_merged.mono _ _
   | exact LeO.none _
   | refine LeO.ite ?_ ?_
   | refine LeO.bind ?_ (fun _ => ?_)
set_option maxHeartbeats 8000000 in
set_option maxRecDepth 100000 in
theorem thistleref02_sorted.calls (k : Nat) (A0 : Option Addr) (c0 : Nat) (l0 : List Int) (r : List Int) (w : World) (hr0 : Kd.C (Kd.int .i64) w A0 l0.length l0) (hc0 : l0.length ≤ c0) (h : thistleref02_sorted.f k l0 = some r) :
  Calls Tryd.prog 65 #[.slice A0 l0.length c0] w fun e w' => ∃ v0_ : Value, e = .returned (v0_) ∧ Kd.R (Kd.int .i64) 3 w' w.heap.size (fun _ => True) v0_ r ∧ Below w.heap.size w w' := by
 have HR0 := Aside0.mk hr0
 have HC0 := Aside0.mk hc0
 clear hr0 hc0
 have HB := Aside0.mk (Below.refl w.heap.size w)
 have H : ((thistleref02_merged.f k l0).bind fun t239 => (thistleref02_sorted.l0 k t239 ([] : List Int) 0)) = some r := h
 clear h
 replace H := Option.bind_eq_some_iff.mp H
 obtain ⟨t239, A20, H⟩ := H
 replace H : (thistleref02_sorted.l0 k t239 ([] : List Int) 0) = some r := H
 have A2 := Aside0.mk A20
 clear A20
 have H' := Aside0.mk H
 clear H
 go_enter Tryd.func65, Tryd.ntmps65
 go_wp2_with (first | (go_at_call 66; (with_reducible refine (thistleref02_merged.calls k (fun k_ => k_ < w.heap.size) _ _ l0 t239 _ ?side1 A2.out).mono ?_); (case side1 => exact Kd.V_mk HC0.out (Kd.F_below (Kd.C_F (Kd.heap_int .i64) HR0.out) XShort.bel)); rintro e w3 ⟨v240, rfl, ho0, hb⟩; have n0_ := Aside0.mk (Kd.V_lower (Kd.V_mono (ok' := fun k_ => True) ho0 (fun k_ hk_ => trivial)) (below_size XShort.bel)); have n1_ := Aside0.mk (below_step XShort.bel hb); clear HB; have HO241 := n0_; have HB := n1_; clear n0_ n1_; (try clear hb); (try clear hb2); (try clear hk); (try clear hi); (try clear ho0)))
 repeat (go_quiet (first | (go_at_call 66; (with_reducible refine (thistleref02_merged.calls k (fun k_ => k_ < w.heap.size) _ _ l0 t239 _ ?side1 A2.out).mono ?_); (case side1 => exact Kd.V_mk HC0.out (Kd.F_below (Kd.C_F (Kd.heap_int .i64) HR0.out) XShort.bel)); rintro e w3 ⟨v240, rfl, ho0, hb⟩; have n0_ := Aside0.mk (Kd.V_lower (Kd.V_mono (ok' := fun k_ => True) ho0 (fun k_ hk_ => trivial)) (below_size XShort.bel)); have n1_ := Aside0.mk (below_step XShort.bel hb); clear HB; have HO241 := n0_; have HB := n1_; clear n0_ n1_; (try clear hb); (try clear hb2); (try clear hk); (try clear hi); (try clear ho0))); try go_wp2_with (first | (go_at_call 66; (with_reducible refine (thistleref02_merged.calls k (fun k_ => k_ < w.heap.size) _ _ l0 t239 _ ?side1 A2.out).mono ?_); (case side1 => exact Kd.V_mk HC0.out (Kd.F_below (Kd.C_F (Kd.heap_int .i64) HR0.out) XShort.bel)); rintro e w3 ⟨v240, rfl, ho0, hb⟩; have n0_ := Aside0.mk (Kd.V_lower (Kd.V_mono (ok' := fun k_ => True) ho0 (fun k_ hk_ => trivial)) (below_size XShort.bel)); have n1_ := Aside0.mk (below_step XShort.bel hb); clear HB; have HO241 := n0_; have HB := n1_; clear n0_ n1_; (try clear hb); (try clear hb2); (try clear hk); (try clear hi); (try clear ho0))))
 go_loopg [3, 4] k (fun kq v3 v4 w' => ∃ (x3_1 : List Int) (x4_1 : Int), v4 = .int .i64 x4_1 ∧ Aside0 (thistleref02_sorted.l0 kq t239 x3_1 x4_1 = some r) ∧ Aside0 (kq ≤ k) ∧ Aside0 (Kd.V (Kd.int .i64) 3 w' w.heap.size (fun k_ => some k_ ≠ (v3 : Value).ownBlock) v240 t239) ∧ Aside0 (Kd.R (Kd.int .i64) 3 w' w.heap.size (fun _ => True) v3 x3_1) ∧ Aside0 (Below w.heap.size w w'))
 case atStart => exact ⟨(([] : List Int)), (0), XShort.eqs, H', ⟨Nat.le_refl _⟩, ⟨by (with_reducible repeat (first | apply Kd.V_alloc | apply Kd.V_drewN | apply Kd.V_drew)); exact Kd.V_mono HO241.out (fun _ hk => (by simp [Value.ownBlock]))⟩, ⟨by first | exact Kd.R_nil _ _ _ _ _ | exact Kd.N_nil _ _ _ _ _ | exact Kd.V_nil _ _ _ _ _ | exact Kd.Q_nil _ _ _ _ _ | exact Kd.S_nil _ _ _ _ _⟩, ⟨XShort.bel⟩⟩
 case round =>
  clear H'
  try clear p2
  obtain ⟨x3_1, x4_1, rfl, HA, HK1, HO_0, HO_3, HB⟩ := hrel
  cases gk with
  | zero => exact absurd HA.out (by simp [thistleref02_sorted.l0])
  | succ k1 =>
   have H := HA.out
   clear HA
   simp only [thistleref02_sorted.l0] at H
   by_cases c4 : x4_1 < (t239.length : Int)
   ·rw [if_pos c4] at H
    have c4b0 : decide (x4_1 < (t239.length : Int)) = true := decide_eq_true c4
    clear c4
    by_cases c5 : x4_1 = 0
    ·rw [if_pos c5] at H
     have c5b0 : (x4_1 == 0) = true := beq_iff_eq.mpr c5
     have c5b1 : (x4_1 != 0) = false := bne_eq_false_iff_eq.mpr c5
     clear c5
     by_cases c6 : 0 ≤ x4_1
     ·rw [if_pos c6] at H
      have c6b0 : decide (0 ≤ x4_1) = true := decide_eq_true c6
      clear c6
      by_cases c7 : x3_1.length < 17592186044416
      ·rw [if_pos c7] at H
       have LMc7 := Aside0.mk c7
       clear c7
       obtain ⟨y243, hy243⟩ : ∃ y_ : List Int, y_ = (x3_1 ++ [rd t239 x4_1]) := ⟨_, rfl⟩
       replace H : (thistleref02_sorted.l0 k1 t239 y243 (wrap64 (x4_1 + 1))) = some r := by first | (rw [hy243]; with_reducible exact H) | (have H2_ := (Option.bind_some _ _).symm.trans H; rw [hy243]; with_reducible exact H2_) | (have H2_ := (Option.bind_some _ _).symm.trans H; with_reducible exact H2_) | with_reducible exact H | (rw [hy243]; exact H) | exact H
       have Ny243 := Aside0.mk hy243
       clear hy243
       have H' := Aside0.mk H
       clear H
       obtain ⟨Ao8, co8, eo8⟩ := Kd.V_slice HO_0.out
       subst eo8
       have p242 : 0 ≤ (x4_1 : Int) := of_decide_eq_true XShort.asm
       have q242 : x4_1 < (t239.length : Int) := of_decide_eq_true XShort.asm
       obtain ⟨ad242, e242, hx242_0⟩ := Kd.at_int (Kd.V_reads' HO_0.out).2.2 x4_1 p242 q242
       cases e242
       replace p242 := eq_true p242
       replace q242 := eq_true q242
       go_wp2_with (first | ((with_reducible refine gate_builtin (b := .append) (xs := #[.tmp 27, .tmp 32]) rfl ?_); at_builtin; refine Kd.R_append (Kd.int .i64) (w0 := w) w.heap.size rfl (.tmp 27) (.tmp 32) 100 3 (.int .i64 0) 8 rfl Tryd.underlying100 info3 rfl (by decide) (by omega) u3 x3_1 (rd t239 x4_1) [.int .i64 (rd t239 x4_1)] (fun _ => True) (fun _ => False) rfl rfl ?aP (fun _ hk => hk.elim) ?aF ?aO ?aB ?aS ?aL ?_; (case aP => exact rfl); (case aB => exact XShort.bel); (case aF => exact (fun _ _ => trivial)); (case aO => exact (XShort.rr HO_3.out)); (case aS => exact (below_size XShort.bel)); (case aL => have := LMc7.out; omega); intro v244 w9 ho hb hg hat; rw [← Ny243.out] at ho; have n0_ := Aside0.mk (Kd.V_afterv (ok := (fun _ => True)) (by (with_reducible repeat (first | apply Kd.V_alloc | apply Kd.V_drewN | apply Kd.V_drew)); exact Kd.V_mono HO_0.out (fun _ hk => ⟨trivial, hk⟩)) hg hat); have n1_ := Aside0.mk (hb); have n2_ := Aside0.mk (ho); clear HO_0; clear HB; clear HO_3; have HO_0 := n0_; have HB := n1_; have HO245 := n2_; clear n0_ n1_ n2_; clear ho hb hg hat))
       repeat (go_quiet (first | ((with_reducible refine gate_builtin (b := .append) (xs := #[.tmp 27, .tmp 32]) rfl ?_); at_builtin; refine Kd.R_append (Kd.int .i64) (w0 := w) w.heap.size rfl (.tmp 27) (.tmp 32) 100 3 (.int .i64 0) 8 rfl Tryd.underlying100 info3 rfl (by decide) (by omega) u3 x3_1 (rd t239 x4_1) [.int .i64 (rd t239 x4_1)] (fun _ => True) (fun _ => False) rfl rfl ?aP (fun _ hk => hk.elim) ?aF ?aO ?aB ?aS ?aL ?_; (case aP => exact rfl); (case aB => exact XShort.bel); (case aF => exact (fun _ _ => trivial)); (case aO => exact (XShort.rr HO_3.out)); (case aS => exact (below_size XShort.bel)); (case aL => have := LMc7.out; omega); intro v244 w9 ho hb hg hat; rw [← Ny243.out] at ho; have n0_ := Aside0.mk (Kd.V_afterv (ok := (fun _ => True)) (by (with_reducible repeat (first | apply Kd.V_alloc | apply Kd.V_drewN | apply Kd.V_drew)); exact Kd.V_mono HO_0.out (fun _ hk => ⟨trivial, hk⟩)) hg hat); have n1_ := Aside0.mk (hb); have n2_ := Aside0.mk (ho); clear HO_0; clear HB; clear HO_3; have HO_0 := n0_; have HB := n1_; have HO245 := n2_; clear n0_ n1_ n2_; clear ho hb hg hat)); try go_wp2_with (first | ((with_reducible refine gate_builtin (b := .append) (xs := #[.tmp 27, .tmp 32]) rfl ?_); at_builtin; refine Kd.R_append (Kd.int .i64) (w0 := w) w.heap.size rfl (.tmp 27) (.tmp 32) 100 3 (.int .i64 0) 8 rfl Tryd.underlying100 info3 rfl (by decide) (by omega) u3 x3_1 (rd t239 x4_1) [.int .i64 (rd t239 x4_1)] (fun _ => True) (fun _ => False) rfl rfl ?aP (fun _ hk => hk.elim) ?aF ?aO ?aB ?aS ?aL ?_; (case aP => exact rfl); (case aB => exact XShort.bel); (case aF => exact (fun _ _ => trivial)); (case aO => exact (XShort.rr HO_3.out)); (case aS => exact (below_size XShort.bel)); (case aL => have := LMc7.out; omega); intro v244 w9 ho hb hg hat; rw [← Ny243.out] at ho; have n0_ := Aside0.mk (Kd.V_afterv (ok := (fun _ => True)) (by (with_reducible repeat (first | apply Kd.V_alloc | apply Kd.V_drewN | apply Kd.V_drew)); exact Kd.V_mono HO_0.out (fun _ hk => ⟨trivial, hk⟩)) hg hat); have n1_ := Aside0.mk (hb); have n2_ := Aside0.mk (ho); clear HO_0; clear HB; clear HO_3; have HO_0 := n0_; have HB := n1_; have HO245 := n2_; clear n0_ n1_ n2_; clear ho hb hg hat)))
       go_roundg k1
       case measure => have := HK1.out; omega
       case rel => exact ⟨(y243), (wrap64 (x4_1 + 1)), XShort.eqs, H', ⟨by have := HK1.out; omega⟩, ⟨by (with_reducible repeat (first | apply Kd.V_alloc | apply Kd.V_drewN | apply Kd.V_drew)); exact Kd.V_mono HO_0.out (fun _ hk => hk.2)⟩, ⟨by (with_reducible repeat (first | apply Kd.R_alloc | apply Kd.R_drewN | apply Kd.R_drew)); exact HO245.out⟩, ⟨XShort.bel⟩⟩
      ·rw [if_neg c7] at H
       exact absurd H (by simp)
     ·rw [if_neg c6] at H
      exact absurd H (by simp)
    ·rw [if_neg c5] at H
     have c5b0 : (x4_1 == 0) = false := beq_eq_false_iff_ne.mpr c5
     have c5b1 : (x4_1 != 0) = true := bne_iff_ne.mpr c5
     by_cases c10 : 0 ≤ x4_1
     ·rw [if_pos c10] at H
      have c10b0 : decide (0 ≤ x4_1) = true := decide_eq_true c10
      clear c10
      obtain ⟨ji11, hji11⟩ : ∃ j_ : Int, (wrap64 (x4_1 - 1)) = j_ := ⟨_, rfl⟩
      replace H : (if 0 ≤ (ji11) then (if (ji11) < (t239.length : Int) then (if (rd t239 x4_1) = (rd t239 (ji11)) then (thistleref02_sorted.l0 k1 t239 x3_1 (wrap64 (x4_1 + 1))) else (if x3_1.length < 17592186044416 then (thistleref02_sorted.l0 k1 t239 (x3_1 ++ [rd t239 x4_1]) (wrap64 (x4_1 + 1))) else (none))) else (none)) else (none)) = some r := by first | (rw [hji11] at H; exact H) | (simp only [hji11] at H ⊢; exact H)
      have hji11w : (IntKind.i64.wrap (x4_1 - 1)) = ji11 := (i64_w _).trans hji11
      by_cases c12 : 0 ≤ (ji11)
      ·rw [if_pos c12] at H
       have c12b0 : decide (0 ≤ (ji11)) = true := decide_eq_true c12
       clear c12
       by_cases c13 : (ji11) < (t239.length : Int)
       ·rw [if_pos c13] at H
        have c13b0 : decide ((ji11) < (t239.length : Int)) = true := decide_eq_true c13
        clear c13
        by_cases c14 : (rd t239 x4_1) = (rd t239 (ji11))
        ·rw [if_pos c14] at H
         have c14b0 : ((rd t239 x4_1) == (rd t239 (ji11))) = true := beq_iff_eq.mpr c14
         have c14b1 : ((rd t239 x4_1) != (rd t239 (ji11))) = false := bne_eq_false_iff_eq.mpr c14
         clear c14
         have H' := Aside0.mk H
         clear H
         obtain ⟨Ao15, co15, eo15⟩ := Kd.V_slice HO_0.out
         subst eo15
         have p246 : 0 ≤ (x4_1 : Int) := of_decide_eq_true XShort.asm
         have q246 : x4_1 < (t239.length : Int) := of_decide_eq_true XShort.asm
         obtain ⟨ad246, e246, hx246_0⟩ := Kd.at_int (Kd.V_reads' HO_0.out).2.2 x4_1 p246 q246
         cases e246
         replace p246 := eq_true p246
         replace q246 := eq_true q246
         have p247 : 0 ≤ ((ji11) : Int) := of_decide_eq_true XShort.asm
         have q247 : (ji11) < (t239.length : Int) := of_decide_eq_true XShort.asm
         obtain ⟨ad247, e247, hx247_0⟩ := Kd.at_int (Kd.V_reads' HO_0.out).2.2 (ji11) p247 q247
         obtain rfl : ad246 = ad247 := (by injection e247)
         replace p247 := eq_true p247
         replace q247 := eq_true q247
         go_wp2
         repeat (go_quiet (fail); try go_wp2)
         go_roundg k1
         case measure => have := HK1.out; omega
         case rel => exact ⟨(x3_1), (wrap64 (x4_1 + 1)), XShort.eqs, H', ⟨by have := HK1.out; omega⟩, ⟨by (with_reducible repeat (first | apply Kd.V_alloc | apply Kd.V_drewN | apply Kd.V_drew)); exact HO_0.out⟩, ⟨by (with_reducible repeat (first | apply Kd.R_alloc | apply Kd.R_drewN | apply Kd.R_drew)); exact HO_3.out⟩, ⟨XShort.bel⟩⟩
        ·rw [if_neg c14] at H
         have c14b0 : ((rd t239 x4_1) == (rd t239 (ji11))) = false := beq_eq_false_iff_ne.mpr c14
         have c14b1 : ((rd t239 x4_1) != (rd t239 (ji11))) = true := bne_iff_ne.mpr c14
         by_cases c16 : x3_1.length < 17592186044416
         ·rw [if_pos c16] at H
          have LMc16 := Aside0.mk c16
          clear c16
          obtain ⟨y249, hy249⟩ : ∃ y_ : List Int, y_ = (x3_1 ++ [rd t239 x4_1]) := ⟨_, rfl⟩
          replace H : (thistleref02_sorted.l0 k1 t239 y249 (wrap64 (x4_1 + 1))) = some r := by first | (rw [hy249]; with_reducible exact H) | (have H2_ := (Option.bind_some _ _).symm.trans H; rw [hy249]; with_reducible exact H2_) | (have H2_ := (Option.bind_some _ _).symm.trans H; with_reducible exact H2_) | with_reducible exact H | (rw [hy249]; exact H) | exact H
          have Ny249 := Aside0.mk hy249
          clear hy249
          have H' := Aside0.mk H
          clear H
          obtain ⟨Ao17, co17, eo17⟩ := Kd.V_slice HO_0.out
          subst eo17
          have p246 : 0 ≤ (x4_1 : Int) := of_decide_eq_true XShort.asm
          have q246 : x4_1 < (t239.length : Int) := of_decide_eq_true XShort.asm
          obtain ⟨ad246, e246, hx246_0⟩ := Kd.at_int (Kd.V_reads' HO_0.out).2.2 x4_1 p246 q246
          cases e246
          replace p246 := eq_true p246
          replace q246 := eq_true q246
          have p247 : 0 ≤ ((ji11) : Int) := of_decide_eq_true XShort.asm
          have q247 : (ji11) < (t239.length : Int) := of_decide_eq_true XShort.asm
          obtain ⟨ad247, e247, hx247_0⟩ := Kd.at_int (Kd.V_reads' HO_0.out).2.2 (ji11) p247 q247
          obtain rfl : ad246 = ad247 := (by injection e247)
          replace p247 := eq_true p247
          replace q247 := eq_true q247
          have p248 : 0 ≤ (x4_1 : Int) := of_decide_eq_true XShort.asm
          have q248 : x4_1 < (t239.length : Int) := of_decide_eq_true XShort.asm
          obtain ⟨ad248, e248, hx248_0⟩ := Kd.at_int (Kd.V_reads' HO_0.out).2.2 x4_1 p248 q248
          obtain rfl : ad246 = ad248 := (by injection e248)
          replace p248 := eq_true p248
          replace q248 := eq_true q248
          go_wp2_with (first | ((with_reducible refine gate_builtin (b := .append) (xs := #[.tmp 27, .tmp 32]) rfl ?_); at_builtin; refine Kd.R_append (Kd.int .i64) (w0 := w) w.heap.size rfl (.tmp 27) (.tmp 32) 100 3 (.int .i64 0) 8 rfl Tryd.underlying100 info3 rfl (by decide) (by omega) u3 x3_1 (rd t239 x4_1) [.int .i64 (rd t239 x4_1)] (fun _ => True) (fun _ => False) rfl rfl ?aP (fun _ hk => hk.elim) ?aF ?aO ?aB ?aS ?aL ?_; (case aP => exact rfl); (case aB => exact XShort.bel); (case aF => exact (fun _ _ => trivial)); (case aO => exact (XShort.rr HO_3.out)); (case aS => exact (below_size XShort.bel)); (case aL => have := LMc16.out; omega); intro v250 w18 ho hb hg hat; rw [← Ny249.out] at ho; have n0_ := Aside0.mk (Kd.V_afterv (ok := (fun _ => True)) (by (with_reducible repeat (first | apply Kd.V_alloc | apply Kd.V_drewN | apply Kd.V_drew)); exact Kd.V_mono HO_0.out (fun _ hk => ⟨trivial, hk⟩)) hg hat); have n1_ := Aside0.mk (hb); have n2_ := Aside0.mk (ho); clear HO_0; clear HB; clear HO_3; have HO_0 := n0_; have HB := n1_; have HO251 := n2_; clear n0_ n1_ n2_; clear ho hb hg hat))
          repeat (go_quiet (first | ((with_reducible refine gate_builtin (b := .append) (xs := #[.tmp 27, .tmp 32]) rfl ?_); at_builtin; refine Kd.R_append (Kd.int .i64) (w0 := w) w.heap.size rfl (.tmp 27) (.tmp 32) 100 3 (.int .i64 0) 8 rfl Tryd.underlying100 info3 rfl (by decide) (by omega) u3 x3_1 (rd t239 x4_1) [.int .i64 (rd t239 x4_1)] (fun _ => True) (fun _ => False) rfl rfl ?aP (fun _ hk => hk.elim) ?aF ?aO ?aB ?aS ?aL ?_; (case aP => exact rfl); (case aB => exact XShort.bel); (case aF => exact (fun _ _ => trivial)); (case aO => exact (XShort.rr HO_3.out)); (case aS => exact (below_size XShort.bel)); (case aL => have := LMc16.out; omega); intro v250 w18 ho hb hg hat; rw [← Ny249.out] at ho; have n0_ := Aside0.mk (Kd.V_afterv (ok := (fun _ => True)) (by (with_reducible repeat (first | apply Kd.V_alloc | apply Kd.V_drewN | apply Kd.V_drew)); exact Kd.V_mono HO_0.out (fun _ hk => ⟨trivial, hk⟩)) hg hat); have n1_ := Aside0.mk (hb); have n2_ := Aside0.mk (ho); clear HO_0; clear HB; clear HO_3; have HO_0 := n0_; have HB := n1_; have HO251 := n2_; clear n0_ n1_ n2_; clear ho hb hg hat)); try go_wp2_with (first | ((with_reducible refine gate_builtin (b := .append) (xs := #[.tmp 27, .tmp 32]) rfl ?_); at_builtin; refine Kd.R_append (Kd.int .i64) (w0 := w) w.heap.size rfl (.tmp 27) (.tmp 32) 100 3 (.int .i64 0) 8 rfl Tryd.underlying100 info3 rfl (by decide) (by omega) u3 x3_1 (rd t239 x4_1) [.int .i64 (rd t239 x4_1)] (fun _ => True) (fun _ => False) rfl rfl ?aP (fun _ hk => hk.elim) ?aF ?aO ?aB ?aS ?aL ?_; (case aP => exact rfl); (case aB => exact XShort.bel); (case aF => exact (fun _ _ => trivial)); (case aO => exact (XShort.rr HO_3.out)); (case aS => exact (below_size XShort.bel)); (case aL => have := LMc16.out; omega); intro v250 w18 ho hb hg hat; rw [← Ny249.out] at ho; have n0_ := Aside0.mk (Kd.V_afterv (ok := (fun _ => True)) (by (with_reducible repeat (first | apply Kd.V_alloc | apply Kd.V_drewN | apply Kd.V_drew)); exact Kd.V_mono HO_0.out (fun _ hk => ⟨trivial, hk⟩)) hg hat); have n1_ := Aside0.mk (hb); have n2_ := Aside0.mk (ho); clear HO_0; clear HB; clear HO_3; have HO_0 := n0_; have HB := n1_; have HO251 := n2_; clear n0_ n1_ n2_; clear ho hb hg hat)))
          go_roundg k1
          case measure => have := HK1.out; omega
          case rel => exact ⟨(y249), (wrap64 (x4_1 + 1)), XShort.eqs, H', ⟨by have := HK1.out; omega⟩, ⟨by (with_reducible repeat (first | apply Kd.V_alloc | apply Kd.V_drewN | apply Kd.V_drew)); exact Kd.V_mono HO_0.out (fun _ hk => hk.2)⟩, ⟨by (with_reducible repeat (first | apply Kd.R_alloc | apply Kd.R_drewN | apply Kd.R_drew)); exact HO251.out⟩, ⟨XShort.bel⟩⟩
         ·rw [if_neg c16] at H
          exact absurd H (by simp)
       ·rw [if_neg c13] at H
        exact absurd H (by simp)
      ·rw [if_neg c12] at H
       exact absurd H (by simp)
     ·rw [if_neg c10] at H
      exact absurd H (by simp)
   ·rw [if_neg c4] at H
    have c4b0 : decide (x4_1 < (t239.length : Int)) = false := decide_eq_false c4
    clear c4
    obtain rfl := Option.some.inj H
    obtain ⟨Ao19, co19, eo19⟩ := Kd.V_slice HO_0.out
    subst eo19
    go_wp2
    repeat (go_quiet (fail); try go_wp2)
    go_ret
    exact ⟨_, by first | rfl | (simp [errW_none, errW_some] <;> rfl) | (simp [*, errW_none, errW_some] <;> rfl), by (with_reducible repeat (first | apply Kd.R_alloc | apply Kd.R_drewN | apply Kd.R_drew)); exact HO_3.out, XShort.bel⟩

end Go.Proofs.YtcpjflgiimjfmaaDoor.XF
