/- WRITTEN BY A PROGRAM OF THIS SESSION (wip/tools/xprint.py, over the kit's printer): contracts of the functions that the seat's laws reach. -/
import Derived.Test.YtcpjflgiimjfmaaDoorXLibShort
import Derived.Test.YtcpjflgiimjfmaaDoorXF0
import Derived.Test.YtcpjflgiimjfmaaDoorXF6
import Derived.Test.YtcpjflgiimjfmaaDoorXF7
import Derived.Test.YtcpjflgiimjfmaaDoorXF8
import Derived.Test.YtcpjflgiimjfmaaDoorXF10
import Derived.Test.YtcpjflgiimjfmaaDoorXF11
namespace Go.Proofs.YtcpjflgiimjfmaaDoor.XF
open Go.Proofs.YtcpjflgiimjfmaaDoor.XShort (o i)
open Go.RowKit Go.Proofs.YtcpjflgiimjfmaaDoorW.PrintWords Go.Proofs.YtcpjflgiimjfmaaDoorW.PrintLast Go.Proofs.YtcpjflgiimjfmaaDoorW.PrintMore
attribute [local go_sem] max2_int min2_int max_two min_two max_three min_three max_four min_four
set_option linter.unusedVariables false
set_option linter.unusedSimpArgs false

/-! ### thistleref02_Make: function 21 -/
mutual
def thistleref02_Make.l0 : Nat → List (S41) → Int → Option ((List (S41)) × Int)
 | 0, _, _ => none
 | k + 1, x0, x4 => if x4 < (x0.length : Int) then (if 0 ≤ x4 then (if ((rd_T41 x0 x4).f0) > ((rd_T41 x0 x4).f1) then (some (([] : List (S41)), 2)) else (thistleref02_Make.l0 k x0 (wrap64 (x4 + 1)))) else (none)) else ((thistleref02_pieces.f k (([x0] : List (List (S41))))).bind fun t323 => ((thistleref02_inside.f k x0 t323).bind fun t326 => (thistleref02_Make.l1 k ([] : List (S41)) t323 t326 0)))
def thistleref02_Make.l1 : Nat → List (S41) → List (S73) → List Bool → Int → Option ((List (S41)) × Int)
 | 0, _, _, _, _ => none
 | k + 1, x5, x6, x7, x8 => if x8 < (x6.length : Int) then (if 0 ≤ x8 then (if x8 < (x7.length : Int) then (if rdOf false x7 x8 = true then ((thistleref02_join.f x5 ((rd_T73 x6 x8).f0) ((rd_T73 x6 x8).f1)).bind fun t331 => (thistleref02_Make.l1 k t331 x6 x7 (wrap64 (x8 + 1)))) else (thistleref02_Make.l1 k x5 x6 x7 (wrap64 (x8 + 1)))) else (none)) else (none)) else (some (x5, 0))
end
def thistleref02_Make.f (k : Nat) (l0 : List (S41)) : Option ((List (S41)) × Int) := thistleref02_Make.l0 k l0 0
theorem thistleref02_Make.mono_l : ∀ k, (∀ y0 y1, LeO (thistleref02_Make.l0 k y0 y1) (thistleref02_Make.l0 (k + 1) y0 y1)) ∧ (∀ y0 y1 y2 y3, LeO (thistleref02_Make.l1 k y0 y1 y2 y3) (thistleref02_Make.l1 (k + 1) y0 y1 y2 y3))
 | 0 => ⟨fun _ _ r h => by simp [thistleref02_Make.l0] at h, fun _ _ _ _ r h => by simp [thistleref02_Make.l1] at h⟩
 | k + 1 => by
  obtain ⟨ih0, ih1⟩ := thistleref02_Make.mono_l k
  refine ⟨?_, ?_⟩
  ·intro y0 y1
   unfold thistleref02_Make.l0
   repeat' first
   | (with_reducible exact ih0 _ _)
   | (with_reducible exact ih1 _ _ _ _)
   | (with_reducible exact thistleref02_inside.mono _ _ _)
   | (with_reducible exact thistleref02_pieces.mono _ _)
   | (with_reducible exact LeO.refl _)
   | (with_reducible exact LeO.none _)
   | (with_reducible refine LeO.ite ?_ ?_)
   | (with_reducible refine LeO.bind ?_ (fun _ => ?_))
   | exact ih0 _ _
   | exact ih1 _ _ _ _
   | exact thistleref02_inside.mono _ _ _
   | exact thistleref02_pieces.mono _ _
   | exact LeO.none _
   | refine LeO.ite ?_ ?_
   | refine LeO.bind ?_ (fun _ => ?_)
  ·intro y0 y1 y2 y3
   unfold thistleref02_Make.l1
   repeat' first
   | (with_reducible exact ih0 _ _)
   | (with_reducible exact ih1 _ _ _ _)
   | (with_reducible exact thistleref02_inside.mono _ _ _)
   | (with_reducible exact thistleref02_pieces.mono _ _)
   | (with_reducible exact LeO.refl _)
   | (with_reducible exact LeO.none _)
   | (with_reducible refine LeO.ite ?_ ?_)
   | (with_reducible refine LeO.bind ?_ (fun _ => ?_))
   | exact ih0 _ _
   | exact ih1 _ _ _ _
   | exact thistleref02_inside.mono _ _ _
   | exact thistleref02_pieces.mono _ _
   | exact LeO.none _
   | refine LeO.ite ?_ ?_
   | refine LeO.bind ?_ (fun _ => ?_)
theorem thistleref02_Make.mono : ∀ a0 k, LeO (thistleref02_Make.f k a0) (thistleref02_Make.f (k + 1) a0) := by
 intro a0 k
 obtain ⟨ih0, ih1⟩ := thistleref02_Make.mono_l k
 unfold thistleref02_Make.f
 repeat' first
   | (with_reducible exact ih0 _ _)
   | (with_reducible exact ih1 _ _ _ _)
   | (with_reducible exact thistleref02_inside.mono _ _ _)
   | (with_reducible exact thistleref02_pieces.mono _ _)
   | (with_reducible exact LeO.refl _)
   | (with_reducible exact LeO.none _)
   | (with_reducible refine LeO.ite ?_ ?_)
   | (with_reducible refine LeO.bind ?_ (fun _ => ?_))
   | exact ih0 _ _
   | exact ih1 _ _ _ _
   | exact thistleref02_inside.mono _ _ _
   | exact thistleref02_pieces.mono _ _
   | exact LeO.none _
   | refine LeO.ite ?_ ?_
   | refine LeO.bind ?_ (fun _ => ?_)
set_option maxHeartbeats 8000000 in
set_option maxRecDepth 100000 in
theorem thistleref02_Make.calls (k : Nat) (P0_ : Nat → Prop) (A0 : Option Addr) (c0 : Nat) (l0 : List (S41)) (r1 : List (S41)) (r2 : Int) (w : World) (hs0 : Kd.V k41 41 w w.heap.size (fun k_ => P0_ k_) (.slice A0 l0.length c0) l0) (h : thistleref02_Make.f k l0 = some (r1, r2)) :
  Calls Tryd.prog 21 #[.slice A0 l0.length c0] w fun e w' => ∃ v0_ : Value, e = .returned (.tuple #[v0_, .int .i64 r2]) ∧ Kd.R k41 41 w' w.heap.size (fun k_ => (w.heap.size ≤ k_)) v0_ r1 ∧ Below w.heap.size w w' := by
 have hu73 := Tryd.underlying73
 have HO0 := Aside0.mk (show Kd.V k41 41 w w.heap.size (fun k_ => (P0_ k_ ∨ w.heap.size ≤ k_)) (.slice A0 l0.length c0) l0 from Kd.V_mono hs0 (fun k_ hk => .inl hk))
 have HB := Aside0.mk (Below.refl w.heap.size w)
 have H : (thistleref02_Make.l0 k l0 0) = some (r1, r2) := h
 clear h
 have H' := Aside0.mk H
 clear H
 go_enter Tryd.func21, Tryd.ntmps21
 go_wp2
 repeat (go_quiet (fail); try go_wp2)
 go_loopg [4] k (fun kq v4 w' => ∃ (x4_1 : Int), v4 = .int .i64 x4_1 ∧ Aside0 (thistleref02_Make.l0 kq l0 x4_1 = some (r1, r2)) ∧ Aside0 (kq ≤ k) ∧ Aside0 (Kd.V k41 41 w' w.heap.size (fun k_ => (P0_ k_ ∨ w.heap.size ≤ k_)) (.slice A0 l0.length c0) l0) ∧ Aside0 (Below w.heap.size w w'))
 case atStart => exact ⟨(0), XShort.eqs, H', ⟨Nat.le_refl _⟩, ⟨by (with_reducible repeat (first | apply Kd.V_alloc | apply Kd.V_drewN | apply Kd.V_drew)); exact HO0.out⟩, ⟨XShort.bel⟩⟩
 case round =>
  clear H'
  obtain ⟨x4_1, rfl, HA, HK1, HO_0, HB⟩ := hrel
  cases gk with
  | zero => exact absurd HA.out (by simp [thistleref02_Make.l0])
  | succ k1 =>
   have H := HA.out
   clear HA
   simp only [thistleref02_Make.l0] at H
   by_cases c2 : x4_1 < (l0.length : Int)
   ·rw [if_pos c2] at H
    have c2b0 : decide (x4_1 < (l0.length : Int)) = true := decide_eq_true c2
    clear c2
    by_cases c3 : 0 ≤ x4_1
    ·rw [if_pos c3] at H
     have c3b0 : decide (0 ≤ x4_1) = true := decide_eq_true c3
     clear c3
     by_cases c4 : ((rd_T41 l0 x4_1).f0) > ((rd_T41 l0 x4_1).f1)
     ·rw [if_pos c4] at H
      have c4b0 : decide (((rd_T41 l0 x4_1).f1) < ((rd_T41 l0 x4_1).f0)) = true := decide_eq_true c4
      clear c4
      simp only [Option.some.injEq, Prod.mk.injEq] at H
      obtain ⟨rfl, rfl⟩ := H
      have p318 : 0 ≤ (x4_1 : Int) := of_decide_eq_true XShort.asm
      have q318 : x4_1 < (l0.length : Int) := of_decide_eq_true XShort.asm
      obtain ⟨ad318, e318, hx318_0, hx318_1⟩ := at_T41 (Kd.V_reads' HO_0.out).2.2 x4_1 p318 q318
      cases e318
      replace p318 := eq_true p318
      replace q318 := eq_true q318
      have p319 : 0 ≤ (x4_1 : Int) := of_decide_eq_true XShort.asm
      have q319 : x4_1 < (l0.length : Int) := of_decide_eq_true XShort.asm
      obtain ⟨ad319, e319, hx319_0, hx319_1⟩ := at_T41 (Kd.V_reads' HO_0.out).2.2 x4_1 p319 q319
      obtain rfl : ad318 = ad319 := (by injection e319)
      replace p319 := eq_true p319
      replace q319 := eq_true q319
      go_wp2
      repeat (go_quiet (fail); try go_wp2)
      go_ret2
      exact ⟨_, by first | rfl | (simp [errW_none, errW_some] <;> rfl) | (simp [*, errW_none, errW_some] <;> rfl), by first | exact Kd.R_nil _ _ _ _ _ | exact Kd.N_nil _ _ _ _ _ | exact Kd.V_nil _ _ _ _ _ | exact Kd.Q_nil _ _ _ _ _ | exact Kd.S_nil _ _ _ _ _, XShort.bel⟩
     ·rw [if_neg c4] at H
      have c4b0 : decide (((rd_T41 l0 x4_1).f1) < ((rd_T41 l0 x4_1).f0)) = false := decide_eq_false c4
      clear c4
      have H' := Aside0.mk H
      clear H
      have p318 : 0 ≤ (x4_1 : Int) := of_decide_eq_true XShort.asm
      have q318 : x4_1 < (l0.length : Int) := of_decide_eq_true XShort.asm
      obtain ⟨ad318, e318, hx318_0, hx318_1⟩ := at_T41 (Kd.V_reads' HO_0.out).2.2 x4_1 p318 q318
      cases e318
      replace p318 := eq_true p318
      replace q318 := eq_true q318
      have p319 : 0 ≤ (x4_1 : Int) := of_decide_eq_true XShort.asm
      have q319 : x4_1 < (l0.length : Int) := of_decide_eq_true XShort.asm
      obtain ⟨ad319, e319, hx319_0, hx319_1⟩ := at_T41 (Kd.V_reads' HO_0.out).2.2 x4_1 p319 q319
      obtain rfl : ad318 = ad319 := (by injection e319)
      replace p319 := eq_true p319
      replace q319 := eq_true q319
      go_wp2
      repeat (go_quiet (fail); try go_wp2)
      go_roundg k1
      case measure => have := HK1.out; omega
      case rel => exact ⟨(wrap64 (x4_1 + 1)), XShort.eqs, H', ⟨by have := HK1.out; omega⟩, ⟨by (with_reducible repeat (first | apply Kd.V_alloc | apply Kd.V_drewN | apply Kd.V_drew)); exact HO_0.out⟩, ⟨XShort.bel⟩⟩
    ·rw [if_neg c3] at H
     exact absurd H (by simp)
   ·rw [if_neg c2] at H
    have c2b0 : decide (x4_1 < (l0.length : Int)) = false := decide_eq_false c2
    clear c2
    obtain ⟨y320, hy320⟩ : ∃ y_ : List (List (S41)), y_ = (([l0] : List (List (S41)))) := ⟨_, rfl⟩
    replace H : ((thistleref02_pieces.f k1 y320).bind fun t323 => ((thistleref02_inside.f k1 l0 t323).bind fun t326 => (thistleref02_Make.l1 k1 ([] : List (S41)) t323 t326 0))) = some (r1, r2) := by first | (rw [hy320]; with_reducible exact H) | (have H2_ := (Option.bind_some _ _).symm.trans H; rw [hy320]; with_reducible exact H2_) | (have H2_ := (Option.bind_some _ _).symm.trans H; with_reducible exact H2_) | with_reducible exact H | (rw [hy320]; exact H) | exact H
    have Ny320 := Aside0.mk hy320
    clear hy320
    replace H := Option.bind_eq_some_iff.mp H
    obtain ⟨t323, A50, H⟩ := H
    replace H : ((thistleref02_inside.f k1 l0 t323).bind fun t326 => (thistleref02_Make.l1 k1 ([] : List (S41)) t323 t326 0)) = some (r1, r2) := H
    have A5 := Aside0.mk A50
    clear A50
    replace H := Option.bind_eq_some_iff.mp H
    obtain ⟨t326, A60, H⟩ := H
    replace H : (thistleref02_Make.l1 k1 ([] : List (S41)) t323 t326 0) = some (r1, r2) := H
    have A6 := Aside0.mk A60
    clear A60
    have H' := Aside0.mk H
    clear H
    go_wp2_with (first | ((with_reducible refine gate_dst (N := 27) rfl ?_); refine Kd.N_lit (Kd.slice 41 k41) _ 24 ?hg (N' := 27) ?hd (xs := ([l0] : List (List (S41)))) (inner := [.slice A0 l0.length c0]) (ok := (fun k_ => (P0_ k_ ∨ w.heap.size ≤ k_))) (okp := (fun k_ => (P0_ k_ ∨ w.heap.size ≤ k_))) ?hr ?hp (fun _ hk => hk) ((show ∀ k_, wr.heap.size ≤ k_ → (fun k_ => (P0_ k_ ∨ w.heap.size ≤ k_)) k_ from fun k_ hk => (.inr (Nat.le_trans (below_size XShort.bel) hk))) _ (Nat.le_refl _)) (Below.refl _ _) (Nat.le_refl _) (by simp) ?_; (case hd => rfl); (case hg => rfl); (case hr => first | (go_simp; done) | (go_simp; rfl)); (case hp => exact (Reps.one (show Kd.FK (Kd.slice 41 k41) _ _ l0 [.slice A0 l0.length c0] from (Kd.FK_slice_mk (Kd.V_reads' (Kd.V_mono (ok' := (fun k_ => (P0_ k_ ∨ w.heap.size ≤ k_))) (HO_0.out) (fun k_ hk => hk))).2.1 (Kd.V_F (Kd.V_mono (ok' := (fun k_ => (P0_ k_ ∨ w.heap.size ≤ k_))) (HO_0.out) (fun k_ hk => hk))))) (Reps.none _ _))); intro v321 w7 ho8 hb hg_ hnew_; clear hg_ hnew_; (first | rw [← Ny320.out] at ho8 | (simp only [Int.reduceToNat] at ho8; rw [← Ny320.out] at ho8)); have n0_ := Aside0.mk (Kd.V_elder' (XShort.vv HO_0.out) (Kd.N_base ho8) hb); have n1_ := Aside0.mk (Kd.N_lower ho8 (below_size XShort.bel)); have n2_ := Aside0.mk (below_step XShort.bel hb); clear HO_0; clear HB; have HO_0 := n0_; have HO322 := n1_; have HB := n2_; clear n0_ n1_ n2_; clear hb ho8; obtain ⟨Ao9, co9, eo9⟩ := Kd.N_slice HO322.out; subst eo9) | (go_at_call 43; (with_reducible refine (thistleref02_pieces.calls k1 _ _ y320 t323 _ ?side1 ?side2 A5.out).mono ?_); (case side1 => repeat (first | exact (Kd.N_reads' HO322.out).2.2 | (with_reducible refine Kd.C_alloc ?_ _) | (with_reducible refine Kd.C_drewN ?_ _) | (with_reducible refine Kd.C_drew ?_))); (case side2 => exact (Kd.N_reads' HO322.out).2.1); rintro e w10 ⟨v324, rfl, ho0, hb⟩; have n0_ := Aside0.mk (Kd.V_elder' (XShort.vv HO_0.out) (Kd.R_base ho0) hb); have n1_ := Aside0.mk (Kd.N_elder' (by (with_reducible repeat (first | apply Kd.N_alloc | apply Kd.N_drewN | apply Kd.N_drew)); exact HO322.out) (Kd.R_base ho0) hb); have n2_ := Aside0.mk (Kd.R_lower (Kd.R_newM (M := fun k_ => (w.heap.size ≤ k_)) ho0 (below_size XShort.bel) (fun k_ h_ => h_)) (below_size XShort.bel)); have n3_ := Aside0.mk (below_step XShort.bel hb); clear HO_0; clear HO322; clear HB; have HO_0 := n0_; have HO322 := n1_; have HO325 := n2_; have HB := n3_; clear n0_ n1_ n2_ n3_; (try clear hb); (try clear hb2); (try clear hk); (try clear hi); (try clear ho0); obtain ⟨Ao11, co11, eo11⟩ := Kd.R_slice HO325.out; subst eo11) | (go_at_call 44; (with_reducible refine (thistleref02_inside.calls k1 _ _ l0 _ _ t323 t326 _ ?side1 ?side2 ?side3 ?side4 A6.out).mono ?_); (case side1 => repeat (first | exact (Kd.V_reads' HO_0.out).2.2 | (with_reducible refine Kd.C_alloc ?_ _) | (with_reducible refine Kd.C_drewN ?_ _) | (with_reducible refine Kd.C_drew ?_))); (case side2 => exact (Kd.V_reads' HO_0.out).2.1); (case side3 => repeat (first | exact (Kd.R_reads' HO325.out).2.2 | (with_reducible refine Kd.C_alloc ?_ _) | (with_reducible refine Kd.C_drewN ?_ _) | (with_reducible refine Kd.C_drew ?_))); (case side4 => exact (Kd.R_reads' HO325.out).2.1); rintro e w12 ⟨v327, rfl, ho0, hb⟩; have n0_ := Aside0.mk (Kd.V_elder' (XShort.vv HO_0.out) (Kd.R_base ho0) hb); have n1_ := Aside0.mk (Kd.N_elder' (by (with_reducible repeat (first | apply Kd.N_alloc | apply Kd.N_drewN | apply Kd.N_drew)); exact HO322.out) (Kd.R_base ho0) hb); have n2_ := Aside0.mk (Kd.R_below (XShort.rr HO325.out) hb); have n3_ := Aside0.mk (Kd.R_lower (Kd.R_newM (M := fun k_ => (w.heap.size ≤ k_)) ho0 (below_size XShort.bel) (fun k_ h_ => h_)) (below_size XShort.bel)); have n4_ := Aside0.mk (below_step XShort.bel hb); clear HO_0; clear HO322; clear HO325; clear HB; have HO_0 := n0_; have HO322 := n1_; have HO325 := n2_; have HO328 := n3_; have HB := n4_; clear n0_ n1_ n2_ n3_ n4_; (try clear hb); (try clear hb2); (try clear hk); (try clear hi); (try clear ho0)))
    repeat (go_quiet (first | ((with_reducible refine gate_dst (N := 27) rfl ?_); refine Kd.N_lit (Kd.slice 41 k41) _ 24 ?hg (N' := 27) ?hd (xs := ([l0] : List (List (S41)))) (inner := [.slice A0 l0.length c0]) (ok := (fun k_ => (P0_ k_ ∨ w.heap.size ≤ k_))) (okp := (fun k_ => (P0_ k_ ∨ w.heap.size ≤ k_))) ?hr ?hp (fun _ hk => hk) ((show ∀ k_, wr.heap.size ≤ k_ → (fun k_ => (P0_ k_ ∨ w.heap.size ≤ k_)) k_ from fun k_ hk => (.inr (Nat.le_trans (below_size XShort.bel) hk))) _ (Nat.le_refl _)) (Below.refl _ _) (Nat.le_refl _) (by simp) ?_; (case hd => rfl); (case hg => rfl); (case hr => first | (go_simp; done) | (go_simp; rfl)); (case hp => exact (Reps.one (show Kd.FK (Kd.slice 41 k41) _ _ l0 [.slice A0 l0.length c0] from (Kd.FK_slice_mk (Kd.V_reads' (Kd.V_mono (ok' := (fun k_ => (P0_ k_ ∨ w.heap.size ≤ k_))) (HO_0.out) (fun k_ hk => hk))).2.1 (Kd.V_F (Kd.V_mono (ok' := (fun k_ => (P0_ k_ ∨ w.heap.size ≤ k_))) (HO_0.out) (fun k_ hk => hk))))) (Reps.none _ _))); intro v321 w7 ho8 hb hg_ hnew_; clear hg_ hnew_; (first | rw [← Ny320.out] at ho8 | (simp only [Int.reduceToNat] at ho8; rw [← Ny320.out] at ho8)); have n0_ := Aside0.mk (Kd.V_elder' (XShort.vv HO_0.out) (Kd.N_base ho8) hb); have n1_ := Aside0.mk (Kd.N_lower ho8 (below_size XShort.bel)); have n2_ := Aside0.mk (below_step XShort.bel hb); clear HO_0; clear HB; have HO_0 := n0_; have HO322 := n1_; have HB := n2_; clear n0_ n1_ n2_; clear hb ho8; obtain ⟨Ao9, co9, eo9⟩ := Kd.N_slice HO322.out; subst eo9) | (go_at_call 43; (with_reducible refine (thistleref02_pieces.calls k1 _ _ y320 t323 _ ?side1 ?side2 A5.out).mono ?_); (case side1 => repeat (first | exact (Kd.N_reads' HO322.out).2.2 | (with_reducible refine Kd.C_alloc ?_ _) | (with_reducible refine Kd.C_drewN ?_ _) | (with_reducible refine Kd.C_drew ?_))); (case side2 => exact (Kd.N_reads' HO322.out).2.1); rintro e w10 ⟨v324, rfl, ho0, hb⟩; have n0_ := Aside0.mk (Kd.V_elder' (XShort.vv HO_0.out) (Kd.R_base ho0) hb); have n1_ := Aside0.mk (Kd.N_elder' (by (with_reducible repeat (first | apply Kd.N_alloc | apply Kd.N_drewN | apply Kd.N_drew)); exact HO322.out) (Kd.R_base ho0) hb); have n2_ := Aside0.mk (Kd.R_lower (Kd.R_newM (M := fun k_ => (w.heap.size ≤ k_)) ho0 (below_size XShort.bel) (fun k_ h_ => h_)) (below_size XShort.bel)); have n3_ := Aside0.mk (below_step XShort.bel hb); clear HO_0; clear HO322; clear HB; have HO_0 := n0_; have HO322 := n1_; have HO325 := n2_; have HB := n3_; clear n0_ n1_ n2_ n3_; (try clear hb); (try clear hb2); (try clear hk); (try clear hi); (try clear ho0); obtain ⟨Ao11, co11, eo11⟩ := Kd.R_slice HO325.out; subst eo11) | (go_at_call 44; (with_reducible refine (thistleref02_inside.calls k1 _ _ l0 _ _ t323 t326 _ ?side1 ?side2 ?side3 ?side4 A6.out).mono ?_); (case side1 => repeat (first | exact (Kd.V_reads' HO_0.out).2.2 | (with_reducible refine Kd.C_alloc ?_ _) | (with_reducible refine Kd.C_drewN ?_ _) | (with_reducible refine Kd.C_drew ?_))); (case side2 => exact (Kd.V_reads' HO_0.out).2.1); (case side3 => repeat (first | exact (Kd.R_reads' HO325.out).2.2 | (with_reducible refine Kd.C_alloc ?_ _) | (with_reducible refine Kd.C_drewN ?_ _) | (with_reducible refine Kd.C_drew ?_))); (case side4 => exact (Kd.R_reads' HO325.out).2.1); rintro e w12 ⟨v327, rfl, ho0, hb⟩; have n0_ := Aside0.mk (Kd.V_elder' (XShort.vv HO_0.out) (Kd.R_base ho0) hb); have n1_ := Aside0.mk (Kd.N_elder' (by (with_reducible repeat (first | apply Kd.N_alloc | apply Kd.N_drewN | apply Kd.N_drew)); exact HO322.out) (Kd.R_base ho0) hb); have n2_ := Aside0.mk (Kd.R_below (XShort.rr HO325.out) hb); have n3_ := Aside0.mk (Kd.R_lower (Kd.R_newM (M := fun k_ => (w.heap.size ≤ k_)) ho0 (below_size XShort.bel) (fun k_ h_ => h_)) (below_size XShort.bel)); have n4_ := Aside0.mk (below_step XShort.bel hb); clear HO_0; clear HO322; clear HO325; clear HB; have HO_0 := n0_; have HO322 := n1_; have HO325 := n2_; have HO328 := n3_; have HB := n4_; clear n0_ n1_ n2_ n3_ n4_; (try clear hb); (try clear hb2); (try clear hk); (try clear hi); (try clear ho0))); try go_wp2_with (first | ((with_reducible refine gate_dst (N := 27) rfl ?_); refine Kd.N_lit (Kd.slice 41 k41) _ 24 ?hg (N' := 27) ?hd (xs := ([l0] : List (List (S41)))) (inner := [.slice A0 l0.length c0]) (ok := (fun k_ => (P0_ k_ ∨ w.heap.size ≤ k_))) (okp := (fun k_ => (P0_ k_ ∨ w.heap.size ≤ k_))) ?hr ?hp (fun _ hk => hk) ((show ∀ k_, wr.heap.size ≤ k_ → (fun k_ => (P0_ k_ ∨ w.heap.size ≤ k_)) k_ from fun k_ hk => (.inr (Nat.le_trans (below_size XShort.bel) hk))) _ (Nat.le_refl _)) (Below.refl _ _) (Nat.le_refl _) (by simp) ?_; (case hd => rfl); (case hg => rfl); (case hr => first | (go_simp; done) | (go_simp; rfl)); (case hp => exact (Reps.one (show Kd.FK (Kd.slice 41 k41) _ _ l0 [.slice A0 l0.length c0] from (Kd.FK_slice_mk (Kd.V_reads' (Kd.V_mono (ok' := (fun k_ => (P0_ k_ ∨ w.heap.size ≤ k_))) (HO_0.out) (fun k_ hk => hk))).2.1 (Kd.V_F (Kd.V_mono (ok' := (fun k_ => (P0_ k_ ∨ w.heap.size ≤ k_))) (HO_0.out) (fun k_ hk => hk))))) (Reps.none _ _))); intro v321 w7 ho8 hb hg_ hnew_; clear hg_ hnew_; (first | rw [← Ny320.out] at ho8 | (simp only [Int.reduceToNat] at ho8; rw [← Ny320.out] at ho8)); have n0_ := Aside0.mk (Kd.V_elder' (XShort.vv HO_0.out) (Kd.N_base ho8) hb); have n1_ := Aside0.mk (Kd.N_lower ho8 (below_size XShort.bel)); have n2_ := Aside0.mk (below_step XShort.bel hb); clear HO_0; clear HB; have HO_0 := n0_; have HO322 := n1_; have HB := n2_; clear n0_ n1_ n2_; clear hb ho8; obtain ⟨Ao9, co9, eo9⟩ := Kd.N_slice HO322.out; subst eo9) | (go_at_call 43; (with_reducible refine (thistleref02_pieces.calls k1 _ _ y320 t323 _ ?side1 ?side2 A5.out).mono ?_); (case side1 => repeat (first | exact (Kd.N_reads' HO322.out).2.2 | (with_reducible refine Kd.C_alloc ?_ _) | (with_reducible refine Kd.C_drewN ?_ _) | (with_reducible refine Kd.C_drew ?_))); (case side2 => exact (Kd.N_reads' HO322.out).2.1); rintro e w10 ⟨v324, rfl, ho0, hb⟩; have n0_ := Aside0.mk (Kd.V_elder' (XShort.vv HO_0.out) (Kd.R_base ho0) hb); have n1_ := Aside0.mk (Kd.N_elder' (by (with_reducible repeat (first | apply Kd.N_alloc | apply Kd.N_drewN | apply Kd.N_drew)); exact HO322.out) (Kd.R_base ho0) hb); have n2_ := Aside0.mk (Kd.R_lower (Kd.R_newM (M := fun k_ => (w.heap.size ≤ k_)) ho0 (below_size XShort.bel) (fun k_ h_ => h_)) (below_size XShort.bel)); have n3_ := Aside0.mk (below_step XShort.bel hb); clear HO_0; clear HO322; clear HB; have HO_0 := n0_; have HO322 := n1_; have HO325 := n2_; have HB := n3_; clear n0_ n1_ n2_ n3_; (try clear hb); (try clear hb2); (try clear hk); (try clear hi); (try clear ho0); obtain ⟨Ao11, co11, eo11⟩ := Kd.R_slice HO325.out; subst eo11) | (go_at_call 44; (with_reducible refine (thistleref02_inside.calls k1 _ _ l0 _ _ t323 t326 _ ?side1 ?side2 ?side3 ?side4 A6.out).mono ?_); (case side1 => repeat (first | exact (Kd.V_reads' HO_0.out).2.2 | (with_reducible refine Kd.C_alloc ?_ _) | (with_reducible refine Kd.C_drewN ?_ _) | (with_reducible refine Kd.C_drew ?_))); (case side2 => exact (Kd.V_reads' HO_0.out).2.1); (case side3 => repeat (first | exact (Kd.R_reads' HO325.out).2.2 | (with_reducible refine Kd.C_alloc ?_ _) | (with_reducible refine Kd.C_drewN ?_ _) | (with_reducible refine Kd.C_drew ?_))); (case side4 => exact (Kd.R_reads' HO325.out).2.1); rintro e w12 ⟨v327, rfl, ho0, hb⟩; have n0_ := Aside0.mk (Kd.V_elder' (XShort.vv HO_0.out) (Kd.R_base ho0) hb); have n1_ := Aside0.mk (Kd.N_elder' (by (with_reducible repeat (first | apply Kd.N_alloc | apply Kd.N_drewN | apply Kd.N_drew)); exact HO322.out) (Kd.R_base ho0) hb); have n2_ := Aside0.mk (Kd.R_below (XShort.rr HO325.out) hb); have n3_ := Aside0.mk (Kd.R_lower (Kd.R_newM (M := fun k_ => (w.heap.size ≤ k_)) ho0 (below_size XShort.bel) (fun k_ h_ => h_)) (below_size XShort.bel)); have n4_ := Aside0.mk (below_step XShort.bel hb); clear HO_0; clear HO322; clear HO325; clear HB; have HO_0 := n0_; have HO322 := n1_; have HO325 := n2_; have HO328 := n3_; have HB := n4_; clear n0_ n1_ n2_ n3_ n4_; (try clear hb); (try clear hb2); (try clear hk); (try clear hi); (try clear ho0))))
    go_loopg [5, 8] k1 (fun kq v5 v8 w' => ∃ (x5_2 : List (S41)) (x8_2 : Int), v8 = .int .i64 x8_2 ∧ Aside0 (thistleref02_Make.l1 kq x5_2 t323 t326 x8_2 = some (r1, r2)) ∧ Aside0 (kq ≤ k1) ∧ Aside0 (Kd.R k41 41 w' w.heap.size (fun k_ => (w.heap.size ≤ k_)) v5 x5_2) ∧ Aside0 (Kd.R k73 73 w' w.heap.size (fun k_ => (w.heap.size ≤ k_)) (.slice Ao11 t323.length co11) t323) ∧ Aside0 (Kd.R Kd.bool 4 w' w.heap.size (fun k_ => (w.heap.size ≤ k_)) v327 t326) ∧ Aside0 (Below w.heap.size w w'))
    case atStart => exact ⟨(([] : List (S41))), (0), XShort.eqs, H', ⟨Nat.le_refl _⟩, ⟨by first | exact Kd.R_nil _ _ _ _ _ | exact Kd.N_nil _ _ _ _ _ | exact Kd.V_nil _ _ _ _ _ | exact Kd.Q_nil _ _ _ _ _ | exact Kd.S_nil _ _ _ _ _⟩, ⟨by (with_reducible repeat (first | apply Kd.R_alloc | apply Kd.R_drewN | apply Kd.R_drew)); exact Kd.R_mono HO325.out (fun _ hk => hk.1)⟩, ⟨by (with_reducible repeat (first | apply Kd.R_alloc | apply Kd.R_drewN | apply Kd.R_drew)); exact Kd.R_mono HO328.out (fun _ hk => hk.1)⟩, ⟨XShort.bel⟩⟩
    case round =>
     clear H'
     try clear c2
     try clear c2b0
     try clear p2
     try clear c3
     try clear c3b0
     try clear p3
     try clear q3
     try clear hx3
     try clear c4
     try clear c4b0
     try clear p6
     try clear hx318_0
     try clear hx318_1
     try clear hx319_0
     try clear hx319_1
     try clear p318
     try clear p319
     try clear q318
     try clear q319
     obtain ⟨x5_2, x8_2, rfl, HA, HK2, HO_5, HO_6, HO_7, HB⟩ := hrel
     cases gk with
     | zero => exact absurd HA.out (by simp [thistleref02_Make.l1])
     | succ k2 =>
      have H := HA.out
      clear HA
      simp only [thistleref02_Make.l1] at H
      by_cases c13 : x8_2 < (t323.length : Int)
      ·rw [if_pos c13] at H
       have c13b0 : decide (x8_2 < (t323.length : Int)) = true := decide_eq_true c13
       clear c13
       by_cases c14 : 0 ≤ x8_2
       ·rw [if_pos c14] at H
        have c14b0 : decide (0 ≤ x8_2) = true := decide_eq_true c14
        clear c14
        by_cases c15 : x8_2 < (t326.length : Int)
        ·rw [if_pos c15] at H
         have c15b0 : decide (x8_2 < (t326.length : Int)) = true := decide_eq_true c15
         clear c15
         obtain ⟨bq16, hbq16⟩ : ∃ b_ : Bool, b_ = (rdOf false t326 x8_2) := ⟨_, rfl⟩
         replace H : (if bq16 = true then ((thistleref02_join.f x5_2 ((rd_T73 t323 x8_2).f0) ((rd_T73 t323 x8_2).f1)).bind fun t331 => (thistleref02_Make.l1 k2 t331 t323 t326 (wrap64 (x8_2 + 1)))) else (thistleref02_Make.l1 k2 x5_2 t323 t326 (wrap64 (x8_2 + 1)))) = some (r1, r2) := by rw [← hbq16] at H; exact H
         have Nbq16 := Aside0.mk hbq16
         clear hbq16
         by_cases c17 : bq16 = true
         ·subst c17
          have H1 : ((thistleref02_join.f x5_2 ((rd_T73 t323 x8_2).f0) ((rd_T73 t323 x8_2).f1)).bind fun t331 => (thistleref02_Make.l1 k2 t331 t323 t326 (wrap64 (x8_2 + 1)))) = some (r1, r2) := by rw [if_pos rfl] at H; exact H
          clear H
          have H := H1
          clear H1
          replace H := Option.bind_eq_some_iff.mp H
          obtain ⟨t331, A180, H⟩ := H
          replace H : (thistleref02_Make.l1 k2 t331 t323 t326 (wrap64 (x8_2 + 1))) = some (r1, r2) := H
          have A18 := Aside0.mk A180
          clear A180
          have H' := Aside0.mk H
          clear H
          obtain ⟨Ao19, co19, eo19⟩ := Kd.R_slice HO_7.out
          subst eo19
          have p329 : 0 ≤ (x8_2 : Int) := of_decide_eq_true XShort.asm
          have q329 : x8_2 < (t326.length : Int) := of_decide_eq_true XShort.asm
          obtain ⟨ad329, e329, hx329_0⟩ := Kd.at_bool (Kd.R_reads' HO_7.out).2.2 x8_2 p329 q329
          (try rw [← Nbq16.out] at hx329_0)
          cases e329
          replace p329 := eq_true p329
          replace q329 := eq_true q329
          have p330 : 0 ≤ (x8_2 : Int) := of_decide_eq_true XShort.asm
          have q330 : x8_2 < (t323.length : Int) := of_decide_eq_true XShort.asm
          obtain ⟨ad330, e330, hx330_0, hx330_1⟩ := at_T73 (Kd.R_reads' HO_6.out).2.2 x8_2 p330 q330
          cases e330
          replace p330 := eq_true p330
          replace q330 := eq_true q330
          obtain ⟨Ao20, co20, eo20⟩ := Kd.R_slice HO_5.out
          subst eo20
          go_wp2_with (first | (go_at_call 45; (with_reducible refine (thistleref02_join.calls (fun k_ => some k_ = (.slice Ao20 x5_2.length co20 : Value).ownBlock) (.slice Ao20 x5_2.length co20) x5_2 ((rd_T73 t323 x8_2).f0) ((rd_T73 t323 x8_2).f1) t331 w _ ?side1 ?side2 A18.out).mono ?_); (case side1 => repeat (first | (with_reducible first | exact HB.out | apply below_alloc | apply pw_below_drewN | apply below_drew1) | exact HB.out)); (case side2 => exact Kd.R_tight rfl HO_5.out); rintro e w21 ⟨v332, rfl, ho0, hb, hkp⟩; have n0_ := Aside0.mk (Kd.R_mono (ok' := fun k_ => (w.heap.size ≤ k_)) (Kd.R_keptB ((Kd.R_apart' HO_6.out (Kd.R_typed HO_5.out) (by decide))) hkp (fun k_ hk_ hs_ => (hk_.2) hs_)) (fun k_ hk_ => hk_.1.1)); have n1_ := Aside0.mk (Kd.R_mono (ok' := fun k_ => (w.heap.size ≤ k_)) (Kd.R_keptB ((Kd.R_apart' HO_7.out (Kd.R_typed HO_5.out) (by decide))) hkp (fun k_ hk_ hs_ => (hk_.2) hs_)) (fun k_ hk_ => hk_.1.1)); have n2_ := Aside0.mk (Kd.R_mono (ok' := fun k_ => (w.heap.size ≤ k_)) ho0 (fun k_ hk_ => Or.elim hk_ (fun hs_ => (HO_5.out.1 k_ (hs_).symm)) (fun hn_ => (Nat.le_trans (below_size XShort.bel) hn_)))); have n3_ := Aside0.mk (hb); clear HO_6; clear HO_7; clear HB; clear HO_5; have HO_6 := n0_; have HO_7 := n1_; have HO333 := n2_; have HB := n3_; clear n0_ n1_ n2_ n3_; (try clear hb); (try clear hkp); (try clear ho0)))
          repeat (go_quiet (first | (go_at_call 45; (with_reducible refine (thistleref02_join.calls (fun k_ => some k_ = (.slice Ao20 x5_2.length co20 : Value).ownBlock) (.slice Ao20 x5_2.length co20) x5_2 ((rd_T73 t323 x8_2).f0) ((rd_T73 t323 x8_2).f1) t331 w _ ?side1 ?side2 A18.out).mono ?_); (case side1 => repeat (first | (with_reducible first | exact HB.out | apply below_alloc | apply pw_below_drewN | apply below_drew1) | exact HB.out)); (case side2 => exact Kd.R_tight rfl HO_5.out); rintro e w21 ⟨v332, rfl, ho0, hb, hkp⟩; have n0_ := Aside0.mk (Kd.R_mono (ok' := fun k_ => (w.heap.size ≤ k_)) (Kd.R_keptB ((Kd.R_apart' HO_6.out (Kd.R_typed HO_5.out) (by decide))) hkp (fun k_ hk_ hs_ => (hk_.2) hs_)) (fun k_ hk_ => hk_.1.1)); have n1_ := Aside0.mk (Kd.R_mono (ok' := fun k_ => (w.heap.size ≤ k_)) (Kd.R_keptB ((Kd.R_apart' HO_7.out (Kd.R_typed HO_5.out) (by decide))) hkp (fun k_ hk_ hs_ => (hk_.2) hs_)) (fun k_ hk_ => hk_.1.1)); have n2_ := Aside0.mk (Kd.R_mono (ok' := fun k_ => (w.heap.size ≤ k_)) ho0 (fun k_ hk_ => Or.elim hk_ (fun hs_ => (HO_5.out.1 k_ (hs_).symm)) (fun hn_ => (Nat.le_trans (below_size XShort.bel) hn_)))); have n3_ := Aside0.mk (hb); clear HO_6; clear HO_7; clear HB; clear HO_5; have HO_6 := n0_; have HO_7 := n1_; have HO333 := n2_; have HB := n3_; clear n0_ n1_ n2_ n3_; (try clear hb); (try clear hkp); (try clear ho0))); try go_wp2_with (first | (go_at_call 45; (with_reducible refine (thistleref02_join.calls (fun k_ => some k_ = (.slice Ao20 x5_2.length co20 : Value).ownBlock) (.slice Ao20 x5_2.length co20) x5_2 ((rd_T73 t323 x8_2).f0) ((rd_T73 t323 x8_2).f1) t331 w _ ?side1 ?side2 A18.out).mono ?_); (case side1 => repeat (first | (with_reducible first | exact HB.out | apply below_alloc | apply pw_below_drewN | apply below_drew1) | exact HB.out)); (case side2 => exact Kd.R_tight rfl HO_5.out); rintro e w21 ⟨v332, rfl, ho0, hb, hkp⟩; have n0_ := Aside0.mk (Kd.R_mono (ok' := fun k_ => (w.heap.size ≤ k_)) (Kd.R_keptB ((Kd.R_apart' HO_6.out (Kd.R_typed HO_5.out) (by decide))) hkp (fun k_ hk_ hs_ => (hk_.2) hs_)) (fun k_ hk_ => hk_.1.1)); have n1_ := Aside0.mk (Kd.R_mono (ok' := fun k_ => (w.heap.size ≤ k_)) (Kd.R_keptB ((Kd.R_apart' HO_7.out (Kd.R_typed HO_5.out) (by decide))) hkp (fun k_ hk_ hs_ => (hk_.2) hs_)) (fun k_ hk_ => hk_.1.1)); have n2_ := Aside0.mk (Kd.R_mono (ok' := fun k_ => (w.heap.size ≤ k_)) ho0 (fun k_ hk_ => Or.elim hk_ (fun hs_ => (HO_5.out.1 k_ (hs_).symm)) (fun hn_ => (Nat.le_trans (below_size XShort.bel) hn_)))); have n3_ := Aside0.mk (hb); clear HO_6; clear HO_7; clear HB; clear HO_5; have HO_6 := n0_; have HO_7 := n1_; have HO333 := n2_; have HB := n3_; clear n0_ n1_ n2_ n3_; (try clear hb); (try clear hkp); (try clear ho0))))
          go_roundg k2
          case measure => have := HK1.out; have := HK2.out; omega
          case rel => exact ⟨(t331), (wrap64 (x8_2 + 1)), XShort.eqs, H', ⟨by have := HK1.out; have := HK2.out; omega⟩, ⟨by (with_reducible repeat (first | apply Kd.R_alloc | apply Kd.R_drewN | apply Kd.R_drew)); exact HO333.out⟩, ⟨by (with_reducible repeat (first | apply Kd.R_alloc | apply Kd.R_drewN | apply Kd.R_drew)); exact HO_6.out⟩, ⟨by (with_reducible repeat (first | apply Kd.R_alloc | apply Kd.R_drewN | apply Kd.R_drew)); exact HO_7.out⟩, ⟨XShort.bel⟩⟩
         ·replace c17 := Bool.eq_false_iff.mpr c17
          subst c17
          have H1 : (thistleref02_Make.l1 k2 x5_2 t323 t326 (wrap64 (x8_2 + 1))) = some (r1, r2) := by rw [if_neg (show ¬ (false = true) by decide)] at H; exact H
          clear H
          have H := H1
          clear H1
          have H' := Aside0.mk H
          clear H
          obtain ⟨Ao22, co22, eo22⟩ := Kd.R_slice HO_7.out
          subst eo22
          have p329 : 0 ≤ (x8_2 : Int) := of_decide_eq_true XShort.asm
          have q329 : x8_2 < (t326.length : Int) := of_decide_eq_true XShort.asm
          obtain ⟨ad329, e329, hx329_0⟩ := Kd.at_bool (Kd.R_reads' HO_7.out).2.2 x8_2 p329 q329
          (try rw [← Nbq16.out] at hx329_0)
          cases e329
          replace p329 := eq_true p329
          replace q329 := eq_true q329
          go_wp2
          repeat (go_quiet (fail); try go_wp2)
          go_roundg k2
          case measure => have := HK1.out; have := HK2.out; omega
          case rel => exact ⟨(x5_2), (wrap64 (x8_2 + 1)), XShort.eqs, H', ⟨by have := HK1.out; have := HK2.out; omega⟩, ⟨by (with_reducible repeat (first | apply Kd.R_alloc | apply Kd.R_drewN | apply Kd.R_drew)); exact HO_5.out⟩, ⟨by (with_reducible repeat (first | apply Kd.R_alloc | apply Kd.R_drewN | apply Kd.R_drew)); exact HO_6.out⟩, ⟨by (with_reducible repeat (first | apply Kd.R_alloc | apply Kd.R_drewN | apply Kd.R_drew)); exact HO_7.out⟩, ⟨XShort.bel⟩⟩
        ·rw [if_neg c15] at H
         exact absurd H (by simp)
       ·rw [if_neg c14] at H
        exact absurd H (by simp)
      ·rw [if_neg c13] at H
       have c13b0 : decide (x8_2 < (t323.length : Int)) = false := decide_eq_false c13
       clear c13
       simp only [Option.some.injEq, Prod.mk.injEq] at H
       obtain ⟨rfl, rfl⟩ := H
       go_wp2
       repeat (go_quiet (fail); try go_wp2)
       go_ret2
       exact ⟨_, by first | rfl | (simp [errW_none, errW_some] <;> rfl) | (simp [*, errW_none, errW_some] <;> rfl), by (with_reducible repeat (first | apply Kd.R_alloc | apply Kd.R_drewN | apply Kd.R_drew)); exact HO_5.out, XShort.bel⟩

/-! ### thistleref03_Close: function 6 -/
mutual
def thistleref03_Close.l0 : Nat → List (S41) → List (S41) → Int → Option ((List (S41)) × Int)
 | 0, _, _, _ => none
 | k + 1, x0, x4, x5 => if x5 < (x0.length : Int) then (if 0 ≤ x5 then (if x4.length < 17592186044416 then (thistleref03_Close.l0 k x0 (x4 ++ [(⟨(rd_T41 x0 x5).f0, (rd_T41 x0 x5).f1⟩ : S41)]) (wrap64 (x5 + 1))) else (none)) else (none)) else ((thistleref03_Named.f k).bind fun t339 => (thistleref03_Close.l1 k x0 x4 t339 0))
def thistleref03_Close.l1 : Nat → List (S41) → List (S41) → List Int → Int → Option ((List (S41)) × Int)
 | 0, _, _, _, _ => none
 | k + 1, x0, x4, x6, x7 => if x7 < (x6.length : Int) then (if 0 ≤ x7 then ((thistleref03_lies.f k x0 (rd x6 x7)).bind fun t347 => (if t347 = true then ((thistleref03_Orbit.f k (rd x6 x7)).bind fun t349 => (thistleref03_Close.l2 k x0 x4 x6 x7 t349 0)) else (thistleref03_Close.l1 k x0 x4 x6 (wrap64 (x7 + 1))))) else (none)) else ((thistleref02_Make.f k x4).bind fun bt342 => (some (bt342.1, 0)))
def thistleref03_Close.l2 : Nat → List (S41) → List (S41) → List Int → Int → List Int → Int → Option ((List (S41)) × Int)
 | 0, _, _, _, _, _, _ => none
 | k + 1, x0, x4, x6, x7, x8, x9 => if x9 < (x8.length : Int) then (if 0 ≤ x9 then (if x4.length < 17592186044416 then (thistleref03_Close.l2 k x0 (x4 ++ [(⟨rd x8 x9, rd x8 x9⟩ : S41)]) x6 x7 x8 (wrap64 (x9 + 1))) else (none)) else (none)) else (thistleref03_Close.l1 k x0 x4 x6 (wrap64 (x7 + 1)))
end
def thistleref03_Close.f (k : Nat) (l0 : List (S41)) : Option ((List (S41)) × Int) := (thistleref02_Check.f k l0).bind fun t334 => (if t334 = 0 then (thistleref03_Close.l0 k l0 ([] : List (S41)) 0) else (some (([] : List (S41)), 1)))
theorem thistleref03_Close.mono_l : ∀ k, (∀ y0 y1 y2, LeO (thistleref03_Close.l0 k y0 y1 y2) (thistleref03_Close.l0 (k + 1) y0 y1 y2)) ∧ (∀ y0 y1 y2 y3, LeO (thistleref03_Close.l1 k y0 y1 y2 y3) (thistleref03_Close.l1 (k + 1) y0 y1 y2 y3)) ∧ (∀ y0 y1 y2 y3 y4 y5, LeO (thistleref03_Close.l2 k y0 y1 y2 y3 y4 y5) (thistleref03_Close.l2 (k + 1) y0 y1 y2 y3 y4 y5))
 | 0 => ⟨fun _ _ _ r h => by simp [thistleref03_Close.l0] at h, fun _ _ _ _ r h => by simp [thistleref03_Close.l1] at h, fun _ _ _ _ _ _ r h => by simp [thistleref03_Close.l2] at h⟩
 | k + 1 => by
  obtain ⟨ih0, ih1, ih2⟩ := thistleref03_Close.mono_l k
  refine ⟨?_, ?_, ?_⟩
  ·intro y0 y1 y2
   unfold thistleref03_Close.l0
   repeat' first
   | (with_reducible exact ih0 _ _ _)
   | (with_reducible exact ih1 _ _ _ _)
   | (with_reducible exact ih2 _ _ _ _ _ _)
   | (with_reducible exact thistleref02_Check.mono _ _)
   | (with_reducible exact thistleref02_Make.mono _ _)
   | (with_reducible exact thistleref03_Named.mono _)
   | (with_reducible exact thistleref03_Orbit.mono _ _)
   | (with_reducible exact thistleref03_lies.mono _ _ _)
   | (with_reducible exact LeO.refl _)
   | (with_reducible exact LeO.none _)
   | (with_reducible refine LeO.ite ?_ ?_)
   | (with_reducible refine LeO.bind ?_ (fun _ => ?_))
   | exact ih0 _ _ _
   | exact ih1 _ _ _ _
   | exact ih2 _ _ _ _ _ _
   | exact thistleref02_Check.mono _ _
   | exact thistleref02_Make.mono _ _
   | exact thistleref03_Named.mono _
   | exact thistleref03_Orbit.mono _ _
   | exact thistleref03_lies.mono _ _ _
   | exact LeO.none _
   | refine LeO.ite ?_ ?_
   | refine LeO.bind ?_ (fun _ => ?_)
  ·intro y0 y1 y2 y3
   unfold thistleref03_Close.l1
   repeat' first
   | (with_reducible exact ih0 _ _ _)
   | (with_reducible exact ih1 _ _ _ _)
   | (with_reducible exact ih2 _ _ _ _ _ _)
   | (with_reducible exact thistleref02_Check.mono _ _)
   | (with_reducible exact thistleref02_Make.mono _ _)
   | (with_reducible exact thistleref03_Named.mono _)
   | (with_reducible exact thistleref03_Orbit.mono _ _)
   | (with_reducible exact thistleref03_lies.mono _ _ _)
   | (with_reducible exact LeO.refl _)
   | (with_reducible exact LeO.none _)
   | (with_reducible refine LeO.ite ?_ ?_)
   | (with_reducible refine LeO.bind ?_ (fun _ => ?_))
   | exact ih0 _ _ _
   | exact ih1 _ _ _ _
   | exact ih2 _ _ _ _ _ _
   | exact thistleref02_Check.mono _ _
   | exact thistleref02_Make.mono _ _
   | exact thistleref03_Named.mono _
   | exact thistleref03_Orbit.mono _ _
   | exact thistleref03_lies.mono _ _ _
   | exact LeO.none _
   | refine LeO.ite ?_ ?_
   | refine LeO.bind ?_ (fun _ => ?_)
  ·intro y0 y1 y2 y3 y4 y5
   unfold thistleref03_Close.l2
   repeat' first
   | (with_reducible exact ih0 _ _ _)
   | (with_reducible exact ih1 _ _ _ _)
   | (with_reducible exact ih2 _ _ _ _ _ _)
   | (with_reducible exact thistleref02_Check.mono _ _)
   | (with_reducible exact thistleref02_Make.mono _ _)
   | (with_reducible exact thistleref03_Named.mono _)
   | (with_reducible exact thistleref03_Orbit.mono _ _)
   | (with_reducible exact thistleref03_lies.mono _ _ _)
   | (with_reducible exact LeO.refl _)
   | (with_reducible exact LeO.none _)
   | (with_reducible refine LeO.ite ?_ ?_)
   | (with_reducible refine LeO.bind ?_ (fun _ => ?_))
   | exact ih0 _ _ _
   | exact ih1 _ _ _ _
   | exact ih2 _ _ _ _ _ _
   | exact thistleref02_Check.mono _ _
   | exact thistleref02_Make.mono _ _
   | exact thistleref03_Named.mono _
   | exact thistleref03_Orbit.mono _ _
   | exact thistleref03_lies.mono _ _ _
   | exact LeO.none _
   | refine LeO.ite ?_ ?_
   | refine LeO.bind ?_ (fun _ => ?_)
theorem thistleref03_Close.mono : ∀ a0 k, LeO (thistleref03_Close.f k a0) (thistleref03_Close.f (k + 1) a0) := by
 intro a0 k
 obtain ⟨ih0, ih1, ih2⟩ := thistleref03_Close.mono_l k
 unfold thistleref03_Close.f
 repeat' first
   | (with_reducible exact ih0 _ _ _)
   | (with_reducible exact ih1 _ _ _ _)
   | (with_reducible exact ih2 _ _ _ _ _ _)
   | (with_reducible exact thistleref02_Check.mono _ _)
   | (with_reducible exact thistleref02_Make.mono _ _)
   | (with_reducible exact thistleref03_Named.mono _)
   | (with_reducible exact thistleref03_Orbit.mono _ _)
   | (with_reducible exact thistleref03_lies.mono _ _ _)
   | (with_reducible exact LeO.refl _)
   | (with_reducible exact LeO.none _)
   | (with_reducible refine LeO.ite ?_ ?_)
   | (with_reducible refine LeO.bind ?_ (fun _ => ?_))
   | exact ih0 _ _ _
   | exact ih1 _ _ _ _
   | exact ih2 _ _ _ _ _ _
   | exact thistleref02_Check.mono _ _
   | exact thistleref02_Make.mono _ _
   | exact thistleref03_Named.mono _
   | exact thistleref03_Orbit.mono _ _
   | exact thistleref03_lies.mono _ _ _
   | exact LeO.none _
   | refine LeO.ite ?_ ?_
   | refine LeO.bind ?_ (fun _ => ?_)
def thistleref03_Close.T17 : Bool × List (List Nat × List Nat) := (true, [([], []), ([], []), ([], []), ([1, 2], [1, 2]), ([3], [3]), ([], []), ([], []), ([5, 6], [5, 6]), ([7], [7]), ([4, 8], [4, 8]), ([9], [9]), ([0, 10], [0, 10]), ([11, 11, 0, 1, 2, 3, 4, 5, 6, 7, 8, 9, 10, 11], [0, 11])])
def thistleref03_Close.B17 : List Nat := [0, 0, 0, 6, 14, 0, 0, 96, 224, 510, 1022, 2047, 4095]
theorem thistleref03_Close.tab17 : rtab .any (opsOf Tryd.f6 17) = thistleref03_Close.T17 := by kernel_rfl
theorem thistleref03_Close.bits17 : waitsOk thistleref03_Close.T17.2 thistleref03_Close.B17 = true := by kernel_rfl
set_option maxHeartbeats 8000000 in
set_option maxRecDepth 100000 in
theorem thistleref03_Close.calls (k : Nat) (A0 : Option Addr) (c0 : Nat) (l0 : List (S41)) (r1 : List (S41)) (r2 : Int) (w : World) (hr0 : Kd.C k41 w A0 l0.length l0) (hc0 : l0.length ≤ c0) (h : thistleref03_Close.f k l0 = some (r1, r2)) :
  Calls Tryd.prog 6 #[.slice A0 l0.length c0] w fun e w' => ∃ v0_ : Value, e = .returned (.tuple #[v0_, .int .i64 r2]) ∧ Kd.R k41 41 w' w.heap.size (fun _ => True) v0_ r1 ∧ Below w.heap.size w w' := by
 have hu41 := Tryd.underlying41
 have HR0 := Aside0.mk hr0
 have HC0 := Aside0.mk hc0
 clear hr0 hc0
 have HB := Aside0.mk (Below.refl w.heap.size w)
 have H : ((thistleref02_Check.f k l0).bind fun t334 => (if t334 = 0 then (thistleref03_Close.l0 k l0 ([] : List (S41)) 0) else (some (([] : List (S41)), 1)))) = some (r1, r2) := h
 clear h
 replace H := Option.bind_eq_some_iff.mp H
 obtain ⟨t334, A20, H⟩ := H
 replace H : (if t334 = 0 then (thistleref03_Close.l0 k l0 ([] : List (S41)) 0) else (some (([] : List (S41)), 1))) = some (r1, r2) := H
 have A2 := Aside0.mk A20
 clear A20
 by_cases c3 : t334 = 0
 ·rw [if_pos c3] at H
  have c3b0 : (t334 == 0) = true := beq_iff_eq.mpr c3
  have c3b1 : (t334 != 0) = false := bne_eq_false_iff_eq.mpr c3
  clear c3
  have H' := Aside0.mk H
  clear H
  go_enter Tryd.func6, Tryd.ntmps6
  go_wp2_with (first | ((with_reducible refine gate_callee (f := 17) rfl ?_); refine goesL_ (some 13) rfl rfl Tryd.func17 (by kernel_rfl) rfl #[.slice A0 l0.length c0] rfl (by (try simp only [List.map_toArray, List.map_cons, List.map_nil]); first | done | rfl | (simp only [List.length_drop, List.length_take]; rfl)) ?_; (with_reducible refine (thistleref02_Check.calls k _ _ l0 t334 _ ?side1 ?side2 A2.out).mono ?_); (case side1 => repeat (first | exact HR0.out | (with_reducible refine Kd.C_alloc ?_ _) | (with_reducible refine Kd.C_drewN ?_ _) | (with_reducible refine Kd.C_drew ?_))); (case side2 => exact HC0.out); rintro e w4 ⟨rfl, hb⟩; refine ⟨_, rfl, ?_⟩; have n0_ := Aside0.mk (below_step XShort.bel hb); clear HB; have HB := n0_; clear n0_; (try clear hb); (try clear hb2); (try clear hk); (try clear hi)))
  go_loopg [4, 5] k (fun kq v4 v5 w' => ∃ (x4_1 : List (S41)) (x5_1 : Int), v5 = .int .i64 x5_1 ∧ Aside0 (thistleref03_Close.l0 kq l0 x4_1 x5_1 = some (r1, r2)) ∧ Aside0 (kq ≤ k) ∧ Aside0 (Kd.R k41 41 w' w.heap.size (fun _ => True) v4 x4_1) ∧ Aside0 (Below w.heap.size w w'))
  case atStart => exact ⟨(([] : List (S41))), (0), XShort.eqs, H', ⟨Nat.le_refl _⟩, ⟨by first | exact Kd.R_nil _ _ _ _ _ | exact Kd.N_nil _ _ _ _ _ | exact Kd.V_nil _ _ _ _ _ | exact Kd.Q_nil _ _ _ _ _ | exact Kd.S_nil _ _ _ _ _⟩, ⟨XShort.bel⟩⟩
  case round =>
   clear H'
   try clear c1
   try clear p2
   try clear c3
   try clear c3b0
   try clear c3b1
   obtain ⟨x4_1, x5_1, rfl, HA, HK1, HO_4, HB⟩ := hrel
   cases gk with
   | zero => exact absurd HA.out (by simp [thistleref03_Close.l0])
   | succ k1 =>
    have H := HA.out
    clear HA
    simp only [thistleref03_Close.l0] at H
    by_cases c5 : x5_1 < (l0.length : Int)
    ·rw [if_pos c5] at H
     have c5b0 : decide (x5_1 < (l0.length : Int)) = true := decide_eq_true c5
     clear c5
     by_cases c6 : 0 ≤ x5_1
     ·rw [if_pos c6] at H
      have c6b0 : decide (0 ≤ x5_1) = true := decide_eq_true c6
      clear c6
      by_cases c7 : x4_1.length < 17592186044416
      ·rw [if_pos c7] at H
       have LMc7 := Aside0.mk c7
       clear c7
       obtain ⟨y336, hy336⟩ : ∃ y_ : List (S41), y_ = (x4_1 ++ [(⟨(rd_T41 l0 x5_1).f0, (rd_T41 l0 x5_1).f1⟩ : S41)]) := ⟨_, rfl⟩
       replace H : (thistleref03_Close.l0 k1 l0 y336 (wrap64 (x5_1 + 1))) = some (r1, r2) := by first | (rw [hy336]; with_reducible exact H) | (have H2_ := (Option.bind_some _ _).symm.trans H; rw [hy336]; with_reducible exact H2_) | (have H2_ := (Option.bind_some _ _).symm.trans H; with_reducible exact H2_) | with_reducible exact H | (rw [hy336]; exact H) | exact H
       have Ny336 := Aside0.mk hy336
       clear hy336
       have H' := Aside0.mk H
       clear H
       have p335 : 0 ≤ (x5_1 : Int) := of_decide_eq_true XShort.asm
       have q335 : x5_1 < (l0.length : Int) := of_decide_eq_true XShort.asm
       obtain ⟨ad335, e335, hx335_0, hx335_1⟩ := at_T41 HR0.out x5_1 p335 q335
       cases e335
       replace hx335_0 := (HB.out.cell (World.block_lt_of_cell? w _ hx335_0)).trans hx335_0
       replace hx335_1 := (HB.out.cell (World.block_lt_of_cell? w _ hx335_1)).trans hx335_1
       replace p335 := eq_true p335
       replace q335 := eq_true q335
       go_wp2_with (first | ((with_reducible refine gate_builtin (b := .append) (xs := #[.tmp 21, .tmp 26]) rfl ?_); at_builtin; refine Kd.R_append k41 (w0 := w) w.heap.size rfl (.tmp 21) (.tmp 26) 24 41 (.agg #[(.int .i32 0), (.int .i32 0)]) 8 rfl Tryd.underlying24 info41 rfl (by decide) (by omega) u4 x4_1 (⟨(rd_T41 l0 x5_1).f0, (rd_T41 l0 x5_1).f1⟩ : S41) [.int .i32 ((rd_T41 l0 x5_1).f0), .int .i32 ((rd_T41 l0 x5_1).f1)] (fun _ => True) (fun _ => False) rfl rfl ?aP (fun _ hk => hk.elim) ?aF ?aO ?aB ?aS ?aL ?_; (case aP => exact k41_mkM _ _ _ (⟨(rd_T41 l0 x5_1).f0, (rd_T41 l0 x5_1).f1⟩ : S41)); (case aB => exact XShort.bel); (case aF => exact (fun _ _ => trivial)); (case aO => exact (XShort.rr HO_4.out)); (case aS => exact (below_size XShort.bel)); (case aL => have := LMc7.out; omega); intro v337 w8 ho hb hg hat; rw [← Ny336.out] at ho; have n0_ := Aside0.mk (hb); have n1_ := Aside0.mk (ho); clear HB; clear HO_4; have HB := n0_; have HO338 := n1_; clear n0_ n1_; clear ho hb hg hat))
       go_roundg k1
       case measure => have := HK1.out; omega
       case rel => exact ⟨(y336), (wrap64 (x5_1 + 1)), XShort.eqs, H', ⟨by have := HK1.out; omega⟩, ⟨by (with_reducible repeat (first | apply Kd.R_alloc | apply Kd.R_drewN | apply Kd.R_drew)); exact HO338.out⟩, ⟨XShort.bel⟩⟩
      ·rw [if_neg c7] at H
       exact absurd H (by simp)
     ·rw [if_neg c6] at H
      exact absurd H (by simp)
    ·rw [if_neg c5] at H
     have c5b0 : decide (x5_1 < (l0.length : Int)) = false := decide_eq_false c5
     clear c5
     replace H := Option.bind_eq_some_iff.mp H
     obtain ⟨t339, A90, H⟩ := H
     replace H : (thistleref03_Close.l1 k1 l0 x4_1 t339 0) = some (r1, r2) := H
     have A9 := Aside0.mk A90
     clear A90
     have H' := Aside0.mk H
     clear H
     go_wp2_with (first | ((with_reducible refine gate_callee (f := 18) rfl ?_); refine goesL_ (some 28) rfl rfl Tryd.func18 (by kernel_rfl) rfl #[] rfl (by (try simp only [List.map_toArray, List.map_cons, List.map_nil]); first | done | rfl | (simp only [List.length_drop, List.length_take]; rfl)) ?_; (with_reducible refine (thistleref03_Named.calls k1  t339 _ A9.out).mono ?_); rintro e w10 ⟨v340, rfl, ho0, hb⟩; refine ⟨_, rfl, ?_⟩; have n0_ := Aside0.mk (Kd.R_below (XShort.rr HO_4.out) hb); have n1_ := Aside0.mk (Kd.R_lower ho0 (below_size XShort.bel)); have n2_ := Aside0.mk (below_step XShort.bel hb); clear HO_4; clear HB; have HO_4 := n0_; have HO341 := n1_; have HB := n2_; clear n0_ n1_ n2_; (try clear hb); (try clear hb2); (try clear hk); (try clear hi); (try clear ho0)))
     go_loopg [4, 7] k1 (fun kq v4 v7 w' => ∃ (x4_2 : List (S41)) (x7_2 : Int), v7 = .int .i64 x7_2 ∧ Aside0 (thistleref03_Close.l1 kq l0 x4_2 t339 x7_2 = some (r1, r2)) ∧ Aside0 (kq ≤ k1) ∧ Aside0 (Kd.R k41 41 w' w.heap.size (fun _ => True) v4 x4_2) ∧ Aside0 (Kd.R (Kd.int .i32) 21 w' w.heap.size (fun _ => True) v340 t339) ∧ Aside0 (Below w.heap.size w w'))
     case atStart => exact ⟨(x4_1), (0), XShort.eqs, H', ⟨Nat.le_refl _⟩, ⟨by (with_reducible repeat (first | apply Kd.R_alloc | apply Kd.R_drewN | apply Kd.R_drew)); exact HO_4.out⟩, ⟨by (with_reducible repeat (first | apply Kd.R_alloc | apply Kd.R_drewN | apply Kd.R_drew)); exact HO341.out⟩, ⟨XShort.bel⟩⟩
     case round =>
      clear H'
      try clear c1
      try clear p2
      try clear c3
      try clear c3b0
      try clear c3b1
      try clear p3
      try clear q3
      try clear hx3
      try clear c5
      try clear c5b0
      try clear c6
      try clear c6b0
      try clear p6
      try clear c7
      try clear hx335_0
      try clear hx335_1
      try clear p2
      try clear p335
      try clear q335
      obtain ⟨x4_2, x7_2, rfl, HA, HK2, HO_4, HO_6, HB⟩ := hrel
      cases gk with
      | zero => exact absurd HA.out (by simp [thistleref03_Close.l1])
      | succ k2 =>
       have H := HA.out
       clear HA
       simp only [thistleref03_Close.l1] at H
       by_cases c11 : x7_2 < (t339.length : Int)
       ·rw [if_pos c11] at H
        have c11b0 : decide (x7_2 < (t339.length : Int)) = true := decide_eq_true c11
        clear c11
        by_cases c12 : 0 ≤ x7_2
        ·rw [if_pos c12] at H
         have c12b0 : decide (0 ≤ x7_2) = true := decide_eq_true c12
         clear c12
         replace H := Option.bind_eq_some_iff.mp H
         obtain ⟨t347, A130, H⟩ := H
         replace H : (if t347 = true then ((thistleref03_Orbit.f k2 (rd t339 x7_2)).bind fun t349 => (thistleref03_Close.l2 k2 l0 x4_2 t339 x7_2 t349 0)) else (thistleref03_Close.l1 k2 l0 x4_2 t339 (wrap64 (x7_2 + 1)))) = some (r1, r2) := H
         have A13 := Aside0.mk A130
         clear A130
         by_cases c14 : t347 = true
         ·subst c14
          have H1 : ((thistleref03_Orbit.f k2 (rd t339 x7_2)).bind fun t349 => (thistleref03_Close.l2 k2 l0 x4_2 t339 x7_2 t349 0)) = some (r1, r2) := by rw [if_pos rfl] at H; exact H
          clear H
          have H := H1
          clear H1
          replace H := Option.bind_eq_some_iff.mp H
          obtain ⟨t349, A150, H⟩ := H
          replace H : (thistleref03_Close.l2 k2 l0 x4_2 t339 x7_2 t349 0) = some (r1, r2) := H
          have A15 := Aside0.mk A150
          clear A150
          have H' := Aside0.mk H
          clear H
          obtain ⟨Ao16, co16, eo16⟩ := Kd.R_slice HO_6.out
          subst eo16
          have p346 : 0 ≤ (x7_2 : Int) := of_decide_eq_true XShort.asm
          have q346 : x7_2 < (t339.length : Int) := of_decide_eq_true XShort.asm
          obtain ⟨ad346, e346, hx346_0⟩ := Kd.at_int (Kd.R_reads' HO_6.out).2.2 x7_2 p346 q346
          cases e346
          replace p346 := eq_true p346
          replace q346 := eq_true q346
          go_wp2_with (first | ((with_reducible refine gate_callee (f := 19) rfl ?_); refine goesL_ (some 40) rfl rfl Tryd.func19 (by kernel_rfl) rfl #[.slice A0 l0.length c0, .int .i32 (rd t339 x7_2)] rfl (by (try simp only [List.map_toArray, List.map_cons, List.map_nil]); first | done | rfl | (simp only [List.length_drop, List.length_take]; rfl)) ?_; (with_reducible refine (thistleref03_lies.calls k2 _ _ l0 (rd t339 x7_2) true _ ?side1 ?side2 A13.out).mono ?_); (case side1 => repeat (first | exact (Kd.C_below HR0.out HB.out) | (with_reducible refine Kd.C_alloc ?_ _) | (with_reducible refine Kd.C_drewN ?_ _) | (with_reducible refine Kd.C_drew ?_))); (case side2 => exact HC0.out); rintro e w' ⟨rfl, ⟨nd, rfl⟩⟩; refine ⟨_, rfl, ?_⟩; have p348 : 0 ≤ (x7_2 : Int) := of_decide_eq_true XShort.asm; have q348 : x7_2 < (t339.length : Int) := of_decide_eq_true XShort.asm; obtain ⟨ad348, e348, hx348_0⟩ := Kd.at_int (Kd.R_reads' HO_6.out).2.2 x7_2 p348 q348; obtain rfl : ad346 = ad348 := (by injection e348); replace p348 := eq_true p348; replace q348 := eq_true q348) | ((with_reducible refine gate_callee (f := 20) rfl ?_); refine goesL_ (some 45) rfl rfl Tryd.func20 (by kernel_rfl) rfl #[.int .i32 (rd t339 x7_2)] rfl (by (try simp only [List.map_toArray, List.map_cons, List.map_nil]); first | done | rfl | (simp only [List.length_drop, List.length_take]; rfl)) ?_; (with_reducible refine (thistleref03_Orbit.calls k2 (rd t339 x7_2) t349 _ A15.out).mono ?_); rintro e w17 ⟨v350, rfl, ho0, hb⟩; refine ⟨_, rfl, ?_⟩; have n0_ := Aside0.mk (Kd.R_below (XShort.rr HO_4.out) hb); have n1_ := Aside0.mk (Kd.R_elder' (XShort.rr HO_6.out) (Kd.R_base ho0) hb); have n2_ := Aside0.mk (Kd.R_lower (Kd.R_new' ho0 (Kd.R_lt (XShort.rr HO_6.out))) (below_size XShort.bel)); have n3_ := Aside0.mk (below_step XShort.bel hb); clear HO_4; clear HO_6; clear HB; have HO_4 := n0_; have HO_6 := n1_; have HO351 := n2_; have HB := n3_; clear n0_ n1_ n2_ n3_; (try clear hb); (try clear hb2); (try clear hk); (try clear hi); (try clear ho0)))
          go_loopg [4, 9] k2 (fun kq v4 v9 w' => ∃ (x4_3 : List (S41)) (x9_3 : Int), v9 = .int .i64 x9_3 ∧ Aside0 (thistleref03_Close.l2 kq l0 x4_3 t339 x7_2 t349 x9_3 = some (r1, r2)) ∧ Aside0 (kq ≤ k2) ∧ Aside0 (Kd.R k41 41 w' w.heap.size (fun _ => True) v4 x4_3) ∧ Aside0 (Kd.R (Kd.int .i32) 21 w' w.heap.size (fun k_ => some k_ ≠ (v350 : Value).ownBlock) (.slice (some ad346) t339.length co16) t339) ∧ Aside0 (Kd.R (Kd.int .i32) 21 w' w.heap.size (fun k_ => some k_ ≠ ((.slice (some ad346) t339.length co16) : Value).ownBlock) v350 t349) ∧ Aside0 (Below w.heap.size w w'))
          case atStart => exact ⟨(x4_2), (0), XShort.eqs, H', ⟨Nat.le_refl _⟩, ⟨by (with_reducible repeat (first | apply Kd.R_alloc | apply Kd.R_drewN | apply Kd.R_drew)); exact HO_4.out⟩, ⟨by (with_reducible repeat (first | apply Kd.R_alloc | apply Kd.R_drewN | apply Kd.R_drew)); exact Kd.R_mono HO_6.out (fun _ hk => hk.2)⟩, ⟨by (with_reducible repeat (first | apply Kd.R_alloc | apply Kd.R_drewN | apply Kd.R_drew)); exact Kd.R_mono HO351.out (fun _ hk => hk.2)⟩, ⟨XShort.bel⟩⟩
          case round =>
           clear H'
           try clear c1
           try clear c2
           try clear p2
           try clear c3
           try clear c3b0
           try clear c3b1
           try clear p3
           try clear q3
           try clear hx3
           try clear c5
           try clear c5b0
           try clear c6
           try clear c6b0
           try clear p6
           try clear c7
           try clear c11
           try clear c11b0
           try clear c12
           try clear c12b0
           try clear c14
           try clear c17
           try clear hx335_0
           try clear hx335_1
           try clear hx346_0
           try clear hx348_0
           try clear p2
           try clear p3
           try clear p335
           try clear p346
           try clear p348
           try clear p6
           try clear q3
           try clear q335
           try clear q346
           try clear q348
           obtain ⟨x4_3, x9_3, rfl, HA, HK3, HO_4, HO_6, HO_8, HB⟩ := hrel
           cases gk with
           | zero => exact absurd HA.out (by simp [thistleref03_Close.l2])
           | succ k3 =>
            have H := HA.out
            clear HA
            simp only [thistleref03_Close.l2] at H
            by_cases c18 : x9_3 < (t349.length : Int)
            ·rw [if_pos c18] at H
             have c18b0 : decide (x9_3 < (t349.length : Int)) = true := decide_eq_true c18
             clear c18
             by_cases c19 : 0 ≤ x9_3
             ·rw [if_pos c19] at H
              have c19b0 : decide (0 ≤ x9_3) = true := decide_eq_true c19
              clear c19
              by_cases c20 : x4_3.length < 17592186044416
              ·rw [if_pos c20] at H
               have LMc20 := Aside0.mk c20
               clear c20
               obtain ⟨y354, hy354⟩ : ∃ y_ : List (S41), y_ = (x4_3 ++ [(⟨rd t349 x9_3, rd t349 x9_3⟩ : S41)]) := ⟨_, rfl⟩
               replace H : (thistleref03_Close.l2 k3 l0 y354 t339 x7_2 t349 (wrap64 (x9_3 + 1))) = some (r1, r2) := by first | (rw [hy354]; with_reducible exact H) | (have H2_ := (Option.bind_some _ _).symm.trans H; rw [hy354]; with_reducible exact H2_) | (have H2_ := (Option.bind_some _ _).symm.trans H; with_reducible exact H2_) | with_reducible exact H | (rw [hy354]; exact H) | exact H
               have Ny354 := Aside0.mk hy354
               clear hy354
               have H' := Aside0.mk H
               clear H
               obtain ⟨Ao21, co21, eo21⟩ := Kd.R_slice HO_8.out
               subst eo21
               try go_wp2
               have n0_ := Aside0.mk (Kd.R_drew HO_4.out)
               have n1_ := Aside0.mk (Kd.R_drew HO_6.out)
               have n2_ := Aside0.mk (Kd.R_drew HO_8.out)
               have n3_ := Aside0.mk (below_drew1 HB.out)
               clear HO_4
               clear HO_6
               clear HO_8
               clear HB
               have HO_4 := n0_
               have HO_6 := n1_
               have HO_8 := n2_
               have HB := n3_
               clear n0_ n1_ n2_ n3_
               have p352 : 0 ≤ (x9_3 : Int) := of_decide_eq_true XShort.asm
               have q352 : x9_3 < (t349.length : Int) := of_decide_eq_true XShort.asm
               obtain ⟨ad352, e352, hx352_0⟩ := Kd.at_int (Kd.R_reads' HO_8.out).2.2 x9_3 p352 q352
               cases e352
               replace p352 := eq_true p352
               replace q352 := eq_true q352
               have p353 : 0 ≤ (x9_3 : Int) := of_decide_eq_true XShort.asm
               have q353 : x9_3 < (t349.length : Int) := of_decide_eq_true XShort.asm
               obtain ⟨ad353, e353, hx353_0⟩ := Kd.at_int (Kd.R_reads' HO_8.out).2.2 x9_3 p353 q353
               obtain rfl : ad352 = ad353 := (by injection e353)
               replace p353 := eq_true p353
               replace q353 := eq_true q353
               refine start_ (n := 13) (S := fun w' => w'.cell? (ad352.add (x9_3).toNat) = some (.int .i32 (rd t349 x9_3)) ∧ w'.cell? (ad352.add (x9_3).toNat) = some (.int .i32 (rd t349 x9_3))) (ds := [10, 11]) #[i,i,i,i,i,i,i,i,i,i,i,i,i] (by kernel_rfl) rfl rfl ⟨hx352_0, hx353_0⟩ (fun hHeld => ?_); refine with_tabW thistleref03_Close.tab17 thistleref03_Close.bits17 (fun HT_ HW_ => ?_)
               generalize wr.drew = w22 at HO_4 HO_6 HO_8 HB hx352_0 hx353_0 hHeld ⊢
               refine pure_ (i := 0) (N := some 52) (v := ?_) (a' := ?_) #[o,i,i,i,i,i,i,i,i,i,i,i,i] rfl rfl (any_of HT_.out (by kernel_rfl)) (fun _ _ _ h => h) (Or.inl ⟨by rfl, ?_⟩) ?_ ?_
               rotate_left
               ·intro w'
                go_simp
                with_reducible rfl
               rotate_left
               ·exact XShort.put
               refine pure_ (i := 1) (N := some 53) (v := ?_) (a' := ?_) #[o,o,i,i,i,i,i,i,i,i,i,i,i] rfl rfl (any_of HT_.out (by kernel_rfl)) (fun _ _ _ h => h) (Or.inl ⟨by rfl, ?_⟩) ?_ ?_
               rotate_left
               ·intro w'
                go_simp
                with_reducible rfl
               rotate_left
               ·exact XShort.put
               refine pure_ (i := 2) (N := some 54) (v := ?_) (a' := ?_) #[o,o,o,i,i,i,i,i,i,i,i,i,i] rfl rfl (any_of HT_.out (by kernel_rfl)) (fun _ _ _ h => h) (Or.inl ⟨by rfl, ?_⟩) ?_ ?_
               rotate_left
               ·intro w'
                go_simp
                with_reducible rfl
               rotate_left
               ·exact XShort.put
               refine pure_ (i := 3) (N := some 55) (v := ?_) (a' := ?_) #[o,o,o,o,i,i,i,i,i,i,i,i,i] rfl rfl (any_of HT_.out (by kernel_rfl)) (fun _ _ _ h => h) (Or.inl ⟨by rfl, ?_⟩) ?_ ?_
               rotate_left
               ·intro w'
                go_simp
                with_reducible rfl
               rotate_left
               ·exact XShort.put
               refine pure_ (i := 5) (N := some 57) (v := ?_) (a' := ?_) #[o,o,o,o,i,o,i,i,i,i,i,i,i] rfl rfl (any_of HT_.out (by kernel_rfl)) (fun _ _ _ h => h) (Or.inl ⟨by rfl, ?_⟩) ?_ ?_
               rotate_left
               ·intro w'
                go_simp
                with_reducible rfl
               rotate_left
               ·exact XShort.put
               refine pure_ (i := 6) (N := some 58) (v := ?_) (a' := ?_) #[o,o,o,o,i,o,o,i,i,i,i,i,i] rfl rfl (any_of HT_.out (by kernel_rfl)) (fun _ _ _ h => h) (Or.inl ⟨by rfl, ?_⟩) ?_ ?_
               rotate_left
               ·intro w'
                go_simp
                with_reducible rfl
               rotate_left
               ·exact XShort.put
               refine pure_ (i := 7) (N := some 59) (v := ?_) (a' := ?_) #[o,o,o,o,i,o,o,o,i,i,i,i,i] rfl rfl (any_of HT_.out (by kernel_rfl)) (fun _ _ _ h => h) (Or.inl ⟨by rfl, ?_⟩) ?_ ?_
               rotate_left
               ·intro w'
                go_simp
                with_reducible rfl
               rotate_left
               ·exact XShort.put
               refine take_ (i := 4) (N := some 56) (v := ?_) (a' := ?_) #[o,o,o,o,o,o,o,o,i,i,i,i,i] rfl rfl (take_ofW HT_.out HW_.out (by kernel_rfl)) (fun _ _ _ h => h) (Or.inl ⟨by rfl, ?_⟩) hHeld ?_ ?_
               rotate_left
               ·rintro w' ⟨s0, s1⟩
                go_simp
                with_reducible rfl
               rotate_left
               ·exact XShort.put
               refine take_ (i := 8) (N := some 60) (v := ?_) (a' := ?_) #[o,o,o,o,o,o,o,o,o,i,i,i,i] rfl rfl (take_ofW HT_.out HW_.out (by kernel_rfl)) (fun _ _ _ h => h) (Or.inl ⟨by rfl, ?_⟩) hHeld ?_ ?_
               rotate_left
               ·rintro w' ⟨s0, s1⟩
                go_simp
                with_reducible rfl
               rotate_left
               ·exact XShort.put
               refine pure_ (i := 9) (N := some 61) (v := ?_) (a' := ?_) #[o,o,o,o,o,o,o,o,o,o,i,i,i] rfl rfl (any_of HT_.out (by kernel_rfl)) (fun _ _ _ h => h) (Or.inl ⟨by rfl, ?_⟩) ?_ ?_
               rotate_left
               ·intro w'
                go_simp
                with_reducible rfl
               rotate_left
               ·exact XShort.put
               refine last_ (i := 10) (N := some 62) #[o,o,o,o,o,o,o,o,o,o,o,i,i] rfl rfl (one_of HT_.out (by kernel_rfl)) (by decide) (fun K hK => ?_)
               refine value_ (w1 := ?_) (v := ?_) (by rfl) rfl ?_ ?_
               rotate_left 2
               ·go_simp
                constructor
                ·rfl
                ·rfl
               refine hK.out _ _ ?_
               clear hK K
               refine norm_ (a' := ?_) ?_ ?_
               rotate_left
               ·show Act.put _ (some 62) _ = _
                simp only [Act.put, List.setIfInBounds_toArray, List.set_cons_zero, List.set_cons_succ, i64_w, i32_w]
                rfl
               refine last_ (i := 11) (N := some 63) #[o,o,o,o,o,o,o,o,o,o,o,o,i] rfl rfl (one_of HT_.out (by kernel_rfl)) (by decide) (fun K hK => ?_)
               refine Kd.R_append_step k41 (w0 := w) w.heap.size (by rfl) (.tmp 52) (.tmp 62) 24 41 (.agg #[(.int .i32 0), (.int .i32 0)]) 8 rfl Tryd.underlying24 info41 rfl (by decide) (by omega) u4 x4_3 (⟨rd t349 x9_3, rd t349 x9_3⟩ : S41) [.int .i32 (rd t349 x9_3), .int .i32 (rd t349 x9_3)] (fun _ => True) (fun _ => False) rfl rfl ?aP (fun _ hk => hk.elim) ?aF ?aO ?aB ?aS ?aL ?_
               (case aP => exact k41_mkM _ _ _ (⟨rd t349 x9_3, rd t349 x9_3⟩ : S41))
               (case aB => exact XShort.bel)
               (case aF => exact (fun _ _ => trivial))
               (case aO => exact (XShort.rr HO_4.out))
               (case aS => exact (below_size XShort.bel))
               (case aL => have := LMc20.out; omega)
               intro v355 w23 ho hb hg hat
               rw [← Ny354.out] at ho
               have n0_ := Aside0.mk (Kd.R_over' (XShort.rr HO_6.out) (Kd.R_typed (XShort.rr HO_4.out)) (by decide) hg)
               have n1_ := Aside0.mk (Kd.R_over' (XShort.rr HO_8.out) (Kd.R_typed (XShort.rr HO_4.out)) (by decide) hg)
               have n2_ := Aside0.mk (hb)
               have n3_ := Aside0.mk (ho)
               clear HO_6
               clear HO_8
               clear HB
               clear HO_4
               have HO_6 := n0_
               have HO_8 := n1_
               have HB := n2_
               have HO356 := n3_
               clear n0_ n1_ n2_ n3_
               clear ho hb hg hat
               refine hK.out _ _ ?_
               clear hK K
               refine norm_ (a' := ?_) ?_ ?_
               rotate_left
               ·show Act.put _ (some 63) _ = _
                simp only [Act.put, List.setIfInBounds_toArray, List.set_cons_zero, List.set_cons_succ, i64_w, i32_w]
                rfl
               refine pure_ (i := 12) (N := some 4) (v := ?_) (a' := ?_) #[o,o,o,o,o,o,o,o,o,o,o,o,o] rfl rfl (any_of HT_.out (by kernel_rfl)) (fun _ _ _ h => h) (Or.inl ⟨by rfl, ?_⟩) ?_ ?_
               rotate_left
               ·intro w'
                go_simp
                with_reducible rfl
               rotate_left
               ·exact XShort.put
               refine done_ (done_of HT_.out (by kernel_rfl)) ?_
               try go_wp2
               go_roundg k3
               case measure => have := HK1.out; have := HK2.out; have := HK3.out; omega
               case rel => exact ⟨(y354), (wrap64 (x9_3 + 1)), XShort.eqs, H', ⟨by have := HK1.out; have := HK2.out; have := HK3.out; omega⟩, ⟨by (with_reducible repeat (first | apply Kd.R_alloc | apply Kd.R_drewN | apply Kd.R_drew)); exact HO356.out⟩, ⟨by (with_reducible repeat (first | apply Kd.R_alloc | apply Kd.R_drewN | apply Kd.R_drew)); exact HO_6.out⟩, ⟨by (with_reducible repeat (first | apply Kd.R_alloc | apply Kd.R_drewN | apply Kd.R_drew)); exact HO_8.out⟩, ⟨XShort.bel⟩⟩
              ·rw [if_neg c20] at H
               exact absurd H (by simp)
             ·rw [if_neg c19] at H
              exact absurd H (by simp)
            ·rw [if_neg c18] at H
             have c18b0 : decide (x9_3 < (t349.length : Int)) = false := decide_eq_false c18
             clear c18
             have H' := Aside0.mk H
             clear H
             obtain ⟨Ao24, co24, eo24⟩ := Kd.R_slice HO_8.out
             subst eo24
             go_wp2
             go_roundg k3
             case measure => have := HK1.out; have := HK2.out; have := HK3.out; omega
             case rel => exact ⟨(x4_3), (wrap64 (x7_2 + 1)), XShort.eqs, H', ⟨by have := HK1.out; have := HK2.out; have := HK3.out; omega⟩, ⟨by (with_reducible repeat (first | apply Kd.R_alloc | apply Kd.R_drewN | apply Kd.R_drew)); exact HO_4.out⟩, ⟨by (with_reducible repeat (first | apply Kd.R_alloc | apply Kd.R_drewN | apply Kd.R_drew)); exact Kd.R_mono HO_6.out (fun _ hk => trivial)⟩, ⟨XShort.bel⟩⟩
         ·replace c14 := Bool.eq_false_iff.mpr c14
          subst c14
          have H1 : (thistleref03_Close.l1 k2 l0 x4_2 t339 (wrap64 (x7_2 + 1))) = some (r1, r2) := by rw [if_neg (show ¬ (false = true) by decide)] at H; exact H
          clear H
          have H := H1
          clear H1
          have H' := Aside0.mk H
          clear H
          obtain ⟨Ao25, co25, eo25⟩ := Kd.R_slice HO_6.out
          subst eo25
          have p346 : 0 ≤ (x7_2 : Int) := of_decide_eq_true XShort.asm
          have q346 : x7_2 < (t339.length : Int) := of_decide_eq_true XShort.asm
          obtain ⟨ad346, e346, hx346_0⟩ := Kd.at_int (Kd.R_reads' HO_6.out).2.2 x7_2 p346 q346
          cases e346
          replace p346 := eq_true p346
          replace q346 := eq_true q346
          go_wp2_with (first | ((with_reducible refine gate_callee (f := 19) rfl ?_); refine goesL_ (some 40) rfl rfl Tryd.func19 (by kernel_rfl) rfl #[.slice A0 l0.length c0, .int .i32 (rd t339 x7_2)] rfl (by (try simp only [List.map_toArray, List.map_cons, List.map_nil]); first | done | rfl | (simp only [List.length_drop, List.length_take]; rfl)) ?_; (with_reducible refine (thistleref03_lies.calls k2 _ _ l0 (rd t339 x7_2) false _ ?side1 ?side2 A13.out).mono ?_); (case side1 => repeat (first | exact (Kd.C_below HR0.out HB.out) | (with_reducible refine Kd.C_alloc ?_ _) | (with_reducible refine Kd.C_drewN ?_ _) | (with_reducible refine Kd.C_drew ?_))); (case side2 => exact HC0.out); rintro e w' ⟨rfl, ⟨nd, rfl⟩⟩; refine ⟨_, rfl, ?_⟩))
          go_roundg k2
          case measure => have := HK1.out; have := HK2.out; omega
          case rel => exact ⟨(x4_2), (wrap64 (x7_2 + 1)), XShort.eqs, H', ⟨by have := HK1.out; have := HK2.out; omega⟩, ⟨by (with_reducible repeat (first | apply Kd.R_alloc | apply Kd.R_drewN | apply Kd.R_drew)); exact HO_4.out⟩, ⟨by (with_reducible repeat (first | apply Kd.R_alloc | apply Kd.R_drewN | apply Kd.R_drew)); exact HO_6.out⟩, ⟨XShort.bel⟩⟩
        ·rw [if_neg c12] at H
         exact absurd H (by simp)
       ·rw [if_neg c11] at H
        have c11b0 : decide (x7_2 < (t339.length : Int)) = false := decide_eq_false c11
        clear c11
        replace H := Option.bind_eq_some_iff.mp H
        obtain ⟨⟨t342, t345⟩, A260, H⟩ := H
        replace H : (some (t342, 0)) = some (r1, r2) := H
        have A26 := Aside0.mk A260
        clear A260
        simp only [Option.some.injEq, Prod.mk.injEq] at H
        obtain ⟨rfl, rfl⟩ := H
        obtain ⟨Ao27, co27, eo27⟩ := Kd.R_slice HO_6.out
        subst eo27
        obtain ⟨Ao28, co28, eo28⟩ := Kd.R_slice HO_4.out
        subst eo28
        go_wp2_with (first | ((with_reducible refine gate_callee (f := 21) rfl ?_); refine goesL_ (some 66) rfl rfl Tryd.func21 (by kernel_rfl) rfl #[.slice Ao28 x4_2.length co28] rfl (by (try simp only [List.map_toArray, List.map_cons, List.map_nil]); first | done | rfl | (simp only [List.length_drop, List.length_take]; rfl)) ?_; (with_reducible refine (thistleref02_Make.calls k2 (fun k_ => some k_ = (.slice Ao28 x4_2.length co28 : Value).ownBlock) _ _ x4_2 t342 t345 _ ?side1 A26.out).mono ?_); (case side1 => exact Kd.R_V (Kd.R_tight rfl (Kd.R_apart' (HO_4.out) (Kd.R_typed HO_6.out) (by decide)))); rintro e w29 ⟨v343, rfl, ho0, hb⟩; refine ⟨_, rfl, ?_⟩; have n0_ := Aside0.mk (Kd.R_elder' (XShort.rr HO_4.out) (Kd.R_base ho0) hb); have n1_ := Aside0.mk (Kd.R_below (XShort.rr HO_6.out) hb); have n2_ := Aside0.mk (Kd.R_lower (Kd.R_new' (Kd.R_mono (ok' := fun k_ => True) ho0 (fun _ hk_ => trivial)) (Kd.R_lt (XShort.rr HO_4.out))) (below_size XShort.bel)); have n3_ := Aside0.mk (below_step XShort.bel hb); clear HO_4; clear HO_6; clear HB; have HO_4 := n0_; have HO_6 := n1_; have HO344 := n2_; have HB := n3_; clear n0_ n1_ n2_ n3_; (try clear hb); (try clear hb2); (try clear hk); (try clear hi); (try clear ho0)))
        go_ret2
        exact ⟨_, by first | rfl | (simp [errW_none, errW_some] <;> rfl) | (simp [*, errW_none, errW_some] <;> rfl), by (with_reducible repeat (first | apply Kd.R_alloc | apply Kd.R_drewN | apply Kd.R_drew)); exact Kd.R_mono HO344.out (fun _ hk => trivial), XShort.bel⟩
 ·rw [if_neg c3] at H
  have c3b0 : (t334 == 0) = false := beq_eq_false_iff_ne.mpr c3
  have c3b1 : (t334 != 0) = true := bne_iff_ne.mpr c3
  simp only [Option.some.injEq, Prod.mk.injEq] at H
  obtain ⟨rfl, rfl⟩ := H
  go_enter Tryd.func6, Tryd.ntmps6
  go_wp2_with (first | ((with_reducible refine gate_callee (f := 17) rfl ?_); refine goesL_ (some 13) rfl rfl Tryd.func17 (by kernel_rfl) rfl #[.slice A0 l0.length c0] rfl (by (try simp only [List.map_toArray, List.map_cons, List.map_nil]); first | done | rfl | (simp only [List.length_drop, List.length_take]; rfl)) ?_; (with_reducible refine (thistleref02_Check.calls k _ _ l0 t334 _ ?side1 ?side2 A2.out).mono ?_); (case side1 => repeat (first | exact HR0.out | (with_reducible refine Kd.C_alloc ?_ _) | (with_reducible refine Kd.C_drewN ?_ _) | (with_reducible refine Kd.C_drew ?_))); (case side2 => exact HC0.out); rintro e w30 ⟨rfl, hb⟩; refine ⟨_, rfl, ?_⟩; have n0_ := Aside0.mk (below_step XShort.bel hb); clear HB; have HB := n0_; clear n0_; (try clear hb); (try clear hb2); (try clear hk); (try clear hi)))
  go_ret2
  exact ⟨_, by first | rfl | (simp [errW_none, errW_some] <;> rfl) | (simp [*, errW_none, errW_some] <;> rfl), by first | exact Kd.R_nil _ _ _ _ _ | exact Kd.N_nil _ _ _ _ _ | exact Kd.V_nil _ _ _ _ _ | exact Kd.Q_nil _ _ _ _ _ | exact Kd.S_nil _ _ _ _ _, XShort.bel⟩

-- NOT PRINTED: function 46 (api_Range_46)

end Go.Proofs.YtcpjflgiimjfmaaDoor.XF
