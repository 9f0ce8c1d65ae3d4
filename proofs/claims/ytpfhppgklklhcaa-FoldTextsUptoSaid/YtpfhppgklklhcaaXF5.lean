/- WRITTEN BY A PROGRAM OF THIS SESSION (wip/tools/xprint.py, over the kit's printer): contracts of the functions that the seat's laws reach. -/
import Derived.Test.YtpfhppgklklhcaaXF0
import Derived.Test.YtpfhppgklklhcaaXF4
namespace Go.Proofs.Ytpfhppgklklhcaa.XF
open Go.RowKit Go.Proofs.YtpfhppgklklhcaaW.PrintWords Go.Proofs.YtpfhppgklklhcaaW.PrintLast Go.Proofs.YtpfhppgklklhcaaW.PrintMore
attribute [local go_sem] max2_int min2_int max_two min_two max_three min_three max_four min_four   -- for this text's walks alone
set_option linter.unusedVariables false
set_option linter.unusedSimpArgs false

/-! ### thistleref03_partners: function 26 -/
mutual
def thistleref03_partners.l0 : Nat → Int → List Int → List (S55) → Int → Option (List Int)
  | 0, _, _, _, _ => none
  | k + 1, x0, x3, x4, x5 => if x5 < (x4.length : Int) then (if 0 ≤ x5 then (if x0 < 0 then (thistleref03_partners.j1 k x0 x3 x4 x5 true ((rd_T55 x4 x5).f0) ((rd_T55 x4 x5).f1) ((rd_T55 x4 x5).f2) ((rd_T55 x4 x5).f3) ((rd_T55 x4 x5).f4)) else (thistleref03_partners.j1 k x0 x3 x4 x5 (decide (x0 > 1114111)) ((rd_T55 x4 x5).f0) ((rd_T55 x4 x5).f1) ((rd_T55 x4 x5).f2) ((rd_T55 x4 x5).f3) ((rd_T55 x4 x5).f4))) else (none)) else (some x3)
def thistleref03_partners.j1 : Nat → Int → List Int → List (S55) → Int → Bool → Int → Int → Int → Int → Int → Option (List Int)
  | 0, _, _, _, _, _, _, _, _, _, _ => none
  | k + 1, x0, x3, x4, x5, x23, x159000, x159001, x159002, x159003, x159004 => if x23 = true then (thistleref03_partners.l0 k x0 x3 x4 (wrap64 (x5 + 1))) else ((thistleref03_names.f x159000 x159001 x159002 x159003 x159004 x0).bind fun t159 => (if t159 = true then (if x3.length < 35184372088832 then ((some (x3 ++ [wrap32 (x0 + x159003)] : List Int)).bind fun y160 => ((thistleref03_names.f x159000 x159001 x159002 x159003 x159004 (wrap32 (x0 - x159003))).bind fun t163 => (if t163 = true then (if y160.length < 35184372088832 then (thistleref03_partners.l0 k x0 (y160 ++ [wrap32 (x0 - x159003)]) x4 (wrap64 (x5 + 1))) else (none)) else (thistleref03_partners.l0 k x0 y160 x4 (wrap64 (x5 + 1)))))) else (none)) else ((thistleref03_names.f x159000 x159001 x159002 x159003 x159004 (wrap32 (x0 - x159003))).bind fun t167 => (if t167 = true then (if x3.length < 35184372088832 then (thistleref03_partners.l0 k x0 (x3 ++ [wrap32 (x0 - x159003)]) x4 (wrap64 (x5 + 1))) else (none)) else (thistleref03_partners.l0 k x0 x3 x4 (wrap64 (x5 + 1)))))))
end
def thistleref03_partners.f (k : Nat) (a0 : Int) : Option (List Int) := (thistleref03_Rules.f).bind fun t154 => (thistleref03_partners.l0 k a0 ([] : List Int) t154 0)
theorem thistleref03_partners.mono_l : ∀ k, (∀ y0 y1 y2 y3, LeO (thistleref03_partners.l0 k y0 y1 y2 y3) (thistleref03_partners.l0 (k + 1) y0 y1 y2 y3)) ∧ (∀ y0 y1 y2 y3 y4 y5 y6 y7 y8 y9, LeO (thistleref03_partners.j1 k y0 y1 y2 y3 y4 y5 y6 y7 y8 y9) (thistleref03_partners.j1 (k + 1) y0 y1 y2 y3 y4 y5 y6 y7 y8 y9))
  | 0 => ⟨fun _ _ _ _ r h => by simp [thistleref03_partners.l0] at h, fun _ _ _ _ _ _ _ _ _ _ r h => by simp [thistleref03_partners.j1] at h⟩
  | k + 1 => by
    obtain ⟨ih0, ih1⟩ := thistleref03_partners.mono_l k
    refine ⟨?_, ?_⟩
    · intro y0 y1 y2 y3
      unfold thistleref03_partners.l0
      repeat' first
      | (with_reducible exact ih0 _ _ _ _)
      | (with_reducible exact ih1 _ _ _ _ _ _ _ _ _ _)
      | (with_reducible exact LeO.refl _)
      | (with_reducible exact LeO.none _)
      | (with_reducible refine LeO.ite ?_ ?_)
      | (with_reducible refine LeO.bind ?_ (fun _ => ?_))
      | exact ih0 _ _ _ _
      | exact ih1 _ _ _ _ _ _ _ _ _ _
      | exact LeO.none _
      | refine LeO.ite ?_ ?_
      | refine LeO.bind ?_ (fun _ => ?_)
    · intro y0 y1 y2 y3 y4 y5 y6 y7 y8 y9
      unfold thistleref03_partners.j1
      repeat' first
      | (with_reducible exact ih0 _ _ _ _)
      | (with_reducible exact ih1 _ _ _ _ _ _ _ _ _ _)
      | (with_reducible exact LeO.refl _)
      | (with_reducible exact LeO.none _)
      | (with_reducible refine LeO.ite ?_ ?_)
      | (with_reducible refine LeO.bind ?_ (fun _ => ?_))
      | exact ih0 _ _ _ _
      | exact ih1 _ _ _ _ _ _ _ _ _ _
      | exact LeO.none _
      | refine LeO.ite ?_ ?_
      | refine LeO.bind ?_ (fun _ => ?_)
theorem thistleref03_partners.mono : ∀ a0 k, LeO (thistleref03_partners.f k a0) (thistleref03_partners.f (k + 1) a0) := by
  intro a0 k
  obtain ⟨ih0, ih1⟩ := thistleref03_partners.mono_l k
  unfold thistleref03_partners.f
  repeat' first
      | (with_reducible exact ih0 _ _ _ _)
      | (with_reducible exact ih1 _ _ _ _ _ _ _ _ _ _)
      | (with_reducible exact LeO.refl _)
      | (with_reducible exact LeO.none _)
      | (with_reducible refine LeO.ite ?_ ?_)
      | (with_reducible refine LeO.bind ?_ (fun _ => ?_))
      | exact ih0 _ _ _ _
      | exact ih1 _ _ _ _ _ _ _ _ _ _
      | exact LeO.none _
      | refine LeO.ite ?_ ?_
      | refine LeO.bind ?_ (fun _ => ?_)
set_option maxHeartbeats 8000000 in
set_option maxRecDepth 100000 in
theorem thistleref03_partners.calls (k : Nat) (a0 : Int) (r : List Int) (w : World) (h : thistleref03_partners.f k a0 = some r) :
    Calls Try.prog 26 #[.int .i32 a0] w fun e w' => ∃ v0_ : Value, e = .returned (v0_) ∧ Kd.R (Kd.int .i32) 21 w' w.heap.size (fun _ => True) v0_ r ∧ Below w.heap.size w w' := by
  have hu55 := Try.underlying55
  have HB := Aside0.mk (Below.refl w.heap.size w)
  have H : ((thistleref03_Rules.f).bind fun t154 => (thistleref03_partners.l0 k a0 ([] : List Int) t154 0)) = some r := h
  clear h
  replace H := Option.bind_eq_some_iff.mp H
  obtain ⟨t154, A20, H⟩ := H
  replace H : (thistleref03_partners.l0 k a0 ([] : List Int) t154 0) = some r := H
  have A2 := Aside0.mk A20
  clear A20
  have H' := Aside0.mk H
  clear H
  go_enter Try.func26, Try.ntmps26
  go_wp2_with (first | ((with_reducible refine gate_callee (f := 40) rfl ?_); refine goesL_ (some 7) rfl rfl Try.func40 (by kernel_rfl) rfl #[] rfl (by (try simp only [List.map_toArray, List.map_cons, List.map_nil]); first | done | rfl | (simp only [List.length_drop, List.length_take]; rfl)) ?_; (with_reducible refine (thistleref03_Rules.calls  t154 _ A2.out).mono ?_); rintro e w3 ⟨v155, rfl, ho0, hb⟩; refine ⟨_, rfl, ?_⟩; have n0_ := Aside0.mk (Kd.R_lower ho0 (below_size (by repeat (first | (with_reducible first | exact HB.out | apply below_alloc | apply pw_below_drewN | apply below_drew1) | exact HB.out)))); have n1_ := Aside0.mk (below_step (by repeat (first | (with_reducible first | exact HB.out | apply below_alloc | apply pw_below_drewN | apply below_drew1) | exact HB.out)) hb); clear HB; have HO156 := n0_; have HB := n1_; clear n0_ n1_; (try clear hb); (try clear hb2); (try clear hk); (try clear hi); (try clear ho0)))
  go_loopg [3, 5] k (fun kq v3 v5 w' => ∃ (x3_1 : List Int) (x5_1 : Int), v5 = .int .i64 x5_1 ∧ Aside0 (thistleref03_partners.l0 kq a0 x3_1 t154 x5_1 = some r) ∧ Aside0 (kq ≤ k) ∧ Aside0 (Kd.R (Kd.int .i32) 21 w' w.heap.size (fun _ => True) v3 x3_1) ∧ Aside0 (Kd.R k55 55 w' w.heap.size (fun _ => True) v155 t154) ∧ Aside0 (Below w.heap.size w w'))
  case atStart => exact ⟨(([] : List Int)), (0), (by first | rfl | (simp; done) | (simp [*]; done)), H', ⟨Nat.le_refl _⟩, ⟨by first | exact Kd.R_nil _ _ _ _ _ | exact Kd.N_nil _ _ _ _ _ | exact Kd.V_nil _ _ _ _ _ | exact Kd.Q_nil _ _ _ _ _ | exact Kd.S_nil _ _ _ _ _⟩, ⟨by (with_reducible repeat (first | apply Kd.R_alloc | apply Kd.R_drewN | apply Kd.R_drew)); exact HO156.out⟩, ⟨by repeat (first | (with_reducible first | exact HB.out | apply below_alloc | apply pw_below_drewN | apply below_drew1) | exact HB.out)⟩⟩
  case round =>
    clear H'
    try clear c2
    try clear p2
    obtain ⟨x3_1, x5_1, rfl, HA, HK1, HO_3, HO_4, HB⟩ := hrel
    cases gk with
    | zero => exact absurd HA.out (by simp [thistleref03_partners.l0])
    | succ k1 =>
      have H := HA.out
      clear HA
      simp only [thistleref03_partners.l0] at H
      by_cases c4 : x5_1 < (t154.length : Int)
      · rw [if_pos c4] at H
        have c4b0 : decide (x5_1 < (t154.length : Int)) = true := decide_eq_true c4
        clear c4
        by_cases c5 : 0 ≤ x5_1
        · rw [if_pos c5] at H
          have c5b0 : decide (0 ≤ x5_1) = true := decide_eq_true c5
          clear c5
          have HC6 := Aside0.mk H
          clear H
          obtain ⟨Ao7, co7, eo7⟩ := Kd.R_slice HO_4.out
          subst eo7
          have p157 : 0 ≤ (x5_1 : Int) := of_decide_eq_true (by first | (with_reducible assumption) | assumption)
          have q157 : x5_1 < (t154.length : Int) := of_decide_eq_true (by first | (with_reducible assumption) | assumption)
          obtain ⟨ad157, e157, hx157_0, hx157_1, hx157_2, hx157_3, hx157_4⟩ := at_T55 (Kd.R_reads' HO_4.out).2.2 x5_1 p157 q157
          cases e157
          replace p157 := eq_true p157
          replace q157 := eq_true q157
          go_upto_region 7 with (first | ((with_reducible refine gate_dst (N := 6) rfl ?_); refine box_event ?hg (N := 6) ?hd (cs := #[.int .i32 0, .int .i32 0, .int .i32 0, .int .i32 0, .int .i32 0]) (t := 55) ?hr ?_; (case hd => rfl); (case hg => rfl); (case hr => first | (go_simp; done) | (go_simp; rfl)); intro gb158 hg w8 hbox hb; have n0_ := Aside0.mk (Kd.R_below (by (with_reducible repeat (first | apply Kd.R_alloc | apply Kd.R_drewN | apply Kd.R_drew)); exact HO_3.out) hb); have n1_ := Aside0.mk (Kd.R_below (Kd.R_elderB (by (with_reducible repeat (first | apply Kd.R_alloc | apply Kd.R_drewN | apply Kd.R_drew)); exact HO_4.out) gb158 (Nat.le_of_eq hg.symm)) hb); have n2_ := Aside0.mk (below_step (by repeat (first | (with_reducible first | exact HB.out | apply below_alloc | apply pw_below_drewN | apply below_drew1) | exact HB.out)) hb); have n3_ := Aside0.mk (hbox); have n4_ := Aside0.mk ((by rw [hg]; exact (below_size (by repeat (first | (with_reducible first | exact HB.out | apply below_alloc | apply pw_below_drewN | apply below_drew1) | exact HB.out))) : w.heap.size ≤ gb158)); have n5_ := Aside0.mk ((by rw [hg]; exact (below_size (by repeat (first | (with_reducible first | exact HB.out | apply below_alloc | apply pw_below_drewN | apply below_drew1) | exact HB.out))) : w.heap.size ≤ gb158)); clear HO_3; clear HO_4; clear HB; have HO_3 := n0_; have HO_4 := n1_; have HB := n2_; have BK158 := n3_; have GW158 := n4_; have GE158 := n5_; clear n0_ n1_ n2_ n3_ n4_ n5_; clear hb hbox hg; have hcz9_0 : w8.cell? ⟨gb158, 0, none⟩ = some (.int .i32 0) := (blk_cell BK158.out 0).trans rfl; have hcz9_1 : w8.cell? ⟨gb158, 1, none⟩ = some (.int .i32 0) := (blk_cell BK158.out 1).trans rfl; have hcz9_2 : w8.cell? ⟨gb158, 2, none⟩ = some (.int .i32 0) := (blk_cell BK158.out 2).trans rfl; have hcz9_3 : w8.cell? ⟨gb158, 3, none⟩ = some (.int .i32 0) := (blk_cell BK158.out 3).trans rfl; have hcz9_4 : w8.cell? ⟨gb158, 4, none⟩ = some (.int .i32 0) := (blk_cell BK158.out 4).trans rfl; have hfz9_0 := blk_frozen BK158.out 0; have hfz9_1 := blk_frozen BK158.out 1; have hfz9_2 := blk_frozen BK158.out 2; have hfz9_3 := blk_frozen BK158.out 3; have hfz9_4 := blk_frozen BK158.out 4))
          (try simp only [Act.put, List.setIfInBounds_toArray, List.set_cons_zero, List.set_cons_succ])
          go_cut [23] (fun v23 wc => ∃ (kq : Nat) (x23_5 : Bool), v23 = .bool x23_5 ∧ Aside0 (thistleref03_partners.j1 kq a0 x3_1 t154 x5_1 x23_5 ((rd_T55 t154 x5_1).f0) ((rd_T55 t154 x5_1).f1) ((rd_T55 t154 x5_1).f2) ((rd_T55 t154 x5_1).f3) ((rd_T55 t154 x5_1).f4) = some r) ∧ Aside0 (kq ≤ k1) ∧ Aside0 (Kd.R (Kd.int .i32) 21 wc w.heap.size (fun _ => True) u3 x3_1) ∧ Aside0 (Kd.R k55 55 wc w.heap.size (fun k_ => k_ ≠ gb158) (.slice (some ad157) t154.length co7) t154) ∧ Aside0 (wc.heap[gb158]? = some (.cells #[.int .i32 ((rd_T55 t154 x5_1).f0), .int .i32 ((rd_T55 t154 x5_1).f1), .int .i32 ((rd_T55 t154 x5_1).f2), .int .i32 ((rd_T55 t154 x5_1).f3), .int .i32 ((rd_T55 t154 x5_1).f4)] 55 (0, 0))) ∧ Aside0 (Below w.heap.size w wc))
          case first =>
            have H := HC6.out
            clear HC6
            by_cases c10 : a0 < 0
            · rw [if_pos c10] at H
              have c10b0 : decide (a0 < 0) = true := decide_eq_true c10
              clear c10
              (first | rw [c10b0] | (simp only [i64_w, i32_w]; rw [c10b0]) | skip)
              have H' := Aside0.mk H
              clear H
              go_wp2
              go_meet
              case rel => exact ⟨_, (true), (by first | rfl | (simp; done) | (simp [*]; done)), H', ⟨by have := HK1.out; first | omega | exact Nat.le_refl _⟩, ⟨by (with_reducible repeat (first | apply Kd.R_alloc | apply Kd.R_drewN | apply Kd.R_drew)); exact Kd.R_mono (Kd.R_far (p := ⟨gb158, 4, none⟩) (Kd.R_far (p := ⟨gb158, 3, none⟩) (Kd.R_far (p := ⟨gb158, 2, none⟩) (Kd.R_far (p := ⟨gb158, 1, none⟩) (Kd.R_far (p := ⟨gb158, 0, none⟩) (Kd.R_types HO_3.out BK158.out (by decide)) (fun _ hk => hk.2) (.int .i32 ((rd_T55 t154 x5_1).f0))) (fun _ hk => hk.2) (.int .i32 ((rd_T55 t154 x5_1).f1))) (fun _ hk => hk.2) (.int .i32 ((rd_T55 t154 x5_1).f2))) (fun _ hk => hk.2) (.int .i32 ((rd_T55 t154 x5_1).f3))) (fun _ hk => hk.2) (.int .i32 ((rd_T55 t154 x5_1).f4))) (fun _ hk => trivial)⟩, ⟨by (with_reducible repeat (first | apply Kd.R_alloc | apply Kd.R_drewN | apply Kd.R_drew)); exact Kd.R_mono (Kd.R_far (p := ⟨gb158, 4, none⟩) (Kd.R_far (p := ⟨gb158, 3, none⟩) (Kd.R_far (p := ⟨gb158, 2, none⟩) (Kd.R_far (p := ⟨gb158, 1, none⟩) (Kd.R_far (p := ⟨gb158, 0, none⟩) (Kd.R_mono HO_4.out (fun k_ hk => (⟨hk, hk.2⟩ : _ ∧ k_ ≠ gb158))) (fun _ hk => hk.2) (.int .i32 ((rd_T55 t154 x5_1).f0))) (fun _ hk => hk.2) (.int .i32 ((rd_T55 t154 x5_1).f1))) (fun _ hk => hk.2) (.int .i32 ((rd_T55 t154 x5_1).f2))) (fun _ hk => hk.2) (.int .i32 ((rd_T55 t154 x5_1).f3))) (fun _ hk => hk.2) (.int .i32 ((rd_T55 t154 x5_1).f4))) (fun _ hk => hk.1.2)⟩, ⟨by (with_reducible repeat (first | refine blk_drewN ?_ _ | refine blk_drew ?_ | refine blk_alloc ?_ _)); refine blk_put (cs := #[.int .i32 ((rd_T55 t154 x5_1).f0), .int .i32 ((rd_T55 t154 x5_1).f1), .int .i32 ((rd_T55 t154 x5_1).f2), .int .i32 ((rd_T55 t154 x5_1).f3), .int .i32 0]) ?_ 4 _ rfl; (with_reducible repeat (first | refine blk_drewN ?_ _ | refine blk_drew ?_ | refine blk_alloc ?_ _)); refine blk_put (cs := #[.int .i32 ((rd_T55 t154 x5_1).f0), .int .i32 ((rd_T55 t154 x5_1).f1), .int .i32 ((rd_T55 t154 x5_1).f2), .int .i32 0, .int .i32 0]) ?_ 3 _ rfl; (with_reducible repeat (first | refine blk_drewN ?_ _ | refine blk_drew ?_ | refine blk_alloc ?_ _)); refine blk_put (cs := #[.int .i32 ((rd_T55 t154 x5_1).f0), .int .i32 ((rd_T55 t154 x5_1).f1), .int .i32 0, .int .i32 0, .int .i32 0]) ?_ 2 _ rfl; (with_reducible repeat (first | refine blk_drewN ?_ _ | refine blk_drew ?_ | refine blk_alloc ?_ _)); refine blk_put (cs := #[.int .i32 ((rd_T55 t154 x5_1).f0), .int .i32 0, .int .i32 0, .int .i32 0, .int .i32 0]) ?_ 1 _ rfl; (with_reducible repeat (first | refine blk_drewN ?_ _ | refine blk_drew ?_ | refine blk_alloc ?_ _)); refine blk_put (cs := #[.int .i32 0, .int .i32 0, .int .i32 0, .int .i32 0, .int .i32 0]) ?_ 0 _ rfl; (with_reducible repeat (first | refine blk_drewN ?_ _ | refine blk_drew ?_ | refine blk_alloc ?_ _)); exact BK158.out⟩, ⟨by repeat (first | (with_reducible first | exact HB.out | apply below_alloc | apply pw_below_drewN | apply below_drew1 | refine below_set ?_ GE158.out) | exact HB.out)⟩⟩
            · rw [if_neg c10] at H
              have c10b0 : decide (a0 < 0) = false := decide_eq_false c10
              clear c10
              (first | rw [c10b0] | (simp only [i64_w, i32_w]; rw [c10b0]) | skip)
              have H' := Aside0.mk H
              clear H
              go_wp2
              go_meet
              case rel => exact ⟨_, (decide (a0 > 1114111)), (by first | rfl | (simp; done) | (simp [*]; done)), H', ⟨by have := HK1.out; first | omega | exact Nat.le_refl _⟩, ⟨by (with_reducible repeat (first | apply Kd.R_alloc | apply Kd.R_drewN | apply Kd.R_drew)); exact Kd.R_mono (Kd.R_far (p := ⟨gb158, 4, none⟩) (Kd.R_far (p := ⟨gb158, 3, none⟩) (Kd.R_far (p := ⟨gb158, 2, none⟩) (Kd.R_far (p := ⟨gb158, 1, none⟩) (Kd.R_far (p := ⟨gb158, 0, none⟩) (Kd.R_types HO_3.out BK158.out (by decide)) (fun _ hk => hk.2) (.int .i32 ((rd_T55 t154 x5_1).f0))) (fun _ hk => hk.2) (.int .i32 ((rd_T55 t154 x5_1).f1))) (fun _ hk => hk.2) (.int .i32 ((rd_T55 t154 x5_1).f2))) (fun _ hk => hk.2) (.int .i32 ((rd_T55 t154 x5_1).f3))) (fun _ hk => hk.2) (.int .i32 ((rd_T55 t154 x5_1).f4))) (fun _ hk => trivial)⟩, ⟨by (with_reducible repeat (first | apply Kd.R_alloc | apply Kd.R_drewN | apply Kd.R_drew)); exact Kd.R_mono (Kd.R_far (p := ⟨gb158, 4, none⟩) (Kd.R_far (p := ⟨gb158, 3, none⟩) (Kd.R_far (p := ⟨gb158, 2, none⟩) (Kd.R_far (p := ⟨gb158, 1, none⟩) (Kd.R_far (p := ⟨gb158, 0, none⟩) (Kd.R_mono HO_4.out (fun k_ hk => (⟨hk, hk.2⟩ : _ ∧ k_ ≠ gb158))) (fun _ hk => hk.2) (.int .i32 ((rd_T55 t154 x5_1).f0))) (fun _ hk => hk.2) (.int .i32 ((rd_T55 t154 x5_1).f1))) (fun _ hk => hk.2) (.int .i32 ((rd_T55 t154 x5_1).f2))) (fun _ hk => hk.2) (.int .i32 ((rd_T55 t154 x5_1).f3))) (fun _ hk => hk.2) (.int .i32 ((rd_T55 t154 x5_1).f4))) (fun _ hk => hk.1.2)⟩, ⟨by (with_reducible repeat (first | refine blk_drewN ?_ _ | refine blk_drew ?_ | refine blk_alloc ?_ _)); refine blk_put (cs := #[.int .i32 ((rd_T55 t154 x5_1).f0), .int .i32 ((rd_T55 t154 x5_1).f1), .int .i32 ((rd_T55 t154 x5_1).f2), .int .i32 ((rd_T55 t154 x5_1).f3), .int .i32 0]) ?_ 4 _ rfl; (with_reducible repeat (first | refine blk_drewN ?_ _ | refine blk_drew ?_ | refine blk_alloc ?_ _)); refine blk_put (cs := #[.int .i32 ((rd_T55 t154 x5_1).f0), .int .i32 ((rd_T55 t154 x5_1).f1), .int .i32 ((rd_T55 t154 x5_1).f2), .int .i32 0, .int .i32 0]) ?_ 3 _ rfl; (with_reducible repeat (first | refine blk_drewN ?_ _ | refine blk_drew ?_ | refine blk_alloc ?_ _)); refine blk_put (cs := #[.int .i32 ((rd_T55 t154 x5_1).f0), .int .i32 ((rd_T55 t154 x5_1).f1), .int .i32 0, .int .i32 0, .int .i32 0]) ?_ 2 _ rfl; (with_reducible repeat (first | refine blk_drewN ?_ _ | refine blk_drew ?_ | refine blk_alloc ?_ _)); refine blk_put (cs := #[.int .i32 ((rd_T55 t154 x5_1).f0), .int .i32 0, .int .i32 0, .int .i32 0, .int .i32 0]) ?_ 1 _ rfl; (with_reducible repeat (first | refine blk_drewN ?_ _ | refine blk_drew ?_ | refine blk_alloc ?_ _)); refine blk_put (cs := #[.int .i32 0, .int .i32 0, .int .i32 0, .int .i32 0, .int .i32 0]) ?_ 0 _ rfl; (with_reducible repeat (first | refine blk_drewN ?_ _ | refine blk_drew ?_ | refine blk_alloc ?_ _)); exact BK158.out⟩, ⟨by repeat (first | (with_reducible first | exact HB.out | apply below_alloc | apply pw_below_drewN | apply below_drew1 | refine below_set ?_ GE158.out) | exact HB.out)⟩⟩
          case rest =>
            clear HC6
            try clear c1
            try clear p1
            try clear q1
            try clear hx1
            try clear c2
            try clear p2
            try clear c4
            try clear c4b0
            try clear c5
            try clear c5b0
            try clear c10
            try clear c10b0
            try clear hcz9_0
            try clear hcz9_1
            try clear hcz9_2
            try clear hcz9_3
            try clear hcz9_4
            try clear hfz9_0
            try clear hfz9_1
            try clear hfz9_2
            try clear hfz9_3
            try clear hfz9_4
            try clear hx157_0
            try clear hx157_1
            try clear hx157_2
            try clear hx157_3
            try clear hx157_4
            try clear p157
            try clear p2
            try clear q157
            obtain ⟨kq, x23_5, rfl, HA, HJ5, HO_3, HO_4, BK158, HB⟩ := hcut
            cases kq with
            | zero => exact absurd HA.out (by simp [thistleref03_partners.j1])
            | succ kj5 =>
              have H := HA.out
              clear HA
              simp only [thistleref03_partners.j1] at H
              by_cases c11 : x23_5 = true
              · subst c11
                have H1 : (thistleref03_partners.l0 kj5 a0 x3_1 t154 (wrap64 (x5_1 + 1))) = some r := by rw [if_pos rfl] at H; exact H
                clear H
                have H := H1
                clear H1
                have H' := Aside0.mk H
                clear H
                go_wp2
                go_roundg kj5
                case measure => have := HK1.out; have := HJ5.out; omega
                case rel => exact ⟨(x3_1), (wrap64 (x5_1 + 1)), (by first | rfl | (simp; done) | (simp [*]; done)), H', ⟨by have := HK1.out; have := HJ5.out; omega⟩, ⟨by (with_reducible repeat (first | apply Kd.R_alloc | apply Kd.R_drewN | apply Kd.R_drew)); exact HO_3.out⟩, ⟨by (with_reducible repeat (first | apply Kd.R_alloc | apply Kd.R_drewN | apply Kd.R_drew)); exact Kd.R_mono HO_4.out (fun _ hk => trivial)⟩, ⟨by repeat (first | (with_reducible first | exact HB.out | apply below_alloc | apply pw_below_drewN | apply below_drew1 | refine below_set ?_ GE158.out) | exact HB.out)⟩⟩
              · replace c11 := Bool.eq_false_iff.mpr c11
                subst c11
                have H1 : ((thistleref03_names.f ((rd_T55 t154 x5_1).f0) ((rd_T55 t154 x5_1).f1) ((rd_T55 t154 x5_1).f2) ((rd_T55 t154 x5_1).f3) ((rd_T55 t154 x5_1).f4) a0).bind fun t159 => (if t159 = true then (if x3_1.length < 35184372088832 then ((some (x3_1 ++ [wrap32 (a0 + ((rd_T55 t154 x5_1).f3))] : List Int)).bind fun y160 => ((thistleref03_names.f ((rd_T55 t154 x5_1).f0) ((rd_T55 t154 x5_1).f1) ((rd_T55 t154 x5_1).f2) ((rd_T55 t154 x5_1).f3) ((rd_T55 t154 x5_1).f4) (wrap32 (a0 - ((rd_T55 t154 x5_1).f3)))).bind fun t163 => (if t163 = true then (if y160.length < 35184372088832 then (thistleref03_partners.l0 kj5 a0 (y160 ++ [wrap32 (a0 - ((rd_T55 t154 x5_1).f3))]) t154 (wrap64 (x5_1 + 1))) else (none)) else (thistleref03_partners.l0 kj5 a0 y160 t154 (wrap64 (x5_1 + 1)))))) else (none)) else ((thistleref03_names.f ((rd_T55 t154 x5_1).f0) ((rd_T55 t154 x5_1).f1) ((rd_T55 t154 x5_1).f2) ((rd_T55 t154 x5_1).f3) ((rd_T55 t154 x5_1).f4) (wrap32 (a0 - ((rd_T55 t154 x5_1).f3)))).bind fun t167 => (if t167 = true then (if x3_1.length < 35184372088832 then (thistleref03_partners.l0 kj5 a0 (x3_1 ++ [wrap32 (a0 - ((rd_T55 t154 x5_1).f3))]) t154 (wrap64 (x5_1 + 1))) else (none)) else (thistleref03_partners.l0 kj5 a0 x3_1 t154 (wrap64 (x5_1 + 1))))))) = some r := by rw [if_neg (show ¬ (false = true) by decide)] at H; exact H
                clear H
                have H := H1
                clear H1
                replace H := Option.bind_eq_some_iff.mp H
                obtain ⟨t159, A120, H⟩ := H
                replace H : (if t159 = true then (if x3_1.length < 35184372088832 then ((some (x3_1 ++ [wrap32 (a0 + ((rd_T55 t154 x5_1).f3))] : List Int)).bind fun y160 => ((thistleref03_names.f ((rd_T55 t154 x5_1).f0) ((rd_T55 t154 x5_1).f1) ((rd_T55 t154 x5_1).f2) ((rd_T55 t154 x5_1).f3) ((rd_T55 t154 x5_1).f4) (wrap32 (a0 - ((rd_T55 t154 x5_1).f3)))).bind fun t163 => (if t163 = true then (if y160.length < 35184372088832 then (thistleref03_partners.l0 kj5 a0 (y160 ++ [wrap32 (a0 - ((rd_T55 t154 x5_1).f3))]) t154 (wrap64 (x5_1 + 1))) else (none)) else (thistleref03_partners.l0 kj5 a0 y160 t154 (wrap64 (x5_1 + 1)))))) else (none)) else ((thistleref03_names.f ((rd_T55 t154 x5_1).f0) ((rd_T55 t154 x5_1).f1) ((rd_T55 t154 x5_1).f2) ((rd_T55 t154 x5_1).f3) ((rd_T55 t154 x5_1).f4) (wrap32 (a0 - ((rd_T55 t154 x5_1).f3)))).bind fun t167 => (if t167 = true then (if x3_1.length < 35184372088832 then (thistleref03_partners.l0 kj5 a0 (x3_1 ++ [wrap32 (a0 - ((rd_T55 t154 x5_1).f3))]) t154 (wrap64 (x5_1 + 1))) else (none)) else (thistleref03_partners.l0 kj5 a0 x3_1 t154 (wrap64 (x5_1 + 1)))))) = some r := H
                have A12 := Aside0.mk A120
                clear A120
                by_cases c13 : t159 = true
                · subst c13
                  have H1 : (if x3_1.length < 35184372088832 then ((some (x3_1 ++ [wrap32 (a0 + ((rd_T55 t154 x5_1).f3))] : List Int)).bind fun y160 => ((thistleref03_names.f ((rd_T55 t154 x5_1).f0) ((rd_T55 t154 x5_1).f1) ((rd_T55 t154 x5_1).f2) ((rd_T55 t154 x5_1).f3) ((rd_T55 t154 x5_1).f4) (wrap32 (a0 - ((rd_T55 t154 x5_1).f3)))).bind fun t163 => (if t163 = true then (if y160.length < 35184372088832 then (thistleref03_partners.l0 kj5 a0 (y160 ++ [wrap32 (a0 - ((rd_T55 t154 x5_1).f3))]) t154 (wrap64 (x5_1 + 1))) else (none)) else (thistleref03_partners.l0 kj5 a0 y160 t154 (wrap64 (x5_1 + 1)))))) else (none)) = some r := by rw [if_pos rfl] at H; exact H
                  clear H
                  have H := H1
                  clear H1
                  by_cases c14 : x3_1.length < 35184372088832
                  · rw [if_pos c14] at H
                    have LMc14 := Aside0.mk c14
                    clear c14
                    obtain ⟨y160, hy160⟩ : ∃ y_ : List Int, y_ = (x3_1 ++ [wrap32 (a0 + ((rd_T55 t154 x5_1).f3))]) := ⟨_, rfl⟩
                    replace H : ((thistleref03_names.f ((rd_T55 t154 x5_1).f0) ((rd_T55 t154 x5_1).f1) ((rd_T55 t154 x5_1).f2) ((rd_T55 t154 x5_1).f3) ((rd_T55 t154 x5_1).f4) (wrap32 (a0 - ((rd_T55 t154 x5_1).f3)))).bind fun t163 => (if t163 = true then (if y160.length < 35184372088832 then (thistleref03_partners.l0 kj5 a0 (y160 ++ [wrap32 (a0 - ((rd_T55 t154 x5_1).f3))]) t154 (wrap64 (x5_1 + 1))) else (none)) else (thistleref03_partners.l0 kj5 a0 y160 t154 (wrap64 (x5_1 + 1))))) = some r := by first | (rw [hy160]; with_reducible exact H) | (have H2_ := (Option.bind_some _ _).symm.trans H; rw [hy160]; with_reducible exact H2_) | (have H2_ := (Option.bind_some _ _).symm.trans H; with_reducible exact H2_) | with_reducible exact H | (rw [hy160]; exact H) | exact H
                    have Ny160 := Aside0.mk hy160
                    clear hy160
                    replace H := Option.bind_eq_some_iff.mp H
                    obtain ⟨t163, A150, H⟩ := H
                    replace H : (if t163 = true then (if y160.length < 35184372088832 then (thistleref03_partners.l0 kj5 a0 (y160 ++ [wrap32 (a0 - ((rd_T55 t154 x5_1).f3))]) t154 (wrap64 (x5_1 + 1))) else (none)) else (thistleref03_partners.l0 kj5 a0 y160 t154 (wrap64 (x5_1 + 1)))) = some r := H
                    have A15 := Aside0.mk A150
                    clear A150
                    by_cases c16 : t163 = true
                    · subst c16
                      have H1 : (if y160.length < 35184372088832 then (thistleref03_partners.l0 kj5 a0 (y160 ++ [wrap32 (a0 - ((rd_T55 t154 x5_1).f3))]) t154 (wrap64 (x5_1 + 1))) else (none)) = some r := by rw [if_pos rfl] at H; exact H
                      clear H
                      have H := H1
                      clear H1
                      by_cases c17 : y160.length < 35184372088832
                      · rw [if_pos c17] at H
                        have LMc17 := Aside0.mk c17
                        clear c17
                        obtain ⟨y164, hy164⟩ : ∃ y_ : List Int, y_ = (y160 ++ [wrap32 (a0 - ((rd_T55 t154 x5_1).f3))]) := ⟨_, rfl⟩
                        replace H : (thistleref03_partners.l0 kj5 a0 y164 t154 (wrap64 (x5_1 + 1))) = some r := by first | (rw [hy164]; with_reducible exact H) | (have H2_ := (Option.bind_some _ _).symm.trans H; rw [hy164]; with_reducible exact H2_) | (have H2_ := (Option.bind_some _ _).symm.trans H; with_reducible exact H2_) | with_reducible exact H | (rw [hy164]; exact H) | exact H
                        have Ny164 := Aside0.mk hy164
                        clear hy164
                        have H' := Aside0.mk H
                        clear H
                        have hcz18_0 : wc.cell? ⟨gb158, 0, none⟩ = some (.int .i32 ((rd_T55 t154 x5_1).f0)) := (blk_cell BK158.out 0).trans rfl
                        have hcz18_1 : wc.cell? ⟨gb158, 1, none⟩ = some (.int .i32 ((rd_T55 t154 x5_1).f1)) := (blk_cell BK158.out 1).trans rfl
                        have hcz18_2 : wc.cell? ⟨gb158, 2, none⟩ = some (.int .i32 ((rd_T55 t154 x5_1).f2)) := (blk_cell BK158.out 2).trans rfl
                        have hcz18_3 : wc.cell? ⟨gb158, 3, none⟩ = some (.int .i32 ((rd_T55 t154 x5_1).f3)) := (blk_cell BK158.out 3).trans rfl
                        have hcz18_4 : wc.cell? ⟨gb158, 4, none⟩ = some (.int .i32 ((rd_T55 t154 x5_1).f4)) := (blk_cell BK158.out 4).trans rfl
                        have hfz18_0 := blk_frozen BK158.out 0
                        have hfz18_1 := blk_frozen BK158.out 1
                        have hfz18_2 := blk_frozen BK158.out 2
                        have hfz18_3 := blk_frozen BK158.out 3
                        have hfz18_4 := blk_frozen BK158.out 4
                        go_wp2_with (first | ((with_reducible refine gate_callee (f := 41) rfl ?_); refine goesL_ (some 26) rfl rfl Try.func41 (by kernel_rfl) rfl #[.agg #[.int .i32 ((rd_T55 t154 x5_1).f0), .int .i32 ((rd_T55 t154 x5_1).f1), .int .i32 ((rd_T55 t154 x5_1).f2), .int .i32 ((rd_T55 t154 x5_1).f3), .int .i32 ((rd_T55 t154 x5_1).f4)], .int .i32 a0] rfl (by (try simp only [List.map_toArray, List.map_cons, List.map_nil]); first | done | rfl | (simp only [List.length_drop, List.length_take]; rfl)) ?_; (with_reducible refine (thistleref03_names.calls ((rd_T55 t154 x5_1).f0) ((rd_T55 t154 x5_1).f1) ((rd_T55 t154 x5_1).f2) ((rd_T55 t154 x5_1).f3) ((rd_T55 t154 x5_1).f4) a0 true _ A12.out).mono ?_); rintro e w19 ⟨rfl, hb⟩; refine ⟨_, rfl, ?_⟩; have n0_ := Aside0.mk (Kd.R_below (by (with_reducible repeat (first | apply Kd.R_alloc | apply Kd.R_drewN | apply Kd.R_drew)); exact HO_3.out) hb); have n1_ := Aside0.mk (Kd.R_below (by (with_reducible repeat (first | apply Kd.R_alloc | apply Kd.R_drewN | apply Kd.R_drew)); exact HO_4.out) hb); have n2_ := Aside0.mk (blk_below (g := gb158) (o := .cells #[.int .i32 ((rd_T55 t154 x5_1).f0), .int .i32 ((rd_T55 t154 x5_1).f1), .int .i32 ((rd_T55 t154 x5_1).f2), .int .i32 ((rd_T55 t154 x5_1).f3), .int .i32 ((rd_T55 t154 x5_1).f4)] 55 (0, 0)) (by (with_reducible repeat (first | refine blk_drewN ?_ _ | refine blk_drew ?_ | refine blk_alloc ?_ _)); exact BK158.out) hb); have n3_ := Aside0.mk (below_step (by repeat (first | (with_reducible first | exact HB.out | apply below_alloc | apply pw_below_drewN | apply below_drew1 | refine below_set ?_ GE158.out) | exact HB.out)) hb); clear HO_3; clear HO_4; clear BK158; clear HB; have HO_3 := n0_; have HO_4 := n1_; have BK158 := n2_; have HB := n3_; clear n0_ n1_ n2_ n3_; (try clear hb); (try clear hb2); (try clear hk); (try clear hi); have hcz20_0 : w19.cell? ⟨gb158, 0, none⟩ = some (.int .i32 ((rd_T55 t154 x5_1).f0)) := (blk_cell BK158.out 0).trans rfl; have hcz20_1 : w19.cell? ⟨gb158, 1, none⟩ = some (.int .i32 ((rd_T55 t154 x5_1).f1)) := (blk_cell BK158.out 1).trans rfl; have hcz20_2 : w19.cell? ⟨gb158, 2, none⟩ = some (.int .i32 ((rd_T55 t154 x5_1).f2)) := (blk_cell BK158.out 2).trans rfl; have hcz20_3 : w19.cell? ⟨gb158, 3, none⟩ = some (.int .i32 ((rd_T55 t154 x5_1).f3)) := (blk_cell BK158.out 3).trans rfl; have hcz20_4 : w19.cell? ⟨gb158, 4, none⟩ = some (.int .i32 ((rd_T55 t154 x5_1).f4)) := (blk_cell BK158.out 4).trans rfl; have hfz20_0 := blk_frozen BK158.out 0; have hfz20_1 := blk_frozen BK158.out 1; have hfz20_2 := blk_frozen BK158.out 2; have hfz20_3 := blk_frozen BK158.out 3; have hfz20_4 := blk_frozen BK158.out 4) | ((with_reducible refine gate_builtin (b := .append) (xs := #[.tmp 27, .tmp 32]) rfl ?_); at_builtin; refine Kd.R_append (Kd.int .i32) (w0 := w) w.heap.size rfl (.tmp 27) (.tmp 32) 22 21 (.int .i32 0) 4 rfl Try.underlying22 info21 rfl (by decide) (by omega) u3 x3_1 (wrap32 (a0 + ((rd_T55 t154 x5_1).f3))) [.int .i32 (wrap32 (a0 + ((rd_T55 t154 x5_1).f3)))] (fun _ => True) (fun _ => False) rfl rfl ?aP (fun _ hk => hk.elim) ?aF ?aO ?aB ?aS ?aL ?_; (case aP => exact rfl); (case aB => exact (by repeat (first | (with_reducible first | exact HB.out | apply below_alloc | apply pw_below_drewN | apply below_drew1 | refine below_set ?_ GE158.out) | exact HB.out))); (case aF => exact (fun _ _ => trivial)); (case aO => exact (by (with_reducible repeat (first | apply Kd.R_alloc | apply Kd.R_drewN | apply Kd.R_drew)); exact HO_3.out)); (case aS => exact (below_size (by repeat (first | (with_reducible first | exact HB.out | apply below_alloc | apply pw_below_drewN | apply below_drew1 | refine below_set ?_ GE158.out) | exact HB.out)))); (case aL => have := LMc14.out; omega); intro v161 w21 ho hb hg hat; rw [← Ny160.out] at ho; have n0_ := Aside0.mk (Kd.R_over' (by (with_reducible repeat (first | apply Kd.R_alloc | apply Kd.R_drewN | apply Kd.R_drew)); exact HO_4.out) (Kd.R_typed (by (with_reducible repeat (first | apply Kd.R_alloc | apply Kd.R_drewN | apply Kd.R_drew)); exact HO_3.out)) (by decide) hg); have n1_ := Aside0.mk (blk_grown (g := gb158) (o := .cells #[.int .i32 ((rd_T55 t154 x5_1).f0), .int .i32 ((rd_T55 t154 x5_1).f1), .int .i32 ((rd_T55 t154 x5_1).f2), .int .i32 ((rd_T55 t154 x5_1).f3), .int .i32 ((rd_T55 t154 x5_1).f4)] 55 (0, 0)) (by (with_reducible repeat (first | refine blk_drewN ?_ _ | refine blk_drew ?_ | refine blk_alloc ?_ _)); exact BK158.out) hg (Kd.R_ne HO_3.out BK158.out (by decide))); have n2_ := Aside0.mk (hb); have n3_ := Aside0.mk (ho); clear HO_4; clear BK158; clear HB; clear HO_3; have HO_4 := n0_; have BK158 := n1_; have HB := n2_; have HO162 := n3_; clear n0_ n1_ n2_ n3_; clear ho hb hg hat; have hcz22_0 : w21.cell? ⟨gb158, 0, none⟩ = some (.int .i32 ((rd_T55 t154 x5_1).f0)) := (blk_cell BK158.out 0).trans rfl; have hcz22_1 : w21.cell? ⟨gb158, 1, none⟩ = some (.int .i32 ((rd_T55 t154 x5_1).f1)) := (blk_cell BK158.out 1).trans rfl; have hcz22_2 : w21.cell? ⟨gb158, 2, none⟩ = some (.int .i32 ((rd_T55 t154 x5_1).f2)) := (blk_cell BK158.out 2).trans rfl; have hcz22_3 : w21.cell? ⟨gb158, 3, none⟩ = some (.int .i32 ((rd_T55 t154 x5_1).f3)) := (blk_cell BK158.out 3).trans rfl; have hcz22_4 : w21.cell? ⟨gb158, 4, none⟩ = some (.int .i32 ((rd_T55 t154 x5_1).f4)) := (blk_cell BK158.out 4).trans rfl; have hfz22_0 := blk_frozen BK158.out 0; have hfz22_1 := blk_frozen BK158.out 1; have hfz22_2 := blk_frozen BK158.out 2; have hfz22_3 := blk_frozen BK158.out 3; have hfz22_4 := blk_frozen BK158.out 4) | ((with_reducible refine gate_callee (f := 41) rfl ?_); refine goesL_ (some 39) rfl rfl Try.func41 (by kernel_rfl) rfl #[.agg #[.int .i32 ((rd_T55 t154 x5_1).f0), .int .i32 ((rd_T55 t154 x5_1).f1), .int .i32 ((rd_T55 t154 x5_1).f2), .int .i32 ((rd_T55 t154 x5_1).f3), .int .i32 ((rd_T55 t154 x5_1).f4)], .int .i32 (wrap32 (a0 - ((rd_T55 t154 x5_1).f3)))] rfl (by (try simp only [List.map_toArray, List.map_cons, List.map_nil]); first | done | rfl | (simp only [List.length_drop, List.length_take]; rfl)) ?_; (with_reducible refine (thistleref03_names.calls ((rd_T55 t154 x5_1).f0) ((rd_T55 t154 x5_1).f1) ((rd_T55 t154 x5_1).f2) ((rd_T55 t154 x5_1).f3) ((rd_T55 t154 x5_1).f4) (wrap32 (a0 - ((rd_T55 t154 x5_1).f3))) true _ A15.out).mono ?_); rintro e w23 ⟨rfl, hb⟩; refine ⟨_, rfl, ?_⟩; have n0_ := Aside0.mk (Kd.R_below (by (with_reducible repeat (first | apply Kd.R_alloc | apply Kd.R_drewN | apply Kd.R_drew)); exact HO_4.out) hb); have n1_ := Aside0.mk (Kd.R_below (by (with_reducible repeat (first | apply Kd.R_alloc | apply Kd.R_drewN | apply Kd.R_drew)); exact HO162.out) hb); have n2_ := Aside0.mk (blk_below (g := gb158) (o := .cells #[.int .i32 ((rd_T55 t154 x5_1).f0), .int .i32 ((rd_T55 t154 x5_1).f1), .int .i32 ((rd_T55 t154 x5_1).f2), .int .i32 ((rd_T55 t154 x5_1).f3), .int .i32 ((rd_T55 t154 x5_1).f4)] 55 (0, 0)) (by (with_reducible repeat (first | refine blk_drewN ?_ _ | refine blk_drew ?_ | refine blk_alloc ?_ _)); exact BK158.out) hb); have n3_ := Aside0.mk (below_step (by repeat (first | (with_reducible first | exact HB.out | apply below_alloc | apply pw_below_drewN | apply below_drew1 | refine below_set ?_ GE158.out) | exact HB.out)) hb); clear HO_4; clear HO162; clear BK158; clear HB; have HO_4 := n0_; have HO162 := n1_; have BK158 := n2_; have HB := n3_; clear n0_ n1_ n2_ n3_; (try clear hb); (try clear hb2); (try clear hk); (try clear hi); have hcz24_0 : w23.cell? ⟨gb158, 0, none⟩ = some (.int .i32 ((rd_T55 t154 x5_1).f0)) := (blk_cell BK158.out 0).trans rfl; have hcz24_1 : w23.cell? ⟨gb158, 1, none⟩ = some (.int .i32 ((rd_T55 t154 x5_1).f1)) := (blk_cell BK158.out 1).trans rfl; have hcz24_2 : w23.cell? ⟨gb158, 2, none⟩ = some (.int .i32 ((rd_T55 t154 x5_1).f2)) := (blk_cell BK158.out 2).trans rfl; have hcz24_3 : w23.cell? ⟨gb158, 3, none⟩ = some (.int .i32 ((rd_T55 t154 x5_1).f3)) := (blk_cell BK158.out 3).trans rfl; have hcz24_4 : w23.cell? ⟨gb158, 4, none⟩ = some (.int .i32 ((rd_T55 t154 x5_1).f4)) := (blk_cell BK158.out 4).trans rfl; have hfz24_0 := blk_frozen BK158.out 0; have hfz24_1 := blk_frozen BK158.out 1; have hfz24_2 := blk_frozen BK158.out 2; have hfz24_3 := blk_frozen BK158.out 3; have hfz24_4 := blk_frozen BK158.out 4) | ((with_reducible refine gate_builtin (b := .append) (xs := #[.tmp 40, .tmp 45]) rfl ?_); at_builtin; refine Kd.R_append (Kd.int .i32) (w0 := w) w.heap.size rfl (.tmp 40) (.tmp 45) 22 21 (.int .i32 0) 4 rfl Try.underlying22 info21 rfl (by decide) (by omega) v161 y160 (wrap32 (a0 - ((rd_T55 t154 x5_1).f3))) [.int .i32 (wrap32 (a0 - ((rd_T55 t154 x5_1).f3)))] (fun _ => True) (fun _ => False) rfl rfl ?aP (fun _ hk => hk.elim) ?aF ?aO ?aB ?aS ?aL ?_; (case aP => exact rfl); (case aB => exact (by repeat (first | (with_reducible first | exact HB.out | apply below_alloc | apply pw_below_drewN | apply below_drew1 | refine below_set ?_ GE158.out) | exact HB.out))); (case aF => exact (fun _ _ => trivial)); (case aO => exact (by (with_reducible repeat (first | apply Kd.R_alloc | apply Kd.R_drewN | apply Kd.R_drew)); exact HO162.out)); (case aS => exact (below_size (by repeat (first | (with_reducible first | exact HB.out | apply below_alloc | apply pw_below_drewN | apply below_drew1 | refine below_set ?_ GE158.out) | exact HB.out)))); (case aL => have := LMc17.out; omega); intro v165 w25 ho hb hg hat; rw [← Ny164.out] at ho; have n0_ := Aside0.mk (Kd.R_over' (by (with_reducible repeat (first | apply Kd.R_alloc | apply Kd.R_drewN | apply Kd.R_drew)); exact HO_4.out) (Kd.R_typed (by (with_reducible repeat (first | apply Kd.R_alloc | apply Kd.R_drewN | apply Kd.R_drew)); exact HO162.out)) (by decide) hg); have n1_ := Aside0.mk (blk_grown (g := gb158) (o := .cells #[.int .i32 ((rd_T55 t154 x5_1).f0), .int .i32 ((rd_T55 t154 x5_1).f1), .int .i32 ((rd_T55 t154 x5_1).f2), .int .i32 ((rd_T55 t154 x5_1).f3), .int .i32 ((rd_T55 t154 x5_1).f4)] 55 (0, 0)) (by (with_reducible repeat (first | refine blk_drewN ?_ _ | refine blk_drew ?_ | refine blk_alloc ?_ _)); exact BK158.out) hg (Kd.R_ne HO162.out BK158.out (by decide))); have n2_ := Aside0.mk (hb); have n3_ := Aside0.mk (ho); clear HO_4; clear BK158; clear HB; clear HO162; have HO_4 := n0_; have BK158 := n1_; have HB := n2_; have HO166 := n3_; clear n0_ n1_ n2_ n3_; clear ho hb hg hat))
                        go_roundg kj5
                        case measure => have := HK1.out; have := HJ5.out; omega
                        case rel => exact ⟨(y164), (wrap64 (x5_1 + 1)), (by first | rfl | (simp; done) | (simp [*]; done)), H', ⟨by have := HK1.out; have := HJ5.out; omega⟩, ⟨by (with_reducible repeat (first | apply Kd.R_alloc | apply Kd.R_drewN | apply Kd.R_drew)); exact HO166.out⟩, ⟨by (with_reducible repeat (first | apply Kd.R_alloc | apply Kd.R_drewN | apply Kd.R_drew)); exact Kd.R_mono HO_4.out (fun _ hk => trivial)⟩, ⟨by repeat (first | (with_reducible first | exact HB.out | apply below_alloc | apply pw_below_drewN | apply below_drew1 | refine below_set ?_ GE158.out) | exact HB.out)⟩⟩
                      · rw [if_neg c17] at H
                        exact absurd H (by simp)
                    · replace c16 := Bool.eq_false_iff.mpr c16
                      subst c16
                      have H1 : (thistleref03_partners.l0 kj5 a0 y160 t154 (wrap64 (x5_1 + 1))) = some r := by rw [if_neg (show ¬ (false = true) by decide)] at H; exact H
                      clear H
                      have H := H1
                      clear H1
                      have H' := Aside0.mk H
                      clear H
                      have hcz26_0 : wc.cell? ⟨gb158, 0, none⟩ = some (.int .i32 ((rd_T55 t154 x5_1).f0)) := (blk_cell BK158.out 0).trans rfl
                      have hcz26_1 : wc.cell? ⟨gb158, 1, none⟩ = some (.int .i32 ((rd_T55 t154 x5_1).f1)) := (blk_cell BK158.out 1).trans rfl
                      have hcz26_2 : wc.cell? ⟨gb158, 2, none⟩ = some (.int .i32 ((rd_T55 t154 x5_1).f2)) := (blk_cell BK158.out 2).trans rfl
                      have hcz26_3 : wc.cell? ⟨gb158, 3, none⟩ = some (.int .i32 ((rd_T55 t154 x5_1).f3)) := (blk_cell BK158.out 3).trans rfl
                      have hcz26_4 : wc.cell? ⟨gb158, 4, none⟩ = some (.int .i32 ((rd_T55 t154 x5_1).f4)) := (blk_cell BK158.out 4).trans rfl
                      have hfz26_0 := blk_frozen BK158.out 0
                      have hfz26_1 := blk_frozen BK158.out 1
                      have hfz26_2 := blk_frozen BK158.out 2
                      have hfz26_3 := blk_frozen BK158.out 3
                      have hfz26_4 := blk_frozen BK158.out 4
                      go_wp2_with (first | ((with_reducible refine gate_callee (f := 41) rfl ?_); refine goesL_ (some 26) rfl rfl Try.func41 (by kernel_rfl) rfl #[.agg #[.int .i32 ((rd_T55 t154 x5_1).f0), .int .i32 ((rd_T55 t154 x5_1).f1), .int .i32 ((rd_T55 t154 x5_1).f2), .int .i32 ((rd_T55 t154 x5_1).f3), .int .i32 ((rd_T55 t154 x5_1).f4)], .int .i32 a0] rfl (by (try simp only [List.map_toArray, List.map_cons, List.map_nil]); first | done | rfl | (simp only [List.length_drop, List.length_take]; rfl)) ?_; (with_reducible refine (thistleref03_names.calls ((rd_T55 t154 x5_1).f0) ((rd_T55 t154 x5_1).f1) ((rd_T55 t154 x5_1).f2) ((rd_T55 t154 x5_1).f3) ((rd_T55 t154 x5_1).f4) a0 true _ A12.out).mono ?_); rintro e w27 ⟨rfl, hb⟩; refine ⟨_, rfl, ?_⟩; have n0_ := Aside0.mk (Kd.R_below (by (with_reducible repeat (first | apply Kd.R_alloc | apply Kd.R_drewN | apply Kd.R_drew)); exact HO_3.out) hb); have n1_ := Aside0.mk (Kd.R_below (by (with_reducible repeat (first | apply Kd.R_alloc | apply Kd.R_drewN | apply Kd.R_drew)); exact HO_4.out) hb); have n2_ := Aside0.mk (blk_below (g := gb158) (o := .cells #[.int .i32 ((rd_T55 t154 x5_1).f0), .int .i32 ((rd_T55 t154 x5_1).f1), .int .i32 ((rd_T55 t154 x5_1).f2), .int .i32 ((rd_T55 t154 x5_1).f3), .int .i32 ((rd_T55 t154 x5_1).f4)] 55 (0, 0)) (by (with_reducible repeat (first | refine blk_drewN ?_ _ | refine blk_drew ?_ | refine blk_alloc ?_ _)); exact BK158.out) hb); have n3_ := Aside0.mk (below_step (by repeat (first | (with_reducible first | exact HB.out | apply below_alloc | apply pw_below_drewN | apply below_drew1 | refine below_set ?_ GE158.out) | exact HB.out)) hb); clear HO_3; clear HO_4; clear BK158; clear HB; have HO_3 := n0_; have HO_4 := n1_; have BK158 := n2_; have HB := n3_; clear n0_ n1_ n2_ n3_; (try clear hb); (try clear hb2); (try clear hk); (try clear hi); have hcz28_0 : w27.cell? ⟨gb158, 0, none⟩ = some (.int .i32 ((rd_T55 t154 x5_1).f0)) := (blk_cell BK158.out 0).trans rfl; have hcz28_1 : w27.cell? ⟨gb158, 1, none⟩ = some (.int .i32 ((rd_T55 t154 x5_1).f1)) := (blk_cell BK158.out 1).trans rfl; have hcz28_2 : w27.cell? ⟨gb158, 2, none⟩ = some (.int .i32 ((rd_T55 t154 x5_1).f2)) := (blk_cell BK158.out 2).trans rfl; have hcz28_3 : w27.cell? ⟨gb158, 3, none⟩ = some (.int .i32 ((rd_T55 t154 x5_1).f3)) := (blk_cell BK158.out 3).trans rfl; have hcz28_4 : w27.cell? ⟨gb158, 4, none⟩ = some (.int .i32 ((rd_T55 t154 x5_1).f4)) := (blk_cell BK158.out 4).trans rfl; have hfz28_0 := blk_frozen BK158.out 0; have hfz28_1 := blk_frozen BK158.out 1; have hfz28_2 := blk_frozen BK158.out 2; have hfz28_3 := blk_frozen BK158.out 3; have hfz28_4 := blk_frozen BK158.out 4) | ((with_reducible refine gate_builtin (b := .append) (xs := #[.tmp 27, .tmp 32]) rfl ?_); at_builtin; refine Kd.R_append (Kd.int .i32) (w0 := w) w.heap.size rfl (.tmp 27) (.tmp 32) 22 21 (.int .i32 0) 4 rfl Try.underlying22 info21 rfl (by decide) (by omega) u3 x3_1 (wrap32 (a0 + ((rd_T55 t154 x5_1).f3))) [.int .i32 (wrap32 (a0 + ((rd_T55 t154 x5_1).f3)))] (fun _ => True) (fun _ => False) rfl rfl ?aP (fun _ hk => hk.elim) ?aF ?aO ?aB ?aS ?aL ?_; (case aP => exact rfl); (case aB => exact (by repeat (first | (with_reducible first | exact HB.out | apply below_alloc | apply pw_below_drewN | apply below_drew1 | refine below_set ?_ GE158.out) | exact HB.out))); (case aF => exact (fun _ _ => trivial)); (case aO => exact (by (with_reducible repeat (first | apply Kd.R_alloc | apply Kd.R_drewN | apply Kd.R_drew)); exact HO_3.out)); (case aS => exact (below_size (by repeat (first | (with_reducible first | exact HB.out | apply below_alloc | apply pw_below_drewN | apply below_drew1 | refine below_set ?_ GE158.out) | exact HB.out)))); (case aL => have := LMc14.out; omega); intro v161 w29 ho hb hg hat; rw [← Ny160.out] at ho; have n0_ := Aside0.mk (Kd.R_over' (by (with_reducible repeat (first | apply Kd.R_alloc | apply Kd.R_drewN | apply Kd.R_drew)); exact HO_4.out) (Kd.R_typed (by (with_reducible repeat (first | apply Kd.R_alloc | apply Kd.R_drewN | apply Kd.R_drew)); exact HO_3.out)) (by decide) hg); have n1_ := Aside0.mk (blk_grown (g := gb158) (o := .cells #[.int .i32 ((rd_T55 t154 x5_1).f0), .int .i32 ((rd_T55 t154 x5_1).f1), .int .i32 ((rd_T55 t154 x5_1).f2), .int .i32 ((rd_T55 t154 x5_1).f3), .int .i32 ((rd_T55 t154 x5_1).f4)] 55 (0, 0)) (by (with_reducible repeat (first | refine blk_drewN ?_ _ | refine blk_drew ?_ | refine blk_alloc ?_ _)); exact BK158.out) hg (Kd.R_ne HO_3.out BK158.out (by decide))); have n2_ := Aside0.mk (hb); have n3_ := Aside0.mk (ho); clear HO_4; clear BK158; clear HB; clear HO_3; have HO_4 := n0_; have BK158 := n1_; have HB := n2_; have HO162 := n3_; clear n0_ n1_ n2_ n3_; clear ho hb hg hat; have hcz30_0 : w29.cell? ⟨gb158, 0, none⟩ = some (.int .i32 ((rd_T55 t154 x5_1).f0)) := (blk_cell BK158.out 0).trans rfl; have hcz30_1 : w29.cell? ⟨gb158, 1, none⟩ = some (.int .i32 ((rd_T55 t154 x5_1).f1)) := (blk_cell BK158.out 1).trans rfl; have hcz30_2 : w29.cell? ⟨gb158, 2, none⟩ = some (.int .i32 ((rd_T55 t154 x5_1).f2)) := (blk_cell BK158.out 2).trans rfl; have hcz30_3 : w29.cell? ⟨gb158, 3, none⟩ = some (.int .i32 ((rd_T55 t154 x5_1).f3)) := (blk_cell BK158.out 3).trans rfl; have hcz30_4 : w29.cell? ⟨gb158, 4, none⟩ = some (.int .i32 ((rd_T55 t154 x5_1).f4)) := (blk_cell BK158.out 4).trans rfl; have hfz30_0 := blk_frozen BK158.out 0; have hfz30_1 := blk_frozen BK158.out 1; have hfz30_2 := blk_frozen BK158.out 2; have hfz30_3 := blk_frozen BK158.out 3; have hfz30_4 := blk_frozen BK158.out 4) | ((with_reducible refine gate_callee (f := 41) rfl ?_); refine goesL_ (some 39) rfl rfl Try.func41 (by kernel_rfl) rfl #[.agg #[.int .i32 ((rd_T55 t154 x5_1).f0), .int .i32 ((rd_T55 t154 x5_1).f1), .int .i32 ((rd_T55 t154 x5_1).f2), .int .i32 ((rd_T55 t154 x5_1).f3), .int .i32 ((rd_T55 t154 x5_1).f4)], .int .i32 (wrap32 (a0 - ((rd_T55 t154 x5_1).f3)))] rfl (by (try simp only [List.map_toArray, List.map_cons, List.map_nil]); first | done | rfl | (simp only [List.length_drop, List.length_take]; rfl)) ?_; (with_reducible refine (thistleref03_names.calls ((rd_T55 t154 x5_1).f0) ((rd_T55 t154 x5_1).f1) ((rd_T55 t154 x5_1).f2) ((rd_T55 t154 x5_1).f3) ((rd_T55 t154 x5_1).f4) (wrap32 (a0 - ((rd_T55 t154 x5_1).f3))) false _ A15.out).mono ?_); rintro e w31 ⟨rfl, hb⟩; refine ⟨_, rfl, ?_⟩; have n0_ := Aside0.mk (Kd.R_below (by (with_reducible repeat (first | apply Kd.R_alloc | apply Kd.R_drewN | apply Kd.R_drew)); exact HO_4.out) hb); have n1_ := Aside0.mk (Kd.R_below (by (with_reducible repeat (first | apply Kd.R_alloc | apply Kd.R_drewN | apply Kd.R_drew)); exact HO162.out) hb); have n2_ := Aside0.mk (blk_below (g := gb158) (o := .cells #[.int .i32 ((rd_T55 t154 x5_1).f0), .int .i32 ((rd_T55 t154 x5_1).f1), .int .i32 ((rd_T55 t154 x5_1).f2), .int .i32 ((rd_T55 t154 x5_1).f3), .int .i32 ((rd_T55 t154 x5_1).f4)] 55 (0, 0)) (by (with_reducible repeat (first | refine blk_drewN ?_ _ | refine blk_drew ?_ | refine blk_alloc ?_ _)); exact BK158.out) hb); have n3_ := Aside0.mk (below_step (by repeat (first | (with_reducible first | exact HB.out | apply below_alloc | apply pw_below_drewN | apply below_drew1 | refine below_set ?_ GE158.out) | exact HB.out)) hb); clear HO_4; clear HO162; clear BK158; clear HB; have HO_4 := n0_; have HO162 := n1_; have BK158 := n2_; have HB := n3_; clear n0_ n1_ n2_ n3_; (try clear hb); (try clear hb2); (try clear hk); (try clear hi)))
                      go_roundg kj5
                      case measure => have := HK1.out; have := HJ5.out; omega
                      case rel => exact ⟨(y160), (wrap64 (x5_1 + 1)), (by first | rfl | (simp; done) | (simp [*]; done)), H', ⟨by have := HK1.out; have := HJ5.out; omega⟩, ⟨by (with_reducible repeat (first | apply Kd.R_alloc | apply Kd.R_drewN | apply Kd.R_drew)); exact HO162.out⟩, ⟨by (with_reducible repeat (first | apply Kd.R_alloc | apply Kd.R_drewN | apply Kd.R_drew)); exact Kd.R_mono HO_4.out (fun _ hk => trivial)⟩, ⟨by repeat (first | (with_reducible first | exact HB.out | apply below_alloc | apply pw_below_drewN | apply below_drew1 | refine below_set ?_ GE158.out) | exact HB.out)⟩⟩
                  · rw [if_neg c14] at H
                    exact absurd H (by simp)
                · replace c13 := Bool.eq_false_iff.mpr c13
                  subst c13
                  have H1 : ((thistleref03_names.f ((rd_T55 t154 x5_1).f0) ((rd_T55 t154 x5_1).f1) ((rd_T55 t154 x5_1).f2) ((rd_T55 t154 x5_1).f3) ((rd_T55 t154 x5_1).f4) (wrap32 (a0 - ((rd_T55 t154 x5_1).f3)))).bind fun t167 => (if t167 = true then (if x3_1.length < 35184372088832 then (thistleref03_partners.l0 kj5 a0 (x3_1 ++ [wrap32 (a0 - ((rd_T55 t154 x5_1).f3))]) t154 (wrap64 (x5_1 + 1))) else (none)) else (thistleref03_partners.l0 kj5 a0 x3_1 t154 (wrap64 (x5_1 + 1))))) = some r := by rw [if_neg (show ¬ (false = true) by decide)] at H; exact H
                  clear H
                  have H := H1
                  clear H1
                  replace H := Option.bind_eq_some_iff.mp H
                  obtain ⟨t167, A320, H⟩ := H
                  replace H : (if t167 = true then (if x3_1.length < 35184372088832 then (thistleref03_partners.l0 kj5 a0 (x3_1 ++ [wrap32 (a0 - ((rd_T55 t154 x5_1).f3))]) t154 (wrap64 (x5_1 + 1))) else (none)) else (thistleref03_partners.l0 kj5 a0 x3_1 t154 (wrap64 (x5_1 + 1)))) = some r := H
                  have A32 := Aside0.mk A320
                  clear A320
                  by_cases c33 : t167 = true
                  · subst c33
                    have H1 : (if x3_1.length < 35184372088832 then (thistleref03_partners.l0 kj5 a0 (x3_1 ++ [wrap32 (a0 - ((rd_T55 t154 x5_1).f3))]) t154 (wrap64 (x5_1 + 1))) else (none)) = some r := by rw [if_pos rfl] at H; exact H
                    clear H
                    have H := H1
                    clear H1
                    by_cases c34 : x3_1.length < 35184372088832
                    · rw [if_pos c34] at H
                      have LMc34 := Aside0.mk c34
                      clear c34
                      obtain ⟨y168, hy168⟩ : ∃ y_ : List Int, y_ = (x3_1 ++ [wrap32 (a0 - ((rd_T55 t154 x5_1).f3))]) := ⟨_, rfl⟩
                      replace H : (thistleref03_partners.l0 kj5 a0 y168 t154 (wrap64 (x5_1 + 1))) = some r := by first | (rw [hy168]; with_reducible exact H) | (have H2_ := (Option.bind_some _ _).symm.trans H; rw [hy168]; with_reducible exact H2_) | (have H2_ := (Option.bind_some _ _).symm.trans H; with_reducible exact H2_) | with_reducible exact H | (rw [hy168]; exact H) | exact H
                      have Ny168 := Aside0.mk hy168
                      clear hy168
                      have H' := Aside0.mk H
                      clear H
                      have hcz35_0 : wc.cell? ⟨gb158, 0, none⟩ = some (.int .i32 ((rd_T55 t154 x5_1).f0)) := (blk_cell BK158.out 0).trans rfl
                      have hcz35_1 : wc.cell? ⟨gb158, 1, none⟩ = some (.int .i32 ((rd_T55 t154 x5_1).f1)) := (blk_cell BK158.out 1).trans rfl
                      have hcz35_2 : wc.cell? ⟨gb158, 2, none⟩ = some (.int .i32 ((rd_T55 t154 x5_1).f2)) := (blk_cell BK158.out 2).trans rfl
                      have hcz35_3 : wc.cell? ⟨gb158, 3, none⟩ = some (.int .i32 ((rd_T55 t154 x5_1).f3)) := (blk_cell BK158.out 3).trans rfl
                      have hcz35_4 : wc.cell? ⟨gb158, 4, none⟩ = some (.int .i32 ((rd_T55 t154 x5_1).f4)) := (blk_cell BK158.out 4).trans rfl
                      have hfz35_0 := blk_frozen BK158.out 0
                      have hfz35_1 := blk_frozen BK158.out 1
                      have hfz35_2 := blk_frozen BK158.out 2
                      have hfz35_3 := blk_frozen BK158.out 3
                      have hfz35_4 := blk_frozen BK158.out 4
                      go_wp2_with (first | ((with_reducible refine gate_callee (f := 41) rfl ?_); refine goesL_ (some 26) rfl rfl Try.func41 (by kernel_rfl) rfl #[.agg #[.int .i32 ((rd_T55 t154 x5_1).f0), .int .i32 ((rd_T55 t154 x5_1).f1), .int .i32 ((rd_T55 t154 x5_1).f2), .int .i32 ((rd_T55 t154 x5_1).f3), .int .i32 ((rd_T55 t154 x5_1).f4)], .int .i32 a0] rfl (by (try simp only [List.map_toArray, List.map_cons, List.map_nil]); first | done | rfl | (simp only [List.length_drop, List.length_take]; rfl)) ?_; (with_reducible refine (thistleref03_names.calls ((rd_T55 t154 x5_1).f0) ((rd_T55 t154 x5_1).f1) ((rd_T55 t154 x5_1).f2) ((rd_T55 t154 x5_1).f3) ((rd_T55 t154 x5_1).f4) a0 false _ A12.out).mono ?_); rintro e w36 ⟨rfl, hb⟩; refine ⟨_, rfl, ?_⟩; have n0_ := Aside0.mk (Kd.R_below (by (with_reducible repeat (first | apply Kd.R_alloc | apply Kd.R_drewN | apply Kd.R_drew)); exact HO_3.out) hb); have n1_ := Aside0.mk (Kd.R_below (by (with_reducible repeat (first | apply Kd.R_alloc | apply Kd.R_drewN | apply Kd.R_drew)); exact HO_4.out) hb); have n2_ := Aside0.mk (blk_below (g := gb158) (o := .cells #[.int .i32 ((rd_T55 t154 x5_1).f0), .int .i32 ((rd_T55 t154 x5_1).f1), .int .i32 ((rd_T55 t154 x5_1).f2), .int .i32 ((rd_T55 t154 x5_1).f3), .int .i32 ((rd_T55 t154 x5_1).f4)] 55 (0, 0)) (by (with_reducible repeat (first | refine blk_drewN ?_ _ | refine blk_drew ?_ | refine blk_alloc ?_ _)); exact BK158.out) hb); have n3_ := Aside0.mk (below_step (by repeat (first | (with_reducible first | exact HB.out | apply below_alloc | apply pw_below_drewN | apply below_drew1 | refine below_set ?_ GE158.out) | exact HB.out)) hb); clear HO_3; clear HO_4; clear BK158; clear HB; have HO_3 := n0_; have HO_4 := n1_; have BK158 := n2_; have HB := n3_; clear n0_ n1_ n2_ n3_; (try clear hb); (try clear hb2); (try clear hk); (try clear hi); have hcz37_0 : w36.cell? ⟨gb158, 0, none⟩ = some (.int .i32 ((rd_T55 t154 x5_1).f0)) := (blk_cell BK158.out 0).trans rfl; have hcz37_1 : w36.cell? ⟨gb158, 1, none⟩ = some (.int .i32 ((rd_T55 t154 x5_1).f1)) := (blk_cell BK158.out 1).trans rfl; have hcz37_2 : w36.cell? ⟨gb158, 2, none⟩ = some (.int .i32 ((rd_T55 t154 x5_1).f2)) := (blk_cell BK158.out 2).trans rfl; have hcz37_3 : w36.cell? ⟨gb158, 3, none⟩ = some (.int .i32 ((rd_T55 t154 x5_1).f3)) := (blk_cell BK158.out 3).trans rfl; have hcz37_4 : w36.cell? ⟨gb158, 4, none⟩ = some (.int .i32 ((rd_T55 t154 x5_1).f4)) := (blk_cell BK158.out 4).trans rfl; have hfz37_0 := blk_frozen BK158.out 0; have hfz37_1 := blk_frozen BK158.out 1; have hfz37_2 := blk_frozen BK158.out 2; have hfz37_3 := blk_frozen BK158.out 3; have hfz37_4 := blk_frozen BK158.out 4) | ((with_reducible refine gate_callee (f := 41) rfl ?_); refine goesL_ (some 39) rfl rfl Try.func41 (by kernel_rfl) rfl #[.agg #[.int .i32 ((rd_T55 t154 x5_1).f0), .int .i32 ((rd_T55 t154 x5_1).f1), .int .i32 ((rd_T55 t154 x5_1).f2), .int .i32 ((rd_T55 t154 x5_1).f3), .int .i32 ((rd_T55 t154 x5_1).f4)], .int .i32 (wrap32 (a0 - ((rd_T55 t154 x5_1).f3)))] rfl (by (try simp only [List.map_toArray, List.map_cons, List.map_nil]); first | done | rfl | (simp only [List.length_drop, List.length_take]; rfl)) ?_; (with_reducible refine (thistleref03_names.calls ((rd_T55 t154 x5_1).f0) ((rd_T55 t154 x5_1).f1) ((rd_T55 t154 x5_1).f2) ((rd_T55 t154 x5_1).f3) ((rd_T55 t154 x5_1).f4) (wrap32 (a0 - ((rd_T55 t154 x5_1).f3))) true _ A32.out).mono ?_); rintro e w38 ⟨rfl, hb⟩; refine ⟨_, rfl, ?_⟩; have n0_ := Aside0.mk (Kd.R_below (by (with_reducible repeat (first | apply Kd.R_alloc | apply Kd.R_drewN | apply Kd.R_drew)); exact HO_3.out) hb); have n1_ := Aside0.mk (Kd.R_below (by (with_reducible repeat (first | apply Kd.R_alloc | apply Kd.R_drewN | apply Kd.R_drew)); exact HO_4.out) hb); have n2_ := Aside0.mk (blk_below (g := gb158) (o := .cells #[.int .i32 ((rd_T55 t154 x5_1).f0), .int .i32 ((rd_T55 t154 x5_1).f1), .int .i32 ((rd_T55 t154 x5_1).f2), .int .i32 ((rd_T55 t154 x5_1).f3), .int .i32 ((rd_T55 t154 x5_1).f4)] 55 (0, 0)) (by (with_reducible repeat (first | refine blk_drewN ?_ _ | refine blk_drew ?_ | refine blk_alloc ?_ _)); exact BK158.out) hb); have n3_ := Aside0.mk (below_step (by repeat (first | (with_reducible first | exact HB.out | apply below_alloc | apply pw_below_drewN | apply below_drew1 | refine below_set ?_ GE158.out) | exact HB.out)) hb); clear HO_3; clear HO_4; clear BK158; clear HB; have HO_3 := n0_; have HO_4 := n1_; have BK158 := n2_; have HB := n3_; clear n0_ n1_ n2_ n3_; (try clear hb); (try clear hb2); (try clear hk); (try clear hi); have hcz39_0 : w38.cell? ⟨gb158, 0, none⟩ = some (.int .i32 ((rd_T55 t154 x5_1).f0)) := (blk_cell BK158.out 0).trans rfl; have hcz39_1 : w38.cell? ⟨gb158, 1, none⟩ = some (.int .i32 ((rd_T55 t154 x5_1).f1)) := (blk_cell BK158.out 1).trans rfl; have hcz39_2 : w38.cell? ⟨gb158, 2, none⟩ = some (.int .i32 ((rd_T55 t154 x5_1).f2)) := (blk_cell BK158.out 2).trans rfl; have hcz39_3 : w38.cell? ⟨gb158, 3, none⟩ = some (.int .i32 ((rd_T55 t154 x5_1).f3)) := (blk_cell BK158.out 3).trans rfl; have hcz39_4 : w38.cell? ⟨gb158, 4, none⟩ = some (.int .i32 ((rd_T55 t154 x5_1).f4)) := (blk_cell BK158.out 4).trans rfl; have hfz39_0 := blk_frozen BK158.out 0; have hfz39_1 := blk_frozen BK158.out 1; have hfz39_2 := blk_frozen BK158.out 2; have hfz39_3 := blk_frozen BK158.out 3; have hfz39_4 := blk_frozen BK158.out 4) | ((with_reducible refine gate_builtin (b := .append) (xs := #[.tmp 40, .tmp 45]) rfl ?_); at_builtin; refine Kd.R_append (Kd.int .i32) (w0 := w) w.heap.size rfl (.tmp 40) (.tmp 45) 22 21 (.int .i32 0) 4 rfl Try.underlying22 info21 rfl (by decide) (by omega) u3 x3_1 (wrap32 (a0 - ((rd_T55 t154 x5_1).f3))) [.int .i32 (wrap32 (a0 - ((rd_T55 t154 x5_1).f3)))] (fun _ => True) (fun _ => False) rfl rfl ?aP (fun _ hk => hk.elim) ?aF ?aO ?aB ?aS ?aL ?_; (case aP => exact rfl); (case aB => exact (by repeat (first | (with_reducible first | exact HB.out | apply below_alloc | apply pw_below_drewN | apply below_drew1 | refine below_set ?_ GE158.out) | exact HB.out))); (case aF => exact (fun _ _ => trivial)); (case aO => exact (by (with_reducible repeat (first | apply Kd.R_alloc | apply Kd.R_drewN | apply Kd.R_drew)); exact HO_3.out)); (case aS => exact (below_size (by repeat (first | (with_reducible first | exact HB.out | apply below_alloc | apply pw_below_drewN | apply below_drew1 | refine below_set ?_ GE158.out) | exact HB.out)))); (case aL => have := LMc34.out; omega); intro v169 w40 ho hb hg hat; rw [← Ny168.out] at ho; have n0_ := Aside0.mk (Kd.R_over' (by (with_reducible repeat (first | apply Kd.R_alloc | apply Kd.R_drewN | apply Kd.R_drew)); exact HO_4.out) (Kd.R_typed (by (with_reducible repeat (first | apply Kd.R_alloc | apply Kd.R_drewN | apply Kd.R_drew)); exact HO_3.out)) (by decide) hg); have n1_ := Aside0.mk (blk_grown (g := gb158) (o := .cells #[.int .i32 ((rd_T55 t154 x5_1).f0), .int .i32 ((rd_T55 t154 x5_1).f1), .int .i32 ((rd_T55 t154 x5_1).f2), .int .i32 ((rd_T55 t154 x5_1).f3), .int .i32 ((rd_T55 t154 x5_1).f4)] 55 (0, 0)) (by (with_reducible repeat (first | refine blk_drewN ?_ _ | refine blk_drew ?_ | refine blk_alloc ?_ _)); exact BK158.out) hg (Kd.R_ne HO_3.out BK158.out (by decide))); have n2_ := Aside0.mk (hb); have n3_ := Aside0.mk (ho); clear HO_4; clear BK158; clear HB; clear HO_3; have HO_4 := n0_; have BK158 := n1_; have HB := n2_; have HO170 := n3_; clear n0_ n1_ n2_ n3_; clear ho hb hg hat))
                      go_roundg kj5
                      case measure => have := HK1.out; have := HJ5.out; omega
                      case rel => exact ⟨(y168), (wrap64 (x5_1 + 1)), (by first | rfl | (simp; done) | (simp [*]; done)), H', ⟨by have := HK1.out; have := HJ5.out; omega⟩, ⟨by (with_reducible repeat (first | apply Kd.R_alloc | apply Kd.R_drewN | apply Kd.R_drew)); exact HO170.out⟩, ⟨by (with_reducible repeat (first | apply Kd.R_alloc | apply Kd.R_drewN | apply Kd.R_drew)); exact Kd.R_mono HO_4.out (fun _ hk => trivial)⟩, ⟨by repeat (first | (with_reducible first | exact HB.out | apply below_alloc | apply pw_below_drewN | apply below_drew1 | refine below_set ?_ GE158.out) | exact HB.out)⟩⟩
                    · rw [if_neg c34] at H
                      exact absurd H (by simp)
                  · replace c33 := Bool.eq_false_iff.mpr c33
                    subst c33
                    have H1 : (thistleref03_partners.l0 kj5 a0 x3_1 t154 (wrap64 (x5_1 + 1))) = some r := by rw [if_neg (show ¬ (false = true) by decide)] at H; exact H
                    clear H
                    have H := H1
                    clear H1
                    have H' := Aside0.mk H
                    clear H
                    have hcz41_0 : wc.cell? ⟨gb158, 0, none⟩ = some (.int .i32 ((rd_T55 t154 x5_1).f0)) := (blk_cell BK158.out 0).trans rfl
                    have hcz41_1 : wc.cell? ⟨gb158, 1, none⟩ = some (.int .i32 ((rd_T55 t154 x5_1).f1)) := (blk_cell BK158.out 1).trans rfl
                    have hcz41_2 : wc.cell? ⟨gb158, 2, none⟩ = some (.int .i32 ((rd_T55 t154 x5_1).f2)) := (blk_cell BK158.out 2).trans rfl
                    have hcz41_3 : wc.cell? ⟨gb158, 3, none⟩ = some (.int .i32 ((rd_T55 t154 x5_1).f3)) := (blk_cell BK158.out 3).trans rfl
                    have hcz41_4 : wc.cell? ⟨gb158, 4, none⟩ = some (.int .i32 ((rd_T55 t154 x5_1).f4)) := (blk_cell BK158.out 4).trans rfl
                    have hfz41_0 := blk_frozen BK158.out 0
                    have hfz41_1 := blk_frozen BK158.out 1
                    have hfz41_2 := blk_frozen BK158.out 2
                    have hfz41_3 := blk_frozen BK158.out 3
                    have hfz41_4 := blk_frozen BK158.out 4
                    go_wp2_with (first | ((with_reducible refine gate_callee (f := 41) rfl ?_); refine goesL_ (some 26) rfl rfl Try.func41 (by kernel_rfl) rfl #[.agg #[.int .i32 ((rd_T55 t154 x5_1).f0), .int .i32 ((rd_T55 t154 x5_1).f1), .int .i32 ((rd_T55 t154 x5_1).f2), .int .i32 ((rd_T55 t154 x5_1).f3), .int .i32 ((rd_T55 t154 x5_1).f4)], .int .i32 a0] rfl (by (try simp only [List.map_toArray, List.map_cons, List.map_nil]); first | done | rfl | (simp only [List.length_drop, List.length_take]; rfl)) ?_; (with_reducible refine (thistleref03_names.calls ((rd_T55 t154 x5_1).f0) ((rd_T55 t154 x5_1).f1) ((rd_T55 t154 x5_1).f2) ((rd_T55 t154 x5_1).f3) ((rd_T55 t154 x5_1).f4) a0 false _ A12.out).mono ?_); rintro e w42 ⟨rfl, hb⟩; refine ⟨_, rfl, ?_⟩; have n0_ := Aside0.mk (Kd.R_below (by (with_reducible repeat (first | apply Kd.R_alloc | apply Kd.R_drewN | apply Kd.R_drew)); exact HO_3.out) hb); have n1_ := Aside0.mk (Kd.R_below (by (with_reducible repeat (first | apply Kd.R_alloc | apply Kd.R_drewN | apply Kd.R_drew)); exact HO_4.out) hb); have n2_ := Aside0.mk (blk_below (g := gb158) (o := .cells #[.int .i32 ((rd_T55 t154 x5_1).f0), .int .i32 ((rd_T55 t154 x5_1).f1), .int .i32 ((rd_T55 t154 x5_1).f2), .int .i32 ((rd_T55 t154 x5_1).f3), .int .i32 ((rd_T55 t154 x5_1).f4)] 55 (0, 0)) (by (with_reducible repeat (first | refine blk_drewN ?_ _ | refine blk_drew ?_ | refine blk_alloc ?_ _)); exact BK158.out) hb); have n3_ := Aside0.mk (below_step (by repeat (first | (with_reducible first | exact HB.out | apply below_alloc | apply pw_below_drewN | apply below_drew1 | refine below_set ?_ GE158.out) | exact HB.out)) hb); clear HO_3; clear HO_4; clear BK158; clear HB; have HO_3 := n0_; have HO_4 := n1_; have BK158 := n2_; have HB := n3_; clear n0_ n1_ n2_ n3_; (try clear hb); (try clear hb2); (try clear hk); (try clear hi); have hcz43_0 : w42.cell? ⟨gb158, 0, none⟩ = some (.int .i32 ((rd_T55 t154 x5_1).f0)) := (blk_cell BK158.out 0).trans rfl; have hcz43_1 : w42.cell? ⟨gb158, 1, none⟩ = some (.int .i32 ((rd_T55 t154 x5_1).f1)) := (blk_cell BK158.out 1).trans rfl; have hcz43_2 : w42.cell? ⟨gb158, 2, none⟩ = some (.int .i32 ((rd_T55 t154 x5_1).f2)) := (blk_cell BK158.out 2).trans rfl; have hcz43_3 : w42.cell? ⟨gb158, 3, none⟩ = some (.int .i32 ((rd_T55 t154 x5_1).f3)) := (blk_cell BK158.out 3).trans rfl; have hcz43_4 : w42.cell? ⟨gb158, 4, none⟩ = some (.int .i32 ((rd_T55 t154 x5_1).f4)) := (blk_cell BK158.out 4).trans rfl; have hfz43_0 := blk_frozen BK158.out 0; have hfz43_1 := blk_frozen BK158.out 1; have hfz43_2 := blk_frozen BK158.out 2; have hfz43_3 := blk_frozen BK158.out 3; have hfz43_4 := blk_frozen BK158.out 4) | ((with_reducible refine gate_callee (f := 41) rfl ?_); refine goesL_ (some 39) rfl rfl Try.func41 (by kernel_rfl) rfl #[.agg #[.int .i32 ((rd_T55 t154 x5_1).f0), .int .i32 ((rd_T55 t154 x5_1).f1), .int .i32 ((rd_T55 t154 x5_1).f2), .int .i32 ((rd_T55 t154 x5_1).f3), .int .i32 ((rd_T55 t154 x5_1).f4)], .int .i32 (wrap32 (a0 - ((rd_T55 t154 x5_1).f3)))] rfl (by (try simp only [List.map_toArray, List.map_cons, List.map_nil]); first | done | rfl | (simp only [List.length_drop, List.length_take]; rfl)) ?_; (with_reducible refine (thistleref03_names.calls ((rd_T55 t154 x5_1).f0) ((rd_T55 t154 x5_1).f1) ((rd_T55 t154 x5_1).f2) ((rd_T55 t154 x5_1).f3) ((rd_T55 t154 x5_1).f4) (wrap32 (a0 - ((rd_T55 t154 x5_1).f3))) false _ A32.out).mono ?_); rintro e w44 ⟨rfl, hb⟩; refine ⟨_, rfl, ?_⟩; have n0_ := Aside0.mk (Kd.R_below (by (with_reducible repeat (first | apply Kd.R_alloc | apply Kd.R_drewN | apply Kd.R_drew)); exact HO_3.out) hb); have n1_ := Aside0.mk (Kd.R_below (by (with_reducible repeat (first | apply Kd.R_alloc | apply Kd.R_drewN | apply Kd.R_drew)); exact HO_4.out) hb); have n2_ := Aside0.mk (blk_below (g := gb158) (o := .cells #[.int .i32 ((rd_T55 t154 x5_1).f0), .int .i32 ((rd_T55 t154 x5_1).f1), .int .i32 ((rd_T55 t154 x5_1).f2), .int .i32 ((rd_T55 t154 x5_1).f3), .int .i32 ((rd_T55 t154 x5_1).f4)] 55 (0, 0)) (by (with_reducible repeat (first | refine blk_drewN ?_ _ | refine blk_drew ?_ | refine blk_alloc ?_ _)); exact BK158.out) hb); have n3_ := Aside0.mk (below_step (by repeat (first | (with_reducible first | exact HB.out | apply below_alloc | apply pw_below_drewN | apply below_drew1 | refine below_set ?_ GE158.out) | exact HB.out)) hb); clear HO_3; clear HO_4; clear BK158; clear HB; have HO_3 := n0_; have HO_4 := n1_; have BK158 := n2_; have HB := n3_; clear n0_ n1_ n2_ n3_; (try clear hb); (try clear hb2); (try clear hk); (try clear hi)))
                    go_roundg kj5
                    case measure => have := HK1.out; have := HJ5.out; omega
                    case rel => exact ⟨(x3_1), (wrap64 (x5_1 + 1)), (by first | rfl | (simp; done) | (simp [*]; done)), H', ⟨by have := HK1.out; have := HJ5.out; omega⟩, ⟨by (with_reducible repeat (first | apply Kd.R_alloc | apply Kd.R_drewN | apply Kd.R_drew)); exact HO_3.out⟩, ⟨by (with_reducible repeat (first | apply Kd.R_alloc | apply Kd.R_drewN | apply Kd.R_drew)); exact Kd.R_mono HO_4.out (fun _ hk => trivial)⟩, ⟨by repeat (first | (with_reducible first | exact HB.out | apply below_alloc | apply pw_below_drewN | apply below_drew1 | refine below_set ?_ GE158.out) | exact HB.out)⟩⟩
        · rw [if_neg c5] at H
          exact absurd H (by simp)
      · rw [if_neg c4] at H
        have c4b0 : decide (x5_1 < (t154.length : Int)) = false := decide_eq_false c4
        clear c4
        obtain rfl := Option.some.inj H
        obtain ⟨Ao45, co45, eo45⟩ := Kd.R_slice HO_4.out
        subst eo45
        go_wp2
        go_ret
        exact ⟨_, by first | rfl | (simp [errW_none, errW_some] <;> rfl) | (simp [*, errW_none, errW_some] <;> rfl), by (with_reducible repeat (first | apply Kd.R_alloc | apply Kd.R_drewN | apply Kd.R_drew)); exact HO_3.out, by repeat (first | (with_reducible first | exact HB.out | apply below_alloc | apply pw_below_drewN | apply below_drew1) | exact HB.out)⟩

/-! ### thistleref03_has: function 27 -/
def thistleref03_has.l0 : Nat → List Int → Int → Int → Option (Bool)
  | 0, _, _, _ => none
  | k + 1, x0, x1, x5 => if x5 < (x0.length : Int) then (if 0 ≤ x5 then (if (rd x0 x5) = x1 then (some true) else (thistleref03_has.l0 k x0 x1 (wrap64 (x5 + 1)))) else (none)) else (some false)
def thistleref03_has.f (k : Nat) (l0 : List Int) (a1 : Int) : Option (Bool) := thistleref03_has.l0 k l0 a1 0
theorem thistleref03_has.mono_l : ∀ k, (∀ y0 y1 y2, LeO (thistleref03_has.l0 k y0 y1 y2) (thistleref03_has.l0 (k + 1) y0 y1 y2))
  | 0 => fun _ _ _ r h => by simp [thistleref03_has.l0] at h
  | k + 1 => by
    have ih0 := thistleref03_has.mono_l k
    · intro y0 y1 y2
      unfold thistleref03_has.l0
      repeat' first
      | (with_reducible exact ih0 _ _ _)
      | (with_reducible exact LeO.refl _)
      | (with_reducible exact LeO.none _)
      | (with_reducible refine LeO.ite ?_ ?_)
      | (with_reducible refine LeO.bind ?_ (fun _ => ?_))
      | exact ih0 _ _ _
      | exact LeO.none _
      | refine LeO.ite ?_ ?_
      | refine LeO.bind ?_ (fun _ => ?_)
theorem thistleref03_has.mono : ∀ a0 a1 k, LeO (thistleref03_has.f k a0 a1) (thistleref03_has.f (k + 1) a0 a1) := by
  intro a0 a1 k
  have ih0 := thistleref03_has.mono_l k
  unfold thistleref03_has.f
  repeat' first
      | (with_reducible exact ih0 _ _ _)
      | (with_reducible exact LeO.refl _)
      | (with_reducible exact LeO.none _)
      | (with_reducible refine LeO.ite ?_ ?_)
      | (with_reducible refine LeO.bind ?_ (fun _ => ?_))
      | exact ih0 _ _ _
      | exact LeO.none _
      | refine LeO.ite ?_ ?_
      | refine LeO.bind ?_ (fun _ => ?_)
set_option maxHeartbeats 8000000 in
set_option maxRecDepth 100000 in
theorem thistleref03_has.calls (k : Nat) (A0 : Option Addr) (c0 : Nat) (l0 : List Int) (a1 : Int) (r : Bool) (w : World) (hr0 : Kd.C (Kd.int .i32) w A0 l0.length l0) (hc0 : l0.length ≤ c0) (h : thistleref03_has.f k l0 a1 = some r) :
    Calls Try.prog 27 #[.slice A0 l0.length c0, .int .i32 a1] w fun e w' => e = .returned (.bool r) ∧ Drawn0 w w' := by
  have HR0 := Aside0.mk hr0
  have HC0 := Aside0.mk hc0
  clear hr0 hc0
  have H : (thistleref03_has.l0 k l0 a1 0) = some r := h
  clear h
  have H' := Aside0.mk H
  clear H
  go_enter Try.func27, Try.ntmps27
  go_wp2
  go_loopg [5] k (fun kq v5 w' => ∃ (x5_1 : Int), v5 = .int .i64 x5_1 ∧ Aside0 (thistleref03_has.l0 kq l0 a1 x5_1 = some r) ∧ Aside0 (kq ≤ k) ∧ Drawn0 w w')
  case atStart => exact ⟨(0), (by first | rfl | (simp; done) | (simp [*]; done)), H', ⟨Nat.le_refl _⟩, by repeat (first | exact Drawn0.refl _ | apply Drawn0.step)⟩
  case round =>
    clear H'
    try clear c2
    try clear p2
    obtain ⟨x5_1, rfl, HA, HK1, ⟨m1, rfl⟩⟩ := hrel
    cases gk with
    | zero => exact absurd HA.out (by simp [thistleref03_has.l0])
    | succ k1 =>
      have H := HA.out
      clear HA
      simp only [thistleref03_has.l0] at H
      by_cases c3 : x5_1 < (l0.length : Int)
      · rw [if_pos c3] at H
        have c3b0 : decide (x5_1 < (l0.length : Int)) = true := decide_eq_true c3
        clear c3
        by_cases c4 : 0 ≤ x5_1
        · rw [if_pos c4] at H
          have c4b0 : decide (0 ≤ x5_1) = true := decide_eq_true c4
          clear c4
          by_cases c5 : (rd l0 x5_1) = a1
          · rw [if_pos c5] at H
            have c5b0 : ((rd l0 x5_1) == a1) = true := beq_iff_eq.mpr c5
            have c5b1 : ((rd l0 x5_1) != a1) = false := bne_eq_false_iff_eq.mpr c5
            clear c5
            obtain rfl := Option.some.inj H
            have p171 : 0 ≤ (x5_1 : Int) := of_decide_eq_true (by first | (with_reducible assumption) | assumption)
            have q171 : x5_1 < (l0.length : Int) := of_decide_eq_true (by first | (with_reducible assumption) | assumption)
            obtain ⟨ad171, e171, hx171_0⟩ := Kd.at_int HR0.out x5_1 p171 q171
            cases e171
            replace p171 := eq_true p171
            replace q171 := eq_true q171
            go_wp2
            go_ret
            exact ⟨by first | rfl | (simp; done) | (simp [*]; done), by repeat (first | exact Drawn0.refl _ | apply Drawn0.step)⟩
          · rw [if_neg c5] at H
            have c5b0 : ((rd l0 x5_1) == a1) = false := beq_eq_false_iff_ne.mpr c5
            have c5b1 : ((rd l0 x5_1) != a1) = true := bne_iff_ne.mpr c5
            have H' := Aside0.mk H
            clear H
            have p171 : 0 ≤ (x5_1 : Int) := of_decide_eq_true (by first | (with_reducible assumption) | assumption)
            have q171 : x5_1 < (l0.length : Int) := of_decide_eq_true (by first | (with_reducible assumption) | assumption)
            obtain ⟨ad171, e171, hx171_0⟩ := Kd.at_int HR0.out x5_1 p171 q171
            cases e171
            replace p171 := eq_true p171
            replace q171 := eq_true q171
            go_wp2
            go_roundg k1
            case measure => have := HK1.out; omega
            case rel => exact ⟨(wrap64 (x5_1 + 1)), (by first | rfl | (simp; done) | (simp [*]; done)), H', ⟨by have := HK1.out; omega⟩, by repeat (first | exact Drawn0.refl _ | apply Drawn0.step)⟩
        · rw [if_neg c4] at H
          exact absurd H (by simp)
      · rw [if_neg c3] at H
        have c3b0 : decide (x5_1 < (l0.length : Int)) = false := decide_eq_false c3
        clear c3
        obtain rfl := Option.some.inj H
        go_wp2
        go_ret
        exact ⟨by first | rfl | (simp; done) | (simp [*]; done), by repeat (first | exact Drawn0.refl _ | apply Drawn0.step)⟩

end Go.Proofs.Ytpfhppgklklhcaa.XF
