/- WRITTEN BY A PROGRAM OF THIS SESSION (wip/tools/xprint.py, over the kit's printer): contracts of the functions that the seat's laws reach. -/
import Derived.Test.YtcpjflgiimjfmaaDoorXC0
import Derived.Test.YtcpjflgiimjfmaaDoorXC5
namespace Go.Proofs.YtcpjflgiimjfmaaDoor.XC
open Go.RowKit Go.Proofs.YtcpjflgiimjfmaaDoorW.PrintWords Go.Proofs.YtcpjflgiimjfmaaDoorW.PrintLast Go.Proofs.YtcpjflgiimjfmaaDoorW.PrintMore
attribute [local go_sem] max2_int min2_int max_two min_two max_three min_three max_four min_four   -- for this text's walks alone
set_option linter.unusedVariables false
set_option linter.unusedSimpArgs false

/-! ### sets_Check: function 10 -/
mutual
def sets_Check.l0 : Nat → List (S41) → List (S41) → Int → Int → Option (Int)
  | 0, _, _, _, _ => none
  | k + 1, x0, x6, x7, x8 => if x8 < x7 then (if 0 ≤ x8 then (if x8 < (x6.length : Int) then ((sets_band.f ((rd_T41 x6 x8).f0)).bind fun t147 => (if t147 < 0 then (sets_Check.j1 k x0 x8 x6 x7 x8 true ((rd_T41 x6 x8).f0) ((rd_T41 x6 x8).f1)) else ((sets_band.f ((rd_T41 x6 x8).f1)).bind fun t148 => (if t147 = t148 then (sets_Check.j1 k x0 x8 x6 x7 x8 (decide (((rd_T41 x6 x8).f0) > ((rd_T41 x6 x8).f1))) ((rd_T41 x6 x8).f0) ((rd_T41 x6 x8).f1)) else (sets_Check.j1 k x0 x8 x6 x7 x8 true ((rd_T41 x6 x8).f0) ((rd_T41 x6 x8).f1)))))) else (none)) else (none)) else (some 0)
def sets_Check.j1 : Nat → List (S41) → Int → List (S41) → Int → Int → Bool → Int → Int → Option (Int)
  | 0, _, _, _, _, _, _, _, _ => none
  | k + 1, x0, x3, x6, x7, x8, x31, x147000, x147001 => if x31 = true then (some 1) else (if x3 > 0 then (if 0 ≤ (wrap64 (x3 - 1)) then (if (wrap64 (x3 - 1)) < (x0.length : Int) then (if x147000 ≤ ((rd_T41 x0 (wrap64 (x3 - 1))).f1) then (some 1) else (if x147000 = (wrap32 (((rd_T41 x0 (wrap64 (x3 - 1))).f1) + 1)) then (some 1) else (sets_Check.l0 k x0 x6 x7 (wrap64 (x8 + 1))))) else (none)) else (none)) else (sets_Check.l0 k x0 x6 x7 (wrap64 (x8 + 1))))
end
def sets_Check.f (k : Nat) (l0 : List (S41)) : Option (Int) := sets_Check.l0 k l0 l0 (l0.length : Int) 0
theorem sets_Check.mono_l : ∀ k, (∀ y0 y1 y2 y3, LeO (sets_Check.l0 k y0 y1 y2 y3) (sets_Check.l0 (k + 1) y0 y1 y2 y3)) ∧ (∀ y0 y1 y2 y3 y4 y5 y6 y7, LeO (sets_Check.j1 k y0 y1 y2 y3 y4 y5 y6 y7) (sets_Check.j1 (k + 1) y0 y1 y2 y3 y4 y5 y6 y7))
  | 0 => ⟨fun _ _ _ _ r h => by simp [sets_Check.l0] at h, fun _ _ _ _ _ _ _ _ r h => by simp [sets_Check.j1] at h⟩
  | k + 1 => by
    obtain ⟨ih0, ih1⟩ := sets_Check.mono_l k
    refine ⟨?_, ?_⟩
    · intro y0 y1 y2 y3
      unfold sets_Check.l0
      repeat' first
      | (with_reducible exact ih0 _ _ _ _)
      | (with_reducible exact ih1 _ _ _ _ _ _ _ _)
      | (with_reducible exact LeO.refl _)
      | (with_reducible exact LeO.none _)
      | (with_reducible refine LeO.ite ?_ ?_)
      | (with_reducible refine LeO.bind ?_ (fun _ => ?_))
      | exact ih0 _ _ _ _
      | exact ih1 _ _ _ _ _ _ _ _
      | exact LeO.none _
      | refine LeO.ite ?_ ?_
      | refine LeO.bind ?_ (fun _ => ?_)
    · intro y0 y1 y2 y3 y4 y5 y6 y7
      unfold sets_Check.j1
      repeat' first
      | (with_reducible exact ih0 _ _ _ _)
      | (with_reducible exact ih1 _ _ _ _ _ _ _ _)
      | (with_reducible exact LeO.refl _)
      | (with_reducible exact LeO.none _)
      | (with_reducible refine LeO.ite ?_ ?_)
      | (with_reducible refine LeO.bind ?_ (fun _ => ?_))
      | exact ih0 _ _ _ _
      | exact ih1 _ _ _ _ _ _ _ _
      | exact LeO.none _
      | refine LeO.ite ?_ ?_
      | refine LeO.bind ?_ (fun _ => ?_)
theorem sets_Check.mono : ∀ a0 k, LeO (sets_Check.f k a0) (sets_Check.f (k + 1) a0) := by
  intro a0 k
  obtain ⟨ih0, ih1⟩ := sets_Check.mono_l k
  unfold sets_Check.f
  repeat' first
      | (with_reducible exact ih0 _ _ _ _)
      | (with_reducible exact ih1 _ _ _ _ _ _ _ _)
      | (with_reducible exact LeO.refl _)
      | (with_reducible exact LeO.none _)
      | (with_reducible refine LeO.ite ?_ ?_)
      | (with_reducible refine LeO.bind ?_ (fun _ => ?_))
      | exact ih0 _ _ _ _
      | exact ih1 _ _ _ _ _ _ _ _
      | exact LeO.none _
      | refine LeO.ite ?_ ?_
      | refine LeO.bind ?_ (fun _ => ?_)
set_option maxHeartbeats 8000000 in
set_option maxRecDepth 100000 in
theorem sets_Check.calls (k : Nat) (A0 : Option Addr) (c0 : Nat) (l0 : List (S41)) (r : Int) (w : World) (hr0 : Kd.C k41 w A0 l0.length l0) (hc0 : l0.length ≤ c0) (h : sets_Check.f k l0 = some r) (hG : GOK w := by first | (with_reducible exact HG_.out) | exact GOK.below HG_.out (by repeat (first | (with_reducible exact Below.refl _ _) | (with_reducible first | exact HB.out | apply below_alloc | apply pw_below_drewN | apply below_drew1 | refine below_set ?_ (Aside0.out (by assumption))) | exact HB.out)) | exact GOK.drewN HG_.out _ | exact GOK.drewN (GOK.drewN HG_.out _) _ | exact GOK.drew HG_.out) :
    Calls Tryd.prog 10 #[.slice A0 l0.length c0] w fun e w' => e = .returned (.int .i64 r) ∧ Below w.heap.size w w' := by
  have HG_ := Aside0.mk hG
  clear hG
  have hu41 := Tryd.underlying41
  have HR0 := Aside0.mk hr0
  have HC0 := Aside0.mk hc0
  clear hr0 hc0
  have HB := Aside0.mk (Below.refl w.heap.size w)
  have H : (sets_Check.l0 k l0 l0 (l0.length : Int) 0) = some r := h
  clear h
  have H' := Aside0.mk H
  clear H
  go_enter Tryd.func10, Tryd.ntmps10
  go_wp2
  repeat (go_quiet (fail); try go_wp2)
  go_loopg [8] k (fun kq v8 w' => ∃ (x8_1 : Int), v8 = .int .i64 x8_1 ∧ Aside0 (sets_Check.l0 kq l0 l0 (l0.length : Int) x8_1 = some r) ∧ Aside0 (kq ≤ k) ∧ Aside0 (Below w.heap.size w w'))
  case atStart => exact ⟨(0), (by first | rfl | (simp; done) | (simp [*]; done)), H', ⟨Nat.le_refl _⟩, ⟨by repeat (first | (with_reducible first | exact HB.out | apply below_alloc | apply pw_below_drewN | apply below_drew1) | exact HB.out)⟩⟩
  case round =>
    clear H'
    try clear c1
    obtain ⟨x8_1, rfl, HA, HK1, HB⟩ := hrel
    cases gk with
    | zero => exact absurd HA.out (by simp [sets_Check.l0])
    | succ k1 =>
      have H := HA.out
      clear HA
      simp only [sets_Check.l0] at H
      by_cases c2 : x8_1 < (l0.length : Int)
      · rw [if_pos c2] at H
        have c2b0 : decide (x8_1 < (l0.length : Int)) = true := decide_eq_true c2
        clear c2
        by_cases c3 : 0 ≤ x8_1
        · rw [if_pos c3] at H
          have c3b0 : decide (0 ≤ x8_1) = true := decide_eq_true c3
          clear c3
          by_cases c4 : x8_1 < (l0.length : Int)
          · rw [if_pos c4] at H
            have c4b0 : decide (x8_1 < (l0.length : Int)) = true := decide_eq_true c4
            clear c4
            replace H := Option.bind_eq_some_iff.mp H
            obtain ⟨t147, A50, H⟩ := H
            replace H : (if t147 < 0 then (sets_Check.j1 k1 l0 x8_1 l0 (l0.length : Int) x8_1 true ((rd_T41 l0 x8_1).f0) ((rd_T41 l0 x8_1).f1)) else ((sets_band.f ((rd_T41 l0 x8_1).f1)).bind fun t148 => (if t147 = t148 then (sets_Check.j1 k1 l0 x8_1 l0 (l0.length : Int) x8_1 (decide (((rd_T41 l0 x8_1).f0) > ((rd_T41 l0 x8_1).f1))) ((rd_T41 l0 x8_1).f0) ((rd_T41 l0 x8_1).f1)) else (sets_Check.j1 k1 l0 x8_1 l0 (l0.length : Int) x8_1 true ((rd_T41 l0 x8_1).f0) ((rd_T41 l0 x8_1).f1))))) = some r := H
            have A5 := Aside0.mk A50
            clear A50
            have HC6 := Aside0.mk H
            clear H
            have p145 : 0 ≤ (x8_1 : Int) := of_decide_eq_true (by first | (with_reducible assumption) | assumption)
            have q145 : x8_1 < (l0.length : Int) := of_decide_eq_true (by first | (with_reducible assumption) | assumption)
            obtain ⟨ad145, e145, hx145_0, hx145_1⟩ := at_T41 HR0.out x8_1 p145 q145
            cases e145
            replace hx145_0 := (HB.out.cell (World.block_lt_of_cell? w _ hx145_0)).trans hx145_0
            replace hx145_1 := (HB.out.cell (World.block_lt_of_cell? w _ hx145_1)).trans hx145_1
            replace p145 := eq_true p145
            replace q145 := eq_true q145
            go_upto_region 5 with (first | ((with_reducible refine gate_dst (N := 4) rfl ?_); refine box_event ?hg (N := 4) ?hd (cs := #[.int .i32 0, .int .i32 0]) (t := 41) ?hr ?_; (case hd => rfl); (case hg => rfl); (case hr => first | (go_simp; done) | (go_simp; rfl)); intro gb146 hg w7 hbox hb; have n0_ := Aside0.mk (below_step (by repeat (first | (with_reducible first | exact HB.out | apply below_alloc | apply pw_below_drewN | apply below_drew1) | exact HB.out)) hb); have n1_ := Aside0.mk (hbox); have n2_ := Aside0.mk ((by rw [hg]; exact (below_size (by repeat (first | (with_reducible first | exact HB.out | apply below_alloc | apply pw_below_drewN | apply below_drew1) | exact HB.out))) : w.heap.size ≤ gb146)); have n3_ := Aside0.mk ((by rw [hg]; exact (below_size (by repeat (first | (with_reducible first | exact HB.out | apply below_alloc | apply pw_below_drewN | apply below_drew1) | exact HB.out))) : w.heap.size ≤ gb146)); clear HB; have HB := n0_; have BK146 := n1_; have GW146 := n2_; have GE146 := n3_; clear n0_ n1_ n2_ n3_; clear hb hbox hg; have hcz8_0 : w7.cell? ⟨gb146, 0, none⟩ = some (.int .i32 0) := (blk_cell BK146.out 0).trans rfl; have hcz8_1 : w7.cell? ⟨gb146, 1, none⟩ = some (.int .i32 0) := (blk_cell BK146.out 1).trans rfl; have hfz8_0 := blk_frozen BK146.out 0; have hfz8_1 := blk_frozen BK146.out 1) | (go_at_call 26; (with_reducible refine (sets_band.calls ((rd_T41 l0 x8_1).f0) t147 _ A5.out).mono ?_); rintro e w9 ⟨rfl, hb⟩; have n0_ := Aside0.mk (blk_below (g := gb146) (o := .cells #[.int .i32 ((rd_T41 l0 x8_1).f0), .int .i32 ((rd_T41 l0 x8_1).f1)] 41 (0, 0)) (by (with_reducible repeat (first | refine blk_drewN ?_ _ | refine blk_drew ?_ | refine blk_alloc ?_ _)); refine blk_put (cs := #[.int .i32 ((rd_T41 l0 x8_1).f0), .int .i32 0]) ?_ 1 _ rfl; (with_reducible repeat (first | refine blk_drewN ?_ _ | refine blk_drew ?_ | refine blk_alloc ?_ _)); refine blk_put (cs := #[.int .i32 0, .int .i32 0]) ?_ 0 _ rfl; (with_reducible repeat (first | refine blk_drewN ?_ _ | refine blk_drew ?_ | refine blk_alloc ?_ _)); exact BK146.out) hb); have n1_ := Aside0.mk (below_step (by repeat (first | (with_reducible first | exact HB.out | apply below_alloc | apply pw_below_drewN | apply below_drew1 | refine below_set ?_ GE146.out) | exact HB.out)) hb); clear BK146; clear HB; have BK146 := n0_; have HB := n1_; clear n0_ n1_; (try clear hb); (try clear hb2); (try clear hk); (try clear hi)))
            repeat (go_quiet (first | ((with_reducible refine gate_dst (N := 4) rfl ?_); refine box_event ?hg (N := 4) ?hd (cs := #[.int .i32 0, .int .i32 0]) (t := 41) ?hr ?_; (case hd => rfl); (case hg => rfl); (case hr => first | (go_simp; done) | (go_simp; rfl)); intro gb146 hg w7 hbox hb; have n0_ := Aside0.mk (below_step (by repeat (first | (with_reducible first | exact HB.out | apply below_alloc | apply pw_below_drewN | apply below_drew1) | exact HB.out)) hb); have n1_ := Aside0.mk (hbox); have n2_ := Aside0.mk ((by rw [hg]; exact (below_size (by repeat (first | (with_reducible first | exact HB.out | apply below_alloc | apply pw_below_drewN | apply below_drew1) | exact HB.out))) : w.heap.size ≤ gb146)); have n3_ := Aside0.mk ((by rw [hg]; exact (below_size (by repeat (first | (with_reducible first | exact HB.out | apply below_alloc | apply pw_below_drewN | apply below_drew1) | exact HB.out))) : w.heap.size ≤ gb146)); clear HB; have HB := n0_; have BK146 := n1_; have GW146 := n2_; have GE146 := n3_; clear n0_ n1_ n2_ n3_; clear hb hbox hg; have hcz8_0 : w7.cell? ⟨gb146, 0, none⟩ = some (.int .i32 0) := (blk_cell BK146.out 0).trans rfl; have hcz8_1 : w7.cell? ⟨gb146, 1, none⟩ = some (.int .i32 0) := (blk_cell BK146.out 1).trans rfl; have hfz8_0 := blk_frozen BK146.out 0; have hfz8_1 := blk_frozen BK146.out 1) | (go_at_call 26; (with_reducible refine (sets_band.calls ((rd_T41 l0 x8_1).f0) t147 _ A5.out).mono ?_); rintro e w9 ⟨rfl, hb⟩; have n0_ := Aside0.mk (blk_below (g := gb146) (o := .cells #[.int .i32 ((rd_T41 l0 x8_1).f0), .int .i32 ((rd_T41 l0 x8_1).f1)] 41 (0, 0)) (by (with_reducible repeat (first | refine blk_drewN ?_ _ | refine blk_drew ?_ | refine blk_alloc ?_ _)); refine blk_put (cs := #[.int .i32 ((rd_T41 l0 x8_1).f0), .int .i32 0]) ?_ 1 _ rfl; (with_reducible repeat (first | refine blk_drewN ?_ _ | refine blk_drew ?_ | refine blk_alloc ?_ _)); refine blk_put (cs := #[.int .i32 0, .int .i32 0]) ?_ 0 _ rfl; (with_reducible repeat (first | refine blk_drewN ?_ _ | refine blk_drew ?_ | refine blk_alloc ?_ _)); exact BK146.out) hb); have n1_ := Aside0.mk (below_step (by repeat (first | (with_reducible first | exact HB.out | apply below_alloc | apply pw_below_drewN | apply below_drew1 | refine below_set ?_ GE146.out) | exact HB.out)) hb); clear BK146; clear HB; have BK146 := n0_; have HB := n1_; clear n0_ n1_; (try clear hb); (try clear hb2); (try clear hk); (try clear hi))); go_upto_region 5 with (first | ((with_reducible refine gate_dst (N := 4) rfl ?_); refine box_event ?hg (N := 4) ?hd (cs := #[.int .i32 0, .int .i32 0]) (t := 41) ?hr ?_; (case hd => rfl); (case hg => rfl); (case hr => first | (go_simp; done) | (go_simp; rfl)); intro gb146 hg w7 hbox hb; have n0_ := Aside0.mk (below_step (by repeat (first | (with_reducible first | exact HB.out | apply below_alloc | apply pw_below_drewN | apply below_drew1) | exact HB.out)) hb); have n1_ := Aside0.mk (hbox); have n2_ := Aside0.mk ((by rw [hg]; exact (below_size (by repeat (first | (with_reducible first | exact HB.out | apply below_alloc | apply pw_below_drewN | apply below_drew1) | exact HB.out))) : w.heap.size ≤ gb146)); have n3_ := Aside0.mk ((by rw [hg]; exact (below_size (by repeat (first | (with_reducible first | exact HB.out | apply below_alloc | apply pw_below_drewN | apply below_drew1) | exact HB.out))) : w.heap.size ≤ gb146)); clear HB; have HB := n0_; have BK146 := n1_; have GW146 := n2_; have GE146 := n3_; clear n0_ n1_ n2_ n3_; clear hb hbox hg; have hcz8_0 : w7.cell? ⟨gb146, 0, none⟩ = some (.int .i32 0) := (blk_cell BK146.out 0).trans rfl; have hcz8_1 : w7.cell? ⟨gb146, 1, none⟩ = some (.int .i32 0) := (blk_cell BK146.out 1).trans rfl; have hfz8_0 := blk_frozen BK146.out 0; have hfz8_1 := blk_frozen BK146.out 1) | (go_at_call 26; (with_reducible refine (sets_band.calls ((rd_T41 l0 x8_1).f0) t147 _ A5.out).mono ?_); rintro e w9 ⟨rfl, hb⟩; have n0_ := Aside0.mk (blk_below (g := gb146) (o := .cells #[.int .i32 ((rd_T41 l0 x8_1).f0), .int .i32 ((rd_T41 l0 x8_1).f1)] 41 (0, 0)) (by (with_reducible repeat (first | refine blk_drewN ?_ _ | refine blk_drew ?_ | refine blk_alloc ?_ _)); refine blk_put (cs := #[.int .i32 ((rd_T41 l0 x8_1).f0), .int .i32 0]) ?_ 1 _ rfl; (with_reducible repeat (first | refine blk_drewN ?_ _ | refine blk_drew ?_ | refine blk_alloc ?_ _)); refine blk_put (cs := #[.int .i32 0, .int .i32 0]) ?_ 0 _ rfl; (with_reducible repeat (first | refine blk_drewN ?_ _ | refine blk_drew ?_ | refine blk_alloc ?_ _)); exact BK146.out) hb); have n1_ := Aside0.mk (below_step (by repeat (first | (with_reducible first | exact HB.out | apply below_alloc | apply pw_below_drewN | apply below_drew1 | refine below_set ?_ GE146.out) | exact HB.out)) hb); clear BK146; clear HB; have BK146 := n0_; have HB := n1_; clear n0_ n1_; (try clear hb); (try clear hb2); (try clear hk); (try clear hi))))
            (try simp only [Act.put, List.setIfInBounds_toArray, List.set_cons_zero, List.set_cons_succ])
            go_cut [31] (fun v31 wc => ∃ (kq : Nat) (x31_5 : Bool), v31 = .bool x31_5 ∧ Aside0 (sets_Check.j1 kq l0 x8_1 l0 (l0.length : Int) x8_1 x31_5 ((rd_T41 l0 x8_1).f0) ((rd_T41 l0 x8_1).f1) = some r) ∧ Aside0 (kq ≤ k1) ∧ Aside0 (wc.heap[gb146]? = some (.cells #[.int .i32 ((rd_T41 l0 x8_1).f0), .int .i32 ((rd_T41 l0 x8_1).f1)] 41 (0, 0))) ∧ Aside0 (Below w.heap.size w wc))
            case first =>
              have H := HC6.out
              clear HC6
              by_cases c10 : t147 < 0
              · rw [if_pos c10] at H
                have c10b0 : decide (t147 < 0) = true := decide_eq_true c10
                clear c10
                (first | rw [c10b0] | (simp only [i64_w, i32_w]; rw [c10b0]) | skip)
                have H' := Aside0.mk H
                clear H
                go_wp2
                repeat (go_quiet (fail); try go_wp2)
                go_meet
                case rel => exact ⟨_, (true), (by first | rfl | (simp; done) | (simp [*]; done)), H', ⟨by have := HK1.out; first | omega | exact Nat.le_refl _⟩, ⟨by (with_reducible repeat (first | refine blk_drewN ?_ _ | refine blk_drew ?_ | refine blk_alloc ?_ _)); exact BK146.out⟩, ⟨by repeat (first | (with_reducible first | exact HB.out | apply below_alloc | apply pw_below_drewN | apply below_drew1 | refine below_set ?_ GE146.out) | exact HB.out)⟩⟩
              · rw [if_neg c10] at H
                have c10b0 : decide (t147 < 0) = false := decide_eq_false c10
                clear c10
                (first | rw [c10b0] | (simp only [i64_w, i32_w]; rw [c10b0]) | skip)
                replace H := Option.bind_eq_some_iff.mp H
                obtain ⟨t148, A110, H⟩ := H
                replace H : (if t147 = t148 then (sets_Check.j1 k1 l0 x8_1 l0 (l0.length : Int) x8_1 (decide (((rd_T41 l0 x8_1).f0) > ((rd_T41 l0 x8_1).f1))) ((rd_T41 l0 x8_1).f0) ((rd_T41 l0 x8_1).f1)) else (sets_Check.j1 k1 l0 x8_1 l0 (l0.length : Int) x8_1 true ((rd_T41 l0 x8_1).f0) ((rd_T41 l0 x8_1).f1))) = some r := H
                have A11 := Aside0.mk A110
                clear A110
                by_cases c12 : t147 = t148
                · rw [if_pos c12] at H
                  have c12b0 : (t147 == t148) = true := beq_iff_eq.mpr c12
                  have c12b1 : (t147 != t148) = false := bne_eq_false_iff_eq.mpr c12
                  clear c12
                  have H' := Aside0.mk H
                  clear H
                  have hcz13_0 : w9.cell? ⟨gb146, 0, none⟩ = some (.int .i32 ((rd_T41 l0 x8_1).f0)) := (blk_cell BK146.out 0).trans rfl
                  have hcz13_1 : w9.cell? ⟨gb146, 1, none⟩ = some (.int .i32 ((rd_T41 l0 x8_1).f1)) := (blk_cell BK146.out 1).trans rfl
                  have hfz13_0 := blk_frozen BK146.out 0
                  have hfz13_1 := blk_frozen BK146.out 1
                  go_wp2_with (first | (go_at_call 26; (with_reducible refine (sets_band.calls ((rd_T41 l0 x8_1).f1) t148 _ A11.out).mono ?_); rintro e w14 ⟨rfl, hb⟩; have n0_ := Aside0.mk (blk_below (g := gb146) (o := .cells #[.int .i32 ((rd_T41 l0 x8_1).f0), .int .i32 ((rd_T41 l0 x8_1).f1)] 41 (0, 0)) (by (with_reducible repeat (first | refine blk_drewN ?_ _ | refine blk_drew ?_ | refine blk_alloc ?_ _)); exact BK146.out) hb); have n1_ := Aside0.mk (below_step (by repeat (first | (with_reducible first | exact HB.out | apply below_alloc | apply pw_below_drewN | apply below_drew1 | refine below_set ?_ GE146.out) | exact HB.out)) hb); clear BK146; clear HB; have BK146 := n0_; have HB := n1_; clear n0_ n1_; (try clear hb); (try clear hb2); (try clear hk); (try clear hi); have hcz15_0 : w14.cell? ⟨gb146, 0, none⟩ = some (.int .i32 ((rd_T41 l0 x8_1).f0)) := (blk_cell BK146.out 0).trans rfl; have hcz15_1 : w14.cell? ⟨gb146, 1, none⟩ = some (.int .i32 ((rd_T41 l0 x8_1).f1)) := (blk_cell BK146.out 1).trans rfl; have hfz15_0 := blk_frozen BK146.out 0; have hfz15_1 := blk_frozen BK146.out 1))
                  repeat (go_quiet (first | (go_at_call 26; (with_reducible refine (sets_band.calls ((rd_T41 l0 x8_1).f1) t148 _ A11.out).mono ?_); rintro e w14 ⟨rfl, hb⟩; have n0_ := Aside0.mk (blk_below (g := gb146) (o := .cells #[.int .i32 ((rd_T41 l0 x8_1).f0), .int .i32 ((rd_T41 l0 x8_1).f1)] 41 (0, 0)) (by (with_reducible repeat (first | refine blk_drewN ?_ _ | refine blk_drew ?_ | refine blk_alloc ?_ _)); exact BK146.out) hb); have n1_ := Aside0.mk (below_step (by repeat (first | (with_reducible first | exact HB.out | apply below_alloc | apply pw_below_drewN | apply below_drew1 | refine below_set ?_ GE146.out) | exact HB.out)) hb); clear BK146; clear HB; have BK146 := n0_; have HB := n1_; clear n0_ n1_; (try clear hb); (try clear hb2); (try clear hk); (try clear hi); have hcz15_0 : w14.cell? ⟨gb146, 0, none⟩ = some (.int .i32 ((rd_T41 l0 x8_1).f0)) := (blk_cell BK146.out 0).trans rfl; have hcz15_1 : w14.cell? ⟨gb146, 1, none⟩ = some (.int .i32 ((rd_T41 l0 x8_1).f1)) := (blk_cell BK146.out 1).trans rfl; have hfz15_0 := blk_frozen BK146.out 0; have hfz15_1 := blk_frozen BK146.out 1)); try go_wp2_with (first | (go_at_call 26; (with_reducible refine (sets_band.calls ((rd_T41 l0 x8_1).f1) t148 _ A11.out).mono ?_); rintro e w14 ⟨rfl, hb⟩; have n0_ := Aside0.mk (blk_below (g := gb146) (o := .cells #[.int .i32 ((rd_T41 l0 x8_1).f0), .int .i32 ((rd_T41 l0 x8_1).f1)] 41 (0, 0)) (by (with_reducible repeat (first | refine blk_drewN ?_ _ | refine blk_drew ?_ | refine blk_alloc ?_ _)); exact BK146.out) hb); have n1_ := Aside0.mk (below_step (by repeat (first | (with_reducible first | exact HB.out | apply below_alloc | apply pw_below_drewN | apply below_drew1 | refine below_set ?_ GE146.out) | exact HB.out)) hb); clear BK146; clear HB; have BK146 := n0_; have HB := n1_; clear n0_ n1_; (try clear hb); (try clear hb2); (try clear hk); (try clear hi); have hcz15_0 : w14.cell? ⟨gb146, 0, none⟩ = some (.int .i32 ((rd_T41 l0 x8_1).f0)) := (blk_cell BK146.out 0).trans rfl; have hcz15_1 : w14.cell? ⟨gb146, 1, none⟩ = some (.int .i32 ((rd_T41 l0 x8_1).f1)) := (blk_cell BK146.out 1).trans rfl; have hfz15_0 := blk_frozen BK146.out 0; have hfz15_1 := blk_frozen BK146.out 1)))
                  go_meet
                  case rel => exact ⟨_, (decide (((rd_T41 l0 x8_1).f0) > ((rd_T41 l0 x8_1).f1))), (by first | rfl | (simp; done) | (simp [*]; done)), H', ⟨by have := HK1.out; first | omega | exact Nat.le_refl _⟩, ⟨by (with_reducible repeat (first | refine blk_drewN ?_ _ | refine blk_drew ?_ | refine blk_alloc ?_ _)); exact BK146.out⟩, ⟨by repeat (first | (with_reducible first | exact HB.out | apply below_alloc | apply pw_below_drewN | apply below_drew1 | refine below_set ?_ GE146.out) | exact HB.out)⟩⟩
                · rw [if_neg c12] at H
                  have c12b0 : (t147 == t148) = false := beq_eq_false_iff_ne.mpr c12
                  have c12b1 : (t147 != t148) = true := bne_iff_ne.mpr c12
                  have H' := Aside0.mk H
                  clear H
                  have hcz16_0 : w9.cell? ⟨gb146, 0, none⟩ = some (.int .i32 ((rd_T41 l0 x8_1).f0)) := (blk_cell BK146.out 0).trans rfl
                  have hcz16_1 : w9.cell? ⟨gb146, 1, none⟩ = some (.int .i32 ((rd_T41 l0 x8_1).f1)) := (blk_cell BK146.out 1).trans rfl
                  have hfz16_0 := blk_frozen BK146.out 0
                  have hfz16_1 := blk_frozen BK146.out 1
                  go_wp2_with (first | (go_at_call 26; (with_reducible refine (sets_band.calls ((rd_T41 l0 x8_1).f1) t148 _ A11.out).mono ?_); rintro e w17 ⟨rfl, hb⟩; have n0_ := Aside0.mk (blk_below (g := gb146) (o := .cells #[.int .i32 ((rd_T41 l0 x8_1).f0), .int .i32 ((rd_T41 l0 x8_1).f1)] 41 (0, 0)) (by (with_reducible repeat (first | refine blk_drewN ?_ _ | refine blk_drew ?_ | refine blk_alloc ?_ _)); exact BK146.out) hb); have n1_ := Aside0.mk (below_step (by repeat (first | (with_reducible first | exact HB.out | apply below_alloc | apply pw_below_drewN | apply below_drew1 | refine below_set ?_ GE146.out) | exact HB.out)) hb); clear BK146; clear HB; have BK146 := n0_; have HB := n1_; clear n0_ n1_; (try clear hb); (try clear hb2); (try clear hk); (try clear hi)))
                  repeat (go_quiet (first | (go_at_call 26; (with_reducible refine (sets_band.calls ((rd_T41 l0 x8_1).f1) t148 _ A11.out).mono ?_); rintro e w17 ⟨rfl, hb⟩; have n0_ := Aside0.mk (blk_below (g := gb146) (o := .cells #[.int .i32 ((rd_T41 l0 x8_1).f0), .int .i32 ((rd_T41 l0 x8_1).f1)] 41 (0, 0)) (by (with_reducible repeat (first | refine blk_drewN ?_ _ | refine blk_drew ?_ | refine blk_alloc ?_ _)); exact BK146.out) hb); have n1_ := Aside0.mk (below_step (by repeat (first | (with_reducible first | exact HB.out | apply below_alloc | apply pw_below_drewN | apply below_drew1 | refine below_set ?_ GE146.out) | exact HB.out)) hb); clear BK146; clear HB; have BK146 := n0_; have HB := n1_; clear n0_ n1_; (try clear hb); (try clear hb2); (try clear hk); (try clear hi))); try go_wp2_with (first | (go_at_call 26; (with_reducible refine (sets_band.calls ((rd_T41 l0 x8_1).f1) t148 _ A11.out).mono ?_); rintro e w17 ⟨rfl, hb⟩; have n0_ := Aside0.mk (blk_below (g := gb146) (o := .cells #[.int .i32 ((rd_T41 l0 x8_1).f0), .int .i32 ((rd_T41 l0 x8_1).f1)] 41 (0, 0)) (by (with_reducible repeat (first | refine blk_drewN ?_ _ | refine blk_drew ?_ | refine blk_alloc ?_ _)); exact BK146.out) hb); have n1_ := Aside0.mk (below_step (by repeat (first | (with_reducible first | exact HB.out | apply below_alloc | apply pw_below_drewN | apply below_drew1 | refine below_set ?_ GE146.out) | exact HB.out)) hb); clear BK146; clear HB; have BK146 := n0_; have HB := n1_; clear n0_ n1_; (try clear hb); (try clear hb2); (try clear hk); (try clear hi))))
                  go_meet
                  case rel => exact ⟨_, (true), (by first | rfl | (simp; done) | (simp [*]; done)), H', ⟨by have := HK1.out; first | omega | exact Nat.le_refl _⟩, ⟨by (with_reducible repeat (first | refine blk_drewN ?_ _ | refine blk_drew ?_ | refine blk_alloc ?_ _)); exact BK146.out⟩, ⟨by repeat (first | (with_reducible first | exact HB.out | apply below_alloc | apply pw_below_drewN | apply below_drew1 | refine below_set ?_ GE146.out) | exact HB.out)⟩⟩
            case rest =>
              clear HC6
              try clear c1
              try clear p1
              try clear q1
              try clear hx1
              try clear c2
              try clear c2b0
              try clear p2
              try clear c3
              try clear c3b0
              try clear c4
              try clear c4b0
              try clear c10
              try clear c10b0
              try clear c12
              try clear c12b0
              try clear c12b1
              try clear p14
              try clear q14
              try clear hx14
              try clear hcz13_0
              try clear hcz13_1
              try clear hcz15_0
              try clear hcz15_1
              try clear hcz16_0
              try clear hcz16_1
              try clear hcz8_0
              try clear hcz8_1
              try clear hfz13_0
              try clear hfz13_1
              try clear hfz15_0
              try clear hfz15_1
              try clear hfz16_0
              try clear hfz16_1
              try clear hfz8_0
              try clear hfz8_1
              try clear hx145_0
              try clear hx145_1
              try clear p145
              try clear q145
              obtain ⟨kq, x31_5, rfl, HA, HJ5, BK146, HB⟩ := hcut
              cases kq with
              | zero => exact absurd HA.out (by simp [sets_Check.j1])
              | succ kj5 =>
                have H := HA.out
                clear HA
                simp only [sets_Check.j1] at H
                by_cases c18 : x31_5 = true
                · subst c18
                  have H1 : (some 1) = some r := by rw [if_pos rfl] at H; exact H
                  clear H
                  have H := H1
                  clear H1
                  obtain rfl := Option.some.inj H
                  go_wp2
                  repeat (go_quiet (fail); try go_wp2)
                  go_ret
                  exact ⟨by first | rfl | (simp [errW_none, errW_some] <;> rfl) | (simp [*, errW_none, errW_some] <;> rfl), by repeat (first | (with_reducible first | exact HB.out | apply below_alloc | apply pw_below_drewN | apply below_drew1 | refine below_set ?_ GE146.out) | exact HB.out)⟩
                · replace c18 := Bool.eq_false_iff.mpr c18
                  subst c18
                  have H1 : (if x8_1 > 0 then (if 0 ≤ (wrap64 (x8_1 - 1)) then (if (wrap64 (x8_1 - 1)) < (l0.length : Int) then (if ((rd_T41 l0 x8_1).f0) ≤ ((rd_T41 l0 (wrap64 (x8_1 - 1))).f1) then (some 1) else (if ((rd_T41 l0 x8_1).f0) = (wrap32 (((rd_T41 l0 (wrap64 (x8_1 - 1))).f1) + 1)) then (some 1) else (sets_Check.l0 kj5 l0 l0 (l0.length : Int) (wrap64 (x8_1 + 1))))) else (none)) else (none)) else (sets_Check.l0 kj5 l0 l0 (l0.length : Int) (wrap64 (x8_1 + 1)))) = some r := by rw [if_neg (show ¬ (false = true) by decide)] at H; exact H
                  clear H
                  have H := H1
                  clear H1
                  by_cases c19 : x8_1 > 0
                  · rw [if_pos c19] at H
                    have c19b0 : decide (0 < x8_1) = true := decide_eq_true c19
                    clear c19
                    obtain ⟨ji20, hji20⟩ : ∃ j_ : Int, (wrap64 (x8_1 - 1)) = j_ := ⟨_, rfl⟩
                    replace H : (if 0 ≤ (ji20) then (if (ji20) < (l0.length : Int) then (if ((rd_T41 l0 x8_1).f0) ≤ ((rd_T41 l0 (ji20)).f1) then (some 1) else (if ((rd_T41 l0 x8_1).f0) = (wrap32 (((rd_T41 l0 (ji20)).f1) + 1)) then (some 1) else (sets_Check.l0 kj5 l0 l0 (l0.length : Int) (wrap64 (x8_1 + 1))))) else (none)) else (none)) = some r := by first | (rw [hji20] at H; exact H) | (simp only [hji20] at H ⊢; exact H)
                    have hji20w : (IntKind.i64.wrap (x8_1 - 1)) = ji20 := (i64_w _).trans hji20
                    by_cases c21 : 0 ≤ (ji20)
                    · rw [if_pos c21] at H
                      have c21b0 : decide (0 ≤ (ji20)) = true := decide_eq_true c21
                      clear c21
                      by_cases c22 : (ji20) < (l0.length : Int)
                      · rw [if_pos c22] at H
                        have c22b0 : decide ((ji20) < (l0.length : Int)) = true := decide_eq_true c22
                        clear c22
                        by_cases c23 : ((rd_T41 l0 x8_1).f0) ≤ ((rd_T41 l0 (ji20)).f1)
                        · rw [if_pos c23] at H
                          have c23b0 : decide (((rd_T41 l0 x8_1).f0) ≤ ((rd_T41 l0 (ji20)).f1)) = true := decide_eq_true c23
                          clear c23
                          obtain rfl := Option.some.inj H
                          have hcz24_0 : wc.cell? ⟨gb146, 0, none⟩ = some (.int .i32 ((rd_T41 l0 x8_1).f0)) := (blk_cell BK146.out 0).trans rfl
                          have hcz24_1 : wc.cell? ⟨gb146, 1, none⟩ = some (.int .i32 ((rd_T41 l0 x8_1).f1)) := (blk_cell BK146.out 1).trans rfl
                          have hfz24_0 := blk_frozen BK146.out 0
                          have hfz24_1 := blk_frozen BK146.out 1
                          have p149 : 0 ≤ ((ji20) : Int) := of_decide_eq_true (by first | (with_reducible assumption) | assumption)
                          have q149 : (ji20) < (l0.length : Int) := of_decide_eq_true (by first | (with_reducible assumption) | assumption)
                          obtain ⟨ad149, e149, hx149_0, hx149_1⟩ := at_T41 HR0.out (ji20) p149 q149
                          obtain rfl : ad145 = ad149 := (by injection e149)
                          replace hx149_0 := (HB.out.cell (World.block_lt_of_cell? w _ hx149_0)).trans hx149_0
                          replace hx149_1 := (HB.out.cell (World.block_lt_of_cell? w _ hx149_1)).trans hx149_1
                          replace p149 := eq_true p149
                          replace q149 := eq_true q149
                          go_wp2
                          repeat (go_quiet (fail); try go_wp2)
                          go_ret
                          exact ⟨by first | rfl | (simp [errW_none, errW_some] <;> rfl) | (simp only [← hji20]; first | rfl | (simp [errW_none, errW_some] <;> rfl)) | (simp [*, errW_none, errW_some] <;> rfl), by repeat (first | (with_reducible first | exact HB.out | apply below_alloc | apply pw_below_drewN | apply below_drew1 | refine below_set ?_ GE146.out) | exact HB.out)⟩
                        · rw [if_neg c23] at H
                          have c23b0 : decide (((rd_T41 l0 x8_1).f0) ≤ ((rd_T41 l0 (ji20)).f1)) = false := decide_eq_false c23
                          clear c23
                          by_cases c25 : ((rd_T41 l0 x8_1).f0) = (wrap32 (((rd_T41 l0 (ji20)).f1) + 1))
                          · rw [if_pos c25] at H
                            have c25b0 : (((rd_T41 l0 x8_1).f0) == (wrap32 (((rd_T41 l0 (ji20)).f1) + 1))) = true := beq_iff_eq.mpr c25
                            have c25b1 : (((rd_T41 l0 x8_1).f0) != (wrap32 (((rd_T41 l0 (ji20)).f1) + 1))) = false := bne_eq_false_iff_eq.mpr c25
                            clear c25
                            obtain rfl := Option.some.inj H
                            have hcz26_0 : wc.cell? ⟨gb146, 0, none⟩ = some (.int .i32 ((rd_T41 l0 x8_1).f0)) := (blk_cell BK146.out 0).trans rfl
                            have hcz26_1 : wc.cell? ⟨gb146, 1, none⟩ = some (.int .i32 ((rd_T41 l0 x8_1).f1)) := (blk_cell BK146.out 1).trans rfl
                            have hfz26_0 := blk_frozen BK146.out 0
                            have hfz26_1 := blk_frozen BK146.out 1
                            have p149 : 0 ≤ ((ji20) : Int) := of_decide_eq_true (by first | (with_reducible assumption) | assumption)
                            have q149 : (ji20) < (l0.length : Int) := of_decide_eq_true (by first | (with_reducible assumption) | assumption)
                            obtain ⟨ad149, e149, hx149_0, hx149_1⟩ := at_T41 HR0.out (ji20) p149 q149
                            obtain rfl : ad145 = ad149 := (by injection e149)
                            replace hx149_0 := (HB.out.cell (World.block_lt_of_cell? w _ hx149_0)).trans hx149_0
                            replace hx149_1 := (HB.out.cell (World.block_lt_of_cell? w _ hx149_1)).trans hx149_1
                            replace p149 := eq_true p149
                            replace q149 := eq_true q149
                            have p150 : 0 ≤ ((ji20) : Int) := of_decide_eq_true (by first | (with_reducible assumption) | assumption)
                            have q150 : (ji20) < (l0.length : Int) := of_decide_eq_true (by first | (with_reducible assumption) | assumption)
                            obtain ⟨ad150, e150, hx150_0, hx150_1⟩ := at_T41 HR0.out (ji20) p150 q150
                            obtain rfl : ad145 = ad150 := (by injection e150)
                            replace hx150_0 := (HB.out.cell (World.block_lt_of_cell? w _ hx150_0)).trans hx150_0
                            replace hx150_1 := (HB.out.cell (World.block_lt_of_cell? w _ hx150_1)).trans hx150_1
                            replace p150 := eq_true p150
                            replace q150 := eq_true q150
                            go_wp2
                            repeat (go_quiet (fail); try go_wp2)
                            go_ret
                            exact ⟨by first | rfl | (simp [errW_none, errW_some] <;> rfl) | (simp only [← hji20]; first | rfl | (simp [errW_none, errW_some] <;> rfl)) | (simp [*, errW_none, errW_some] <;> rfl), by repeat (first | (with_reducible first | exact HB.out | apply below_alloc | apply pw_below_drewN | apply below_drew1 | refine below_set ?_ GE146.out) | exact HB.out)⟩
                          · rw [if_neg c25] at H
                            have c25b0 : (((rd_T41 l0 x8_1).f0) == (wrap32 (((rd_T41 l0 (ji20)).f1) + 1))) = false := beq_eq_false_iff_ne.mpr c25
                            have c25b1 : (((rd_T41 l0 x8_1).f0) != (wrap32 (((rd_T41 l0 (ji20)).f1) + 1))) = true := bne_iff_ne.mpr c25
                            have H' := Aside0.mk H
                            clear H
                            have hcz27_0 : wc.cell? ⟨gb146, 0, none⟩ = some (.int .i32 ((rd_T41 l0 x8_1).f0)) := (blk_cell BK146.out 0).trans rfl
                            have hcz27_1 : wc.cell? ⟨gb146, 1, none⟩ = some (.int .i32 ((rd_T41 l0 x8_1).f1)) := (blk_cell BK146.out 1).trans rfl
                            have hfz27_0 := blk_frozen BK146.out 0
                            have hfz27_1 := blk_frozen BK146.out 1
                            have p149 : 0 ≤ ((ji20) : Int) := of_decide_eq_true (by first | (with_reducible assumption) | assumption)
                            have q149 : (ji20) < (l0.length : Int) := of_decide_eq_true (by first | (with_reducible assumption) | assumption)
                            obtain ⟨ad149, e149, hx149_0, hx149_1⟩ := at_T41 HR0.out (ji20) p149 q149
                            obtain rfl : ad145 = ad149 := (by injection e149)
                            replace hx149_0 := (HB.out.cell (World.block_lt_of_cell? w _ hx149_0)).trans hx149_0
                            replace hx149_1 := (HB.out.cell (World.block_lt_of_cell? w _ hx149_1)).trans hx149_1
                            replace p149 := eq_true p149
                            replace q149 := eq_true q149
                            have p150 : 0 ≤ ((ji20) : Int) := of_decide_eq_true (by first | (with_reducible assumption) | assumption)
                            have q150 : (ji20) < (l0.length : Int) := of_decide_eq_true (by first | (with_reducible assumption) | assumption)
                            obtain ⟨ad150, e150, hx150_0, hx150_1⟩ := at_T41 HR0.out (ji20) p150 q150
                            obtain rfl : ad145 = ad150 := (by injection e150)
                            replace hx150_0 := (HB.out.cell (World.block_lt_of_cell? w _ hx150_0)).trans hx150_0
                            replace hx150_1 := (HB.out.cell (World.block_lt_of_cell? w _ hx150_1)).trans hx150_1
                            replace p150 := eq_true p150
                            replace q150 := eq_true q150
                            go_wp2
                            repeat (go_quiet (fail); try go_wp2)
                            go_roundg kj5
                            case measure => have := HK1.out; have := HJ5.out; omega
                            case rel => exact ⟨(wrap64 (x8_1 + 1)), (by first | rfl | (simp; done) | (simp [*]; done)), H', ⟨by have := HK1.out; have := HJ5.out; omega⟩, ⟨by repeat (first | (with_reducible first | exact HB.out | apply below_alloc | apply pw_below_drewN | apply below_drew1 | refine below_set ?_ GE146.out) | exact HB.out)⟩⟩
                      · rw [if_neg c22] at H
                        exact absurd H (by simp)
                    · rw [if_neg c21] at H
                      exact absurd H (by simp)
                  · rw [if_neg c19] at H
                    have c19b0 : decide (0 < x8_1) = false := decide_eq_false c19
                    clear c19
                    have H' := Aside0.mk H
                    clear H
                    go_wp2
                    repeat (go_quiet (fail); try go_wp2)
                    go_roundg kj5
                    case measure => have := HK1.out; have := HJ5.out; omega
                    case rel => exact ⟨(wrap64 (x8_1 + 1)), (by first | rfl | (simp; done) | (simp [*]; done)), H', ⟨by have := HK1.out; have := HJ5.out; omega⟩, ⟨by repeat (first | (with_reducible first | exact HB.out | apply below_alloc | apply pw_below_drewN | apply below_drew1 | refine below_set ?_ GE146.out) | exact HB.out)⟩⟩
          · rw [if_neg c4] at H
            exact absurd H (by simp)
        · rw [if_neg c3] at H
          exact absurd H (by simp)
      · rw [if_neg c2] at H
        have c2b0 : decide (x8_1 < (l0.length : Int)) = false := decide_eq_false c2
        clear c2
        obtain rfl := Option.some.inj H
        go_wp2
        repeat (go_quiet (fail); try go_wp2)
        go_ret
        exact ⟨by first | rfl | (simp [errW_none, errW_some] <;> rfl) | (simp [*, errW_none, errW_some] <;> rfl), by repeat (first | (with_reducible first | exact HB.out | apply below_alloc | apply pw_below_drewN | apply below_drew1) | exact HB.out)⟩

-- NOT PRINTED: function 52 (api_Range_rune)

/-! ### sets_has: function 30 -/
/-- what the binary search asks of a range: -1 where it lies below u, 1 where it lies above, else 0 -/
def hasCmp (x : S41) (u : Int) : Int := if x.f1 < u then -1 else if u < x.f0 then 1 else 0
set_option maxHeartbeats 800000 in
theorem has_lit (x y u : Int) (W : World) :
    Calls Tryd.prog 53 #[.agg #[.int .i32 x, .int .i32 y], .int .i32 u] W fun e w' => e = .returned (.int .i64 (hasCmp ⟨x, y⟩ u)) ∧ Below W.heap.size W w' := by
  have hu31 := Tryd.underlying41
  unfold hasCmp
  by_cases h1 : y < u
  · rw [if_pos h1]
    have d1 : decide (y < u) = true := decide_eq_true h1
    go_enter Tryd.func53, Tryd.ntmps53
    go_wp2
    go_ret
    exact ⟨rfl, by repeat (first | exact Below.refl _ _ | apply below_alloc | apply pw_below_drewN | apply below_drew1)⟩
  · rw [if_neg h1]
    have d1 : decide (y < u) = false := decide_eq_false h1
    by_cases h2 : u < x
    · rw [if_pos h2]
      have d2 : decide (u < x) = true := decide_eq_true h2
      go_enter Tryd.func53, Tryd.ntmps53
      go_wp2
      go_ret
      exact ⟨rfl, by repeat (first | exact Below.refl _ _ | apply below_alloc | apply pw_below_drewN | apply below_drew1)⟩
    · rw [if_neg h2]
      have d2 : decide (u < x) = false := decide_eq_false h2
      go_enter Tryd.func53, Tryd.ntmps53
      go_wp2
      go_ret
      exact ⟨rfl, by repeat (first | exact Below.refl _ _ | apply below_alloc | apply pw_below_drewN | apply below_drew1)⟩
/-- the search between i and j: the least place from i on whose range does not lie below u, if the ranges rise -/
def hasFind (u : Int) (l : List S41) : Nat → Nat → Nat → Option Nat
  | 0, _, _ => none
  | k + 1, i, j => if i < j then (if hasCmp (l.getD ((i + j) / 2) z41) u < 0 then hasFind u l k ((i + j) / 2 + 1) j else hasFind u l k i ((i + j) / 2)) else some i
theorem hasFind.mono (u : Int) (l : List S41) : ∀ k i j, LeO (hasFind u l k i j) (hasFind u l (k + 1) i j)
  | 0, _, _ => fun r h => by simp [hasFind] at h
  | k + 1, i, j => by
    have ih := hasFind.mono u l k
    unfold hasFind
    refine LeO.ite (LeO.ite ?_ ?_) (LeO.refl _)
    · exact ih _ _
    · exact ih _ _
def sets_has.f (k : Nat) (l0 : List S41) (a1 : Int) : Option Bool :=
  if l0.length ≤ 4611686018427387903 then ((hasFind a1 l0 k 0 l0.length).bind fun i => some (decide (i < l0.length) && decide (hasCmp (l0.getD i z41) a1 = 0))) else none
theorem sets_has.mono : ∀ a0 a1 k, LeO (sets_has.f k a0 a1) (sets_has.f (k + 1) a0 a1) := by
  intro a0 a1 k
  unfold sets_has.f
  exact LeO.ite (LeO.bind (hasFind.mono _ _ _ _ _) (fun _ => LeO.refl _)) (LeO.none _)
set_option maxHeartbeats 1600000 in
set_option maxRecDepth 100000 in
theorem has_search (k : Nat) (u : Int) (A : Option Addr) (c : Nat) (l : List S41) (n : Nat) (w : World) (hr : Kd.C k41 w A l.length l) (hc : l.length ≤ c) (hb8 : l.length ≤ 4611686018427387903) (h : hasFind u l k 0 l.length = some n) :
    Calls Tryd.prog 52 #[.slice A l.length c, .int .i32 u, .func (.func 53) #[] #[]] w fun e w' => e = .returned (.tuple #[.int .i64 n, .bool (decide (n < l.length) && decide (hasCmp (l.getD n z41) u = 0))]) ∧ Below w.heap.size w w' := by
  have hu31 := Tryd.underlying41
  have HR := Aside0.mk hr
  have HK := Aside0.mk hc
  have HF := Aside0.mk h
  clear hr hc h
  go_enter Tryd.func52, Tryd.ntmps52
  go_wp2
  go_loopw [9, 10] (fun vi vj wr => ∃ i j : Nat, i ≤ j ∧ j ≤ l.length ∧ vi = .int .i64 i ∧ vj = .int .i64 j ∧ Aside0 (∃ k, hasFind u l k i j = some n) ∧ Aside0 (Below w.heap.size w wr)) (fun vi vj _ => (intOf vj).toNat - (intOf vi).toNat)
  case atStart => exact ⟨0, l.length, Nat.zero_le _, Nat.le_refl _, rfl, rfl, ⟨⟨k, HF.out⟩⟩, ⟨Below.refl _ _⟩⟩
  case round =>
    obtain ⟨i, j, hij, hjl, rfl, rfl, HI, HB⟩ := hrel
    by_cases hlt : i < j
    · have hlt1 : decide ((i : Int) < (j : Int)) = true := decide_eq_true (by omega)
      obtain ⟨kk, hkk⟩ := HI.out
      have hn : (((i : Int) + (j : Int)) / 2).toNat = (i + j) / 2 := by omega
      have hrd : rd_T41 l (((i : Int) + (j : Int)) / 2) = l.getD ((i + j) / 2) z41 := by rw [rd_T41, hn]
      obtain ⟨ad, e1, h0, h1⟩ := at_T41 (Kd.C_below HR.out HB.out) (((i : Int) + (j : Int)) / 2) (by omega) (by omega)
      subst e1
      rw [hn] at h0 h1
      have hp : 0 ≤ ((i : Int) + (j : Int)) / 2 := by omega
      have hq : ((i : Int) + (j : Int)) / 2 < (l.length : Int) := by omega
      have HL := Aside0.mk (has_lit (rd_T41 l (((i : Int) + (j : Int)) / 2)).f0 (rd_T41 l (((i : Int) + (j : Int)) / 2)).f1 u wr)
      cases kk with
      | zero => exact absurd hkk (by simp [hasFind])
      | succ kk =>
        rw [hasFind, if_pos hlt] at hkk
        have hce : hasCmp ⟨(rd_T41 l (((i : Int) + (j : Int)) / 2)).f0, (rd_T41 l (((i : Int) + (j : Int)) / 2)).f1⟩ u = hasCmp (l.getD ((i + j) / 2) z41) u := by rw [hrd]
        by_cases hcm : hasCmp (l.getD ((i + j) / 2) z41) u < 0
        · rw [if_pos hcm] at hkk
          have HKK := Aside0.mk hkk
          have d1 : decide (hasCmp ⟨(rd_T41 l (((i : Int) + (j : Int)) / 2)).f0, (rd_T41 l (((i : Int) + (j : Int)) / 2)).f1⟩ u < 0) = true := by rw [hce]; exact decide_eq_true hcm
          clear hkk hcm hce hrd hn
          go_wp2_with (refine HL.out.mono ?_; rintro e w' ⟨rfl, hb⟩; have HB2 := Aside0.mk (below_step HB.out hb); clear hb)
          go_roundw
          case rel => exact ⟨(i + j) / 2 + 1, j, by omega, hjl, by go_num, rfl, ⟨⟨kk, HKK.out⟩⟩, HB2⟩
          case measure => simp [intOf]; omega
        · rw [if_neg hcm] at hkk
          have HKK := Aside0.mk hkk
          have d1 : decide (hasCmp ⟨(rd_T41 l (((i : Int) + (j : Int)) / 2)).f0, (rd_T41 l (((i : Int) + (j : Int)) / 2)).f1⟩ u < 0) = false := by rw [hce]; exact decide_eq_false hcm
          clear hkk hcm hce hrd hn
          go_wp2_with (refine HL.out.mono ?_; rintro e w' ⟨rfl, hb⟩; have HB2 := Aside0.mk (below_step HB.out hb); clear hb)
          go_roundw
          case rel => exact ⟨i, (i + j) / 2, by omega, by omega, rfl, by go_num, ⟨⟨kk, HKK.out⟩⟩, HB2⟩
          case measure => simp [intOf]; omega
    · have hlt1 : decide ((i : Int) < (j : Int)) = false := decide_eq_false (by omega)
      obtain ⟨kk, hkk⟩ := HI.out
      have hin : i = n := by
        cases kk with
        | zero => exact absurd hkk (by simp [hasFind])
        | succ kk => rw [hasFind, if_neg hlt] at hkk; exact Option.some.inj hkk
      subst hin
      clear hkk HI HF
      by_cases hil : i < l.length
      · have d2 : decide ((i : Int) < (l.length : Int)) = true := decide_eq_true (by omega)
        have d3 : decide (i < l.length) = true := decide_eq_true hil
        obtain ⟨ad, e1, h0, h1⟩ := at_T41 (Kd.C_below HR.out HB.out) (i : Int) (by omega) (by omega)
        subst e1
        simp only [Int.toNat_natCast] at h0 h1
        have hrd : rd_T41 l (i : Int) = l.getD i z41 := by simp [rd_T41]
        have HL := Aside0.mk (has_lit (rd_T41 l (i : Int)).f0 (rd_T41 l (i : Int)).f1 u wr)
        have hp : 0 ≤ (i : Int) := by omega
        have hq : (i : Int) < (l.length : Int) := by omega
        have HRD := Aside0.mk hrd
        clear hrd
        go_wp2_with (refine HL.out.mono ?_; rintro e w' ⟨rfl, hb⟩; have HB2 := Aside0.mk (below_step HB.out hb); clear hb)
        go_ret2
        refine ⟨?_, HB2.out⟩
        rw [d3, Bool.true_and, ← HRD.out]
        have hb2 : ∀ x : Int, (x == 0) = decide (x = 0) := fun x => by by_cases hx : x = 0 <;> simp [hx]
        rw [← hb2]
        rfl
      · have d2 : decide ((i : Int) < (l.length : Int)) = false := decide_eq_false (by omega)
        have d3 : decide (i < l.length) = false := decide_eq_false hil
        go_wp2
        go_ret2
        exact ⟨by rw [d3]; rfl, HB.out⟩
set_option maxHeartbeats 800000 in
set_option maxRecDepth 100000 in
theorem sets_has.calls (k : Nat) (A0 : Option Addr) (c0 : Nat) (l0 : List S41) (a1 : Int) (r : Bool) (w : World) (hr0 : Kd.C k41 w A0 l0.length l0) (hc0 : l0.length ≤ c0) (h : sets_has.f k l0 a1 = some r) (hG : GOK w := by first | (with_reducible exact HG_.out) | exact GOK.below HG_.out (by repeat (first | (with_reducible exact Below.refl _ _) | (with_reducible first | exact HB.out | apply below_alloc | apply pw_below_drewN | apply below_drew1 | refine below_set ?_ (Aside0.out (by assumption))) | exact HB.out)) | exact GOK.drewN HG_.out _ | exact GOK.drewN (GOK.drewN HG_.out _) _ | exact GOK.drew HG_.out) :
    Calls Tryd.prog 30 #[.slice A0 l0.length c0, .int .i32 a1] w fun e w' => e = .returned (.bool r) ∧ Below w.heap.size w w' := by
  unfold sets_has.f at h
  by_cases hb8 : l0.length ≤ 4611686018427387903
  · rw [if_pos hb8] at h
    obtain ⟨n, hn, h⟩ := Option.bind_eq_some_iff.mp h
    obtain rfl := Option.some.inj h
    have HC := Aside0.mk (has_search k a1 A0 c0 l0 n w hr0 hc0 hb8 hn)
    clear hr0 hc0 hn h hG hb8
    go_enter Tryd.func30, Tryd.ntmps30
    go_wp2_with (refine HC.out.mono ?_; rintro e w' ⟨rfl, hb⟩; have HB := Aside0.mk hb; clear hb)
    go_ret
    exact ⟨rfl, HB.out⟩
  · rw [if_neg hb8] at h
    cases h

/-! ### sets_Has: function 12 -/
def sets_Has.f (k : Nat) (l0 : List (S41)) (a1 : Int) : Option (Bool × Int) := (sets_Check.f k l0).bind fun t151 => (if t151 = 0 then ((sets_has.f k l0 a1).bind fun t152 => (some (t152, 0))) else (some (false, t151)))
theorem sets_Has.mono : ∀ a0 a1 k, LeO (sets_Has.f k a0 a1) (sets_Has.f (k + 1) a0 a1) := by
  intro a0 a1 k
  unfold sets_Has.f
  repeat' first
      | (with_reducible exact sets_Check.mono _ _)
      | (with_reducible exact sets_has.mono _ _ _)
      | (with_reducible exact LeO.refl _)
      | (with_reducible exact LeO.none _)
      | (with_reducible refine LeO.ite ?_ ?_)
      | (with_reducible refine LeO.bind ?_ (fun _ => ?_))
      | exact sets_Check.mono _ _
      | exact sets_has.mono _ _ _
      | exact LeO.none _
      | refine LeO.ite ?_ ?_
      | refine LeO.bind ?_ (fun _ => ?_)
set_option maxHeartbeats 8000000 in
set_option maxRecDepth 100000 in
theorem sets_Has.calls (k : Nat) (A0 : Option Addr) (c0 : Nat) (l0 : List (S41)) (a1 : Int) (r1 : Bool) (r2 : Int) (w : World) (hr0 : Kd.C k41 w A0 l0.length l0) (hc0 : l0.length ≤ c0) (h : sets_Has.f k l0 a1 = some (r1, r2)) (hG : GOK w := by first | (with_reducible exact HG_.out) | exact GOK.below HG_.out (by repeat (first | (with_reducible exact Below.refl _ _) | (with_reducible first | exact HB.out | apply below_alloc | apply pw_below_drewN | apply below_drew1 | refine below_set ?_ (Aside0.out (by assumption))) | exact HB.out)) | exact GOK.drewN HG_.out _ | exact GOK.drewN (GOK.drewN HG_.out _) _ | exact GOK.drew HG_.out) :
    Calls Tryd.prog 12 #[.slice A0 l0.length c0, .int .i32 a1] w fun e w' => e = .returned (.tuple #[.bool r1, .int .i64 r2]) ∧ Below w.heap.size w w' := by
  have HG_ := Aside0.mk hG
  clear hG
  have HR0 := Aside0.mk hr0
  have HC0 := Aside0.mk hc0
  clear hr0 hc0
  have HB := Aside0.mk (Below.refl w.heap.size w)
  have H : ((sets_Check.f k l0).bind fun t151 => (if t151 = 0 then ((sets_has.f k l0 a1).bind fun t152 => (some (t152, 0))) else (some (false, t151)))) = some (r1, r2) := h
  clear h
  replace H := Option.bind_eq_some_iff.mp H
  obtain ⟨t151, A30, H⟩ := H
  replace H : (if t151 = 0 then ((sets_has.f k l0 a1).bind fun t152 => (some (t152, 0))) else (some (false, t151))) = some (r1, r2) := H
  have A3 := Aside0.mk A30
  clear A30
  by_cases c4 : t151 = 0
  · rw [if_pos c4] at H
    have c4b0 : (t151 == 0) = true := beq_iff_eq.mpr c4
    have c4b1 : (t151 != 0) = false := bne_eq_false_iff_eq.mpr c4
    clear c4
    replace H := Option.bind_eq_some_iff.mp H
    obtain ⟨t152, A50, H⟩ := H
    replace H : (some (t152, 0)) = some (r1, r2) := H
    have A5 := Aside0.mk A50
    clear A50
    simp only [Option.some.injEq, Prod.mk.injEq] at H
    obtain ⟨rfl, rfl⟩ := H
    go_enter Tryd.func12, Tryd.ntmps12
    go_wp2_with (first | ((with_reducible refine gate_callee (f := 10) rfl ?_); refine goesL_ (some 8) rfl rfl Tryd.func10 (by kernel_rfl) rfl #[.slice A0 l0.length c0] rfl (by (try simp only [List.map_toArray, List.map_cons, List.map_nil]); first | done | rfl | (simp only [List.length_drop, List.length_take]; rfl)) ?_; (with_reducible refine (sets_Check.calls k _ _ l0 t151 _ ?side1 ?side2 A3.out).mono ?_); (case side1 => repeat (first | exact HR0.out | (with_reducible refine Kd.C_alloc ?_ _) | (with_reducible refine Kd.C_drewN ?_ _) | (with_reducible refine Kd.C_drew ?_))); (case side2 => exact HC0.out); rintro e w6 ⟨rfl, hb⟩; refine ⟨_, rfl, ?_⟩; have n0_ := Aside0.mk (below_step (by repeat (first | (with_reducible first | exact HB.out | apply below_alloc | apply pw_below_drewN | apply below_drew1) | exact HB.out)) hb); clear HB; have HB := n0_; clear n0_; (try clear hb); (try clear hb2); (try clear hk); (try clear hi)) | ((with_reducible refine gate_callee (f := 30) rfl ?_); refine goesL_ (some 14) rfl rfl Tryd.func30 (by kernel_rfl) rfl #[.slice A0 l0.length c0, .int .i32 a1] rfl (by (try simp only [List.map_toArray, List.map_cons, List.map_nil]); first | done | rfl | (simp only [List.length_drop, List.length_take]; rfl)) ?_; (with_reducible refine (sets_has.calls k _ _ l0 a1 t152 _ ?side1 ?side2 A5.out).mono ?_); (case side1 => repeat (first | exact (Kd.C_below HR0.out HB.out) | (with_reducible refine Kd.C_alloc ?_ _) | (with_reducible refine Kd.C_drewN ?_ _) | (with_reducible refine Kd.C_drew ?_))); (case side2 => exact HC0.out); rintro e w7 ⟨rfl, hb⟩; refine ⟨_, rfl, ?_⟩; have n0_ := Aside0.mk (below_step (by repeat (first | (with_reducible first | exact HB.out | apply below_alloc | apply pw_below_drewN | apply below_drew1) | exact HB.out)) hb); clear HB; have HB := n0_; clear n0_; (try clear hb); (try clear hb2); (try clear hk); (try clear hi)))
    go_ret2
    exact ⟨by first | rfl | (simp [errW_none, errW_some] <;> rfl) | (simp [*, errW_none, errW_some] <;> rfl), by repeat (first | (with_reducible first | exact HB.out | apply below_alloc | apply pw_below_drewN | apply below_drew1) | exact HB.out)⟩
  · rw [if_neg c4] at H
    have c4b0 : (t151 == 0) = false := beq_eq_false_iff_ne.mpr c4
    have c4b1 : (t151 != 0) = true := bne_iff_ne.mpr c4
    simp only [Option.some.injEq, Prod.mk.injEq] at H
    obtain ⟨rfl, rfl⟩ := H
    go_enter Tryd.func12, Tryd.ntmps12
    go_wp2_with (first | ((with_reducible refine gate_callee (f := 10) rfl ?_); refine goesL_ (some 8) rfl rfl Tryd.func10 (by kernel_rfl) rfl #[.slice A0 l0.length c0] rfl (by (try simp only [List.map_toArray, List.map_cons, List.map_nil]); first | done | rfl | (simp only [List.length_drop, List.length_take]; rfl)) ?_; (with_reducible refine (sets_Check.calls k _ _ l0 t151 _ ?side1 ?side2 A3.out).mono ?_); (case side1 => repeat (first | exact HR0.out | (with_reducible refine Kd.C_alloc ?_ _) | (with_reducible refine Kd.C_drewN ?_ _) | (with_reducible refine Kd.C_drew ?_))); (case side2 => exact HC0.out); rintro e w8 ⟨rfl, hb⟩; refine ⟨_, rfl, ?_⟩; have n0_ := Aside0.mk (below_step (by repeat (first | (with_reducible first | exact HB.out | apply below_alloc | apply pw_below_drewN | apply below_drew1) | exact HB.out)) hb); clear HB; have HB := n0_; clear n0_; (try clear hb); (try clear hb2); (try clear hk); (try clear hi)))
    go_ret2
    exact ⟨by first | rfl | (simp [errW_none, errW_some] <;> rfl) | (simp [*, errW_none, errW_some] <;> rfl), by repeat (first | (with_reducible first | exact HB.out | apply below_alloc | apply pw_below_drewN | apply below_drew1) | exact HB.out)⟩

/-! ### slices_Clone_Range: function 22 -/
def slices_Clone_Range.f (l0 : List S41) : Option (List S41) := if l0.length < 17592186044416 then some l0 else none
theorem empty_row_rng (w : World) : k41.R 41 (w.alloc (.cells #[] 41)) w.heap.size (fun _ => True) (.slice (some ⟨w.heap.size, 0, none⟩) 0 0) [] :=
  ⟨fun _ _ => trivial, [], by
    have h := World.ownsRow_lit (base := w.heap.size) (e := 41) (size := 2) w #[] 0 (Nat.le_refl _) (by decide) (by simp)
    have h2 : (w.alloc (.cells #[] 41)).ownsRow w.heap.size 41 2 (.slice (some ⟨w.heap.size, 0, none⟩) 0 0) 0 [] := by simpa using h
    exact h2, Reps.none _ _⟩
set_option maxHeartbeats 4000000 in
set_option maxRecDepth 100000 in
theorem slices_Clone_Range.calls (A0 : Option Addr) (c0 : Nat) (l0 : List S41) (r : List S41) (w : World) (hr0 : Kd.C k41 w A0 l0.length l0) (hc0 : l0.length ≤ c0) (h : slices_Clone_Range.f l0 = some r) :
    Calls Tryd.prog 22 #[.slice A0 l0.length c0] w fun e w' => ∃ v0_ : Value, e = .returned (v0_) ∧ Kd.R k41 41 w' w.heap.size (fun _ => True) v0_ r ∧ Below w.heap.size w w' := by
  unfold slices_Clone_Range.f at h
  split at h
  case isFalse => cases h
  case isTrue hn =>
  injection h with h
  subst h
  cases A0 with
  | none =>
    obtain rfl : l0 = [] := by
      rcases Nat.eq_zero_or_pos l0.length with h0 | h0
      · exact List.length_eq_zero_iff.1 h0
      · obtain ⟨ad, he, _⟩ := hr0.2.2 h0
        cases he
    have hq := fun (W : World) => Go.Lib.run_eql_slice_nil (P := Tryd.prog) W 24 41 none 0 c0 0 0 Tryd.underlying24
    clear hr0 hc0 hn
    go_enter Tryd.func22, Tryd.ntmps22
    go_wp2
    go_ret
    exact ⟨_, rfl, Kd.R_nil _ _ _ _ _, Below.refl _ _⟩
  | some ad =>
    have HO := Aside0.mk (empty_row_rng w)
    have HB := Aside0.mk (below_alloc (Below.refl w.heap.size w) (.cells #[] 41))
    have HC := Aside0.mk (Kd.C_below hr0 HB.out)
    have HN := Aside0.mk hn
    have hq := fun (W : World) => Go.Lib.run_eql_slice_nil (P := Tryd.prog) W 24 41 (some ad) l0.length c0 0 0 Tryd.underlying24
    clear hr0 hc0 hn
    go_enter Tryd.func22, Tryd.ntmps22
    go_wp2_with ((with_reducible refine gate_builtin (b := .append) (xs := #[.tmp 5, .tmp 6]) rfl ?_); at_builtin; refine Kd.R_append_rows k41 (w0 := w) w.heap.size rfl (.tmp 5) (.tmp 6) 24 41 (.agg #[.int .i32 0, .int .i32 0]) 8 rfl Tryd.underlying24 (by kernel_rfl) rfl (by decide) (by decide) _ [] l0 (some ad) l0.length c0 (fun _ => True) (fun _ => False) rfl rfl HO.out HC.out (fun x cs h => by obtain rfl := k41_open h; exact k41_mkM _ _ _ x) (fun _ h => h.elim) (fun _ _ => trivial) HB.out HB.out.size (by have := HN.out; simp; omega) ?_; intro v5 w5 ho hb hg hat; have HR5 := Aside0.mk ho; have HB5 := Aside0.mk hb; clear ho hb hg hat)
    go_ret
    exact ⟨_, rfl, HR5.out, HB5.out⟩

-- NOT PRINTED: function 91 (api_Range_91)

-- NOT PRINTED: function 103 (api_Range_103)

-- NOT PRINTED: function 92 (api_Range_92)

-- NOT PRINTED: function 93 (api_Range_93)

-- NOT PRINTED: function 106 (api_Range_106)

-- NOT PRINTED: function 105 (api_Range_105)

-- NOT PRINTED: function 104 (api_Range_104)

-- NOT PRINTED: function 94 (api_Range_94)

-- NOT PRINTED: function 95 (api_Range_95)

-- NOT PRINTED: function 96 (api_Range_96)

-- NOT PRINTED: function 97 (api_Range_97)

-- NOT PRINTED: function 98 (api_Range_98)

-- NOT PRINTED: function 78 (api_Range_78)

/-! ### slices_SortFunc_lo: function 54 with thistle/sets.gather$1 -/
namespace SortLo
abbrev Rg := S41
instance : Inhabited Rg := ⟨⟨0, 0⟩⟩
def encR (x : Rg) : List Value := [.int .i32 x.f0, .int .i32 x.f1]
def cfLo (x y : Rg) : Int := Lib.compareInt x.f0 y.f0
theorem ltLo (x y : Rg) : ltOf cfLo x y = decide (x.f0 < y.f0) := by
  unfold ltOf cfLo Lib.compareInt
  by_cases h1 : x.f0 < y.f0
  · simp [h1]
  · by_cases h2 : y.f0 < x.f0 <;> simp [h1, h2]
theorem swoLo : Go.Sort.SWO (ltOf cfLo) where
  irrefl x := by rw [ltLo]; simp
  trans x y z h1 h2 := by rw [ltLo] at *; simp at *; omega
  ntrans x y z h1 h2 := by rw [ltLo] at *; simp at *; omega
def sortLo (l : List Rg) : List Rg := (Go.Sort.pdq (ltOf cfLo) l.toArray 0 l.toArray.size (Lib.bitLen l.toArray.size) true true).toList
theorem sortLo_ok (l : List Rg) : (sortLo l).Perm l ∧ (sortLo l).Pairwise (fun x y => x.f0 ≤ y.f0) := by
  have h := Go.Sort.pdq_sorts (ltOf cfLo) swoLo l.toArray 0 l.toArray.size (Lib.bitLen l.toArray.size) true true (Nat.zero_le _) (Nat.le_refl _) (Or.inl rfl)
  obtain ⟨⟨h1, _, h3⟩, h4⟩ := h
  unfold sortLo
  generalize Go.Sort.pdq (ltOf cfLo) l.toArray 0 l.toArray.size (Lib.bitLen l.toArray.size) true true = d at *
  refine ⟨?_, ?_⟩
  · have e1 : (d.extract 0 l.toArray.size).toList = d.toList := by rw [← h1]; simp
    have e2 : (l.toArray.extract 0 l.toArray.size).toList = l := by simp
    rw [e1, e2] at h3
    exact h3
  · rw [List.pairwise_iff_getElem]
    intro i j hi hj hij
    have h5 := h4 i j (Nat.zero_le _) hij (by rw [← h1]; simpa using hj)
    rw [ltLo, decide_eq_false_iff_not, getElem!_pos d i (by simpa using hi), getElem!_pos d j (by simpa using hj)] at h5
    simpa using h5
theorem isNaN32 (x : Int) (w : World) : Calls Tryd.prog 79 #[.int .i32 x] w fun e w' => e = .returned (.bool false) ∧ w' = w := by
  go_enter Tryd.func79, Tryd.ntmps79
  go_wp2
  go_ret
  exact ⟨by simp, rfl⟩
theorem compare32 (x y : Int) (w : World) : Calls Tryd.prog 56 #[.int .i32 x, .int .i32 y] w fun e w' => e = .returned (.int .i64 (Lib.compareInt x y)) ∧ w' = w := by
  have hc : Lib.compareInt x y = if x < y then -1 else if y < x then 1 else 0 := by
    unfold Lib.compareInt
    by_cases h1 : x < y
    · simp [h1]
    · by_cases h2 : y < x <;> simp [h1, h2]
  have HC := Aside0.mk hc
  clear hc
  rcases Int.lt_trichotomy x y with h | h | h
  · have h1 : (Lib.compareInt x y) = -1 := by rw [HC.out, if_pos h]
    have H1 := Aside0.mk h1
    clear h1 HC
    go_enter Tryd.func56, Tryd.ntmps56
    go_wp2_with (go_at_call 79; refine (isNaN32 _ _).mono ?_; rintro e w' ⟨rfl, rfl⟩)
    go_ret
    exact ⟨by rw [H1.out]; rfl, rfl⟩
  · subst h
    have h1 : (Lib.compareInt x x) = 0 := by rw [HC.out, if_neg (by omega), if_neg (by omega)]
    have H1 := Aside0.mk h1
    have h2 : ¬ x < x := by omega
    clear h1 HC
    go_enter Tryd.func56, Tryd.ntmps56
    go_wp2_with (go_at_call 79; refine (isNaN32 _ _).mono ?_; rintro e w' ⟨rfl, rfl⟩)
    go_ret
    exact ⟨by rw [H1.out]; rfl, rfl⟩
  · have h1 : (Lib.compareInt x y) = 1 := by rw [HC.out, if_neg (by omega), if_pos h]
    have H1 := Aside0.mk h1
    have h2 : ¬ x < y := by omega
    clear h1 HC
    go_enter Tryd.func56, Tryd.ntmps56
    go_wp2_with (go_at_call 79; refine (isNaN32 _ _).mono ?_; rintro e w' ⟨rfl, rfl⟩)
    go_ret
    exact ⟨by rw [H1.out]; rfl, rfl⟩
set_option maxHeartbeats 1000000 in
theorem closure (x y : Rg) (W : World) : Calls Tryd.prog 55 #[.agg #[.int .i32 x.f0, .int .i32 x.f1], .agg #[.int .i32 y.f0, .int .i32 y.f1]] W fun e w' => e = .returned (.int .i64 (cfLo x y)) ∧ ∃ q os', w' = Go.Sort.grow (W.drewN q) os' := by
  have hcon := fun W' => compare32 x.f0 y.f0 W'
  unfold cfLo
  generalize Lib.compareInt x.f0 y.f0 = r at hcon ⊢
  go_enter Tryd.func55, Tryd.ntmps55
  go_wp2_with (go_at_call 56; refine (hcon _).mono ?_; rintro e w' ⟨rfl, rfl⟩)
  go_ret
  exact ⟨rfl, 0, _, by rw [Go.Sort.alloc_eq_grow, Go.Sort.alloc_eq_grow, Go.Sort.grow_grow]; rfl⟩
theorem heap_sorted {w : World} {g n : Nat} {os : Array Obj} {cur : Array Value} {e : TypeId} {fr : Nat × Nat} (d : Array Rg) (hb : w.heap[g]? = some (.cells cur e fr)) :
    (sortWorldK encR 2 w g 0 n d os).heap[g]? = some (.cells (Go.Sort.putCells id 0 (Go.Sort.flatK encR 2 d) cur) e fr) := by
  have hg : g < w.heap.size := (Array.getElem?_eq_some_iff.1 hb).1
  unfold sortWorldK Go.Sort.putRowK
  rw [Go.Sort.heap_grow_old _ _ (by simpa using hg)]
  simp [Go.Sort.putRow, Go.Sort.mapBlock, Go.Sort.ahead, Array.getElem?_modify, hb, Go.Sort.onCells]
theorem grownBy_sorted {w : World} {g n : Nat} {os : Array Obj} (d : Array Rg) : w.grownBy (sortWorldK encR 2 w g 0 n d os) (some g) := by
  unfold sortWorldK Go.Sort.putRowK
  refine ⟨rfl, rfl, rfl, by simp, fun k hk hne => ?_⟩
  rw [Go.Sort.heap_grow_old _ _ (by simpa using hk)]
  have : g ≠ k := fun e => hne (by rw [e])
  simp [Go.Sort.putRow, Go.Sort.mapBlock, Go.Sort.ahead, Array.getElem?_modify, this]
theorem take_put (cur : Array Value) (F : Array Value) (h : F.size ≤ cur.size) : (Go.Sort.putCells id 0 F cur).toList.take F.size = F.toList := by
  apply List.ext_getElem?
  intro j
  by_cases hj : j < F.size
  · rw [List.getElem?_take_of_lt hj, Array.getElem?_toList]
    simp [Go.Sort.putCells, hj, show j < cur.size by omega]
  · rw [List.getElem?_take_eq_none (by omega), List.getElem?_eq_none (by simp; omega)]
theorem encR_len (x : Rg) : (encR x).length = 2 := rfl
theorem encR_one (x : Rg) (v : Value) (hv : v ∈ encR x) : v.oneCell' = true := by
  simp only [encR, List.mem_cons, List.not_mem_nil, or_false] at hv
  rcases hv with rfl | rfl <;> rfl
theorem flat_get (d : Array Rg) (j : Nat) (hj : j < d.size) : ((Go.Sort.flatK encR 2 d).toList.drop (j * 2)).take 2 = encR d[j] := by
  apply List.ext_getElem?
  intro c
  by_cases hc : c < 2
  · have h1 : j * 2 + c < d.size * 2 := by omega
    rw [List.getElem?_take_of_lt hc, List.getElem?_drop, Array.getElem?_toList, Array.getElem?_eq_getElem (by simpa using h1)]
    have h2 := Go.Sort.get_flatK encR 2 d (j * 2 + c) h1
    rw [show (j * 2 + c) / 2 = j by omega, show (j * 2 + c) % 2 = c by omega, getElem!_pos _ _ (by simpa using h1), getElem!_pos d j hj, getElem!_pos (encR d[j]) c (by rw [encR_len]; exact hc)] at h2
    rw [h2, List.getElem?_eq_getElem (by rw [encR_len]; exact hc)]
  · rw [List.getElem?_take_eq_none (by omega), List.getElem?_eq_none (by rw [encR_len]; omega)]
theorem reps_flat (w : World) (base : Nat) (ok : Nat → Prop) (d : Array Rg) : Reps (k41.M w base ok) 2 d.toList (Go.Sort.flatK encR 2 d).toList := by
  refine ⟨by simp, fun j p hj => ?_⟩
  obtain ⟨hjl, hp⟩ := List.getElem?_eq_some_iff.1 hj
  rw [flat_get d j (by simpa using hjl), show d[j]'(by simpa using hjl) = p by simpa using hp]
  exact k41_mkM _ _ _ p
theorem cells_of_reps {w : World} {base : Nat} {ok : Nat → Prop} {l : List Rg} {inner : List Value} (h : Reps (k41.M w base ok) 2 l inner) : (Go.Sort.flatK encR 2 l.toArray).toList = inner := by
  apply List.ext_getElem?
  intro t
  by_cases ht : t < l.length * 2
  · have hj : t / 2 < l.length := by omega
    have h1 := k41_openM (h.2 (t / 2) l[t / 2] (List.getElem?_eq_getElem hj))
    have h2 : inner[t]? = (encR l[t / 2])[t % 2]? := by
      have h3 := congrArg (fun q => q[t % 2]?) h1
      rw [List.getElem?_take_of_lt (by omega), List.getElem?_drop, show t / 2 * 2 + t % 2 = t by omega] at h3
      exact h3
    rw [h2, Array.getElem?_toList, Array.getElem?_eq_getElem (by simpa using ht)]
    have h4 := Go.Sort.get_flatK encR 2 l.toArray t (by simpa using ht)
    rw [getElem!_pos _ _ (by simpa using ht), getElem!_pos l.toArray (t / 2) (by simpa using hj), getElem!_pos (encR _) (t % 2) (by rw [encR_len]; omega)] at h4
    rw [h4, List.getElem?_eq_getElem (by rw [encR_len]; omega)]
    simp
  · rw [List.getElem?_eq_none (by simp; omega), List.getElem?_eq_none (by rw [h.1]; omega)]
end SortLo
def slices_SortFunc_lo.f (l0 : List S41) : Option (List S41) := if l0.length < 4611686018427387904 then some (SortLo.sortLo l0) else none
set_option maxHeartbeats 2000000 in
set_option maxRecDepth 100000 in
theorem slices_SortFunc_lo.calls (P0_ : Nat → Prop) (u9000_ : Value) (l0 : List S41) (r : List S41) (w0 w : World) (hB : Below w0.heap.size w0 w) (ho0 : Kd.R k41 41 w w0.heap.size P0_ u9000_ l0) (h : slices_SortFunc_lo.f l0 = some r) :
    Calls Tryd.prog 54 #[u9000_, .func (.func 55) #[] #[]] w fun e w' => e = .returned (.tuple #[]) ∧ Kd.R k41 41 w' w0.heap.size (fun k_ => (P0_ k_ ∨ w.heap.size ≤ k_)) u9000_ r ∧ Below w0.heap.size w0 w' ∧ Kept w w' (fun k_ => P0_ k_) := by
  unfold slices_SortFunc_lo.f at h
  split at h
  case isFalse => cases h
  case isTrue hsz =>
  injection h with h
  subst h
  have hperm := SortLo.sortLo_ok l0
  obtain ⟨h0, inner, ho, hr⟩ := ho0
  rcases XLib.own_cases ho with ⟨hv, hn⟩ | ⟨g, cap, hv, hgb, hglt, hnc, hcm, cur, hh, hcs, ht⟩
  · obtain rfl : l0 = [] := List.length_eq_zero_iff.1 hn
    subst hv
    have hr0 : SortLo.sortLo [] = [] := List.length_eq_zero_iff.1 (by rw [hperm.1.length_eq]; rfl)
    rw [hr0]
    refine (AnyF.slices_SortFunc_none { Tryd.sortf54 with } none 0 _ w).mono ?_
    rintro e w' ⟨rfl, rfl⟩
    exact ⟨rfl, Kd.R_nil _ _ _ _ _, hB, Kept.refl _ _⟩
  · subst hv
    rw [show k41.sz = 2 from rfl] at ht hcs hr ho
    have hF := SortLo.cells_of_reps hr
    have hl2 : (Go.Sort.flatK SortLo.encR 2 l0.toArray).size = l0.length * 2 := by simp
    have hH : Go.Sort.HoldsK SortLo.encR 2 w g 0 l0.toArray := by
      intro t ht2
      rw [hl2] at ht2
      have h1 : (cur.toList.take (l0.length * 2))[t]? = inner[t]? := by rw [ht]
      rw [List.getElem?_take_of_lt ht2, ← hF, Array.getElem?_toList, Array.getElem?_toList] at h1
      refine ⟨?_, by simp [World.frozen?, hh]⟩
      rw [Nat.zero_add, cell_of_row w g t cur _ (0, 0) hh, h1, Array.getElem?_eq_getElem (by rw [hl2]; exact ht2), getElem!_pos _ _ (by rw [hl2]; exact ht2)]
      rfl
    have eg : ∀ args w, (callFunc 55 args).run Tryd.prog w = .ok (.enter 55 args) w := enters_of Tryd.func55 (by kernel_rfl) rfl
    have hcon := AnyQ.slices_SortFunc_eq Tryd.sortf54 2 Tryd.isAgg41 Tryd.sizeOf41 SortLo.encR SortLo.encR_len SortLo.encR_one SortLo.cfLo SortLo.swoLo 55 #[] g 0 cap l0.toArray w eg (fun _ _ _ _ x y => SortLo.closure x y _) hH hglt (by simpa using hsz)
    have hcon2 : Calls Tryd.prog 54 #[.slice (some ⟨g, 0, none⟩) l0.length cap, .func (.func 55) #[] #[]] w _ := hcon
    refine hcon2.mono ?_
    rintro e w' ⟨rfl, n, os, rfl⟩
    have hdl : (SortLo.sortLo l0).length = l0.length := hperm.1.length_eq
    have hg := SortLo.grownBy_sorted (w := w) (g := g) (n := n) (os := os) (SortLo.sortLo l0).toArray
    have hfs : (Go.Sort.flatK SortLo.encR 2 (SortLo.sortLo l0).toArray).size = l0.length * 2 := by simp [hdl]
    have hst : (SortLo.sortLo l0).toArray = Go.Sort.pdq (ltOf SortLo.cfLo) l0.toArray 0 l0.toArray.size (Lib.bitLen l0.toArray.size) true true := by unfold SortLo.sortLo; simp
    rw [← hst]
    refine ⟨rfl, ⟨fun k hk => .inl (h0 k hk), (Go.Sort.flatK SortLo.encR 2 (SortLo.sortLo l0).toArray).toList, ?_, ?_⟩, ?_, ?_⟩
    · rw [show k41.sz = 2 from rfl]
      refine ⟨by simp [hdl], .inr ⟨g, cap, _, by rw [hdl], hgb, SortLo.heap_sorted _ hh, by rw [hdl]; exact hnc, hcm, by simp [Go.Sort.putCells, hcs], ?_⟩⟩
      rw [hdl, ← hfs]
      exact SortLo.take_put _ _ (by rw [hfs, hcs]; exact Nat.mul_le_mul_right _ hnc)
    · have := SortLo.reps_flat (sortWorldK SortLo.encR 2 w g 0 n (SortLo.sortLo l0).toArray os) w0.heap.size (fun k => (P0_ k ∨ w.heap.size ≤ k) ∧ some k ≠ (Value.slice (some ⟨g, 0, none⟩) l0.length cap).ownBlock) (SortLo.sortLo l0).toArray
      rw [show k41.sz = 2 from rfl]
      simpa using this
    · exact ⟨hg.os.trans hB.os, hg.tape.trans hB.tape, hg.output.trans hB.output, Nat.le_trans hB.size hg.size, fun k hk => (hg.block k (Nat.lt_of_lt_of_le hk hB.size) (fun e => by injection e with e; omega)).trans (hB.block k hk)⟩
    · exact ⟨hg.size, fun k hk hn => hg.block k hk (fun e => by injection e with e; subst e; exact hn (h0 _ rfl))⟩

end Go.Proofs.YtcpjflgiimjfmaaDoor.XC
