/- WRITTEN BY A PROGRAM OF THIS SESSION (wip/tools/xprint.py, over the kit's printer): contracts of the functions that the seat's laws reach. -/
import Derived.Test.YtcpjflgiimjfmaaDoorXC0
import Derived.Test.YtcpjflgiimjfmaaDoorXC1
import Derived.Test.YtcpjflgiimjfmaaDoorXC2
import Derived.Test.YtcpjflgiimjfmaaDoorXC4
import Derived.Test.YtcpjflgiimjfmaaDoorXC6
import Derived.Test.YtcpjflgiimjfmaaDoorXC7
namespace Go.Proofs.YtcpjflgiimjfmaaDoor.XC
open Go.RowKit Go.Proofs.YtcpjflgiimjfmaaDoorW.PrintWords Go.Proofs.YtcpjflgiimjfmaaDoorW.PrintLast Go.Proofs.YtcpjflgiimjfmaaDoorW.PrintMore
attribute [local go_sem] max2_int min2_int max_two min_two max_three min_three max_four min_four   -- for this text's walks alone
set_option linter.unusedVariables false
set_option linter.unusedSimpArgs false

attribute [local go_sem high] eqA41
/-! ### sets_Make: function 25 -/
namespace XB
def bLo (x : Int) : Int := if x = 0 then 0 else if x = 1 then 57344 else 1114240
def bHi (x : Int) : Int := if x = 0 then 55295 else if x = 1 then 1114111 else 1114367
def bandsV : Value := .agg #[.int .i32 0, .int .i32 55295, .int .i32 57344, .int .i32 1114111, .int .i32 1114240, .int .i32 1114367]
theorem index_bands (x : Int) (h0 : 0 ≤ x) (h1 : x < 3) : ∀ W : World, (Instr.index 56 bandsV (.int .i64 x)).run Tryd.prog W = .ok (.agg #[.int .i32 (bLo x), .int .i32 (bHi x)]) W := by
  intro W
  obtain rfl | rfl | rfl : x = 0 ∨ x = 1 ∨ x = 2 := by omega
  all_goals kernel_rfl
theorem run_index {a : Act} {o : Oper} {W : World} {v : Value} {t : TypeId} {x y : Operand} {i : Value} (ho : o.op = .index t x y) (hx : a.eval x = bandsV) (hy : a.eval y = i) (h : (Instr.index t bandsV i).run Tryd.prog W = .ok v W) : (execOp a.eval o).run Tryd.prog W = .ok (.value v) W := by
  simp only [execOp, ho, hx, hy, Sem.run_bind, Sem.run_pure, Result.andThen_ok, h]
theorem load_bands {a : Act} {o : Oper} (ho : o.op = .load 56 (.global 0)) (W : World) (hG : GOK W) : (execOp a.eval o).run Tryd.prog W = .ok (.value bandsV) W := by
  have g0 := hG.sets_bands 0 _ rfl
  have g1 := hG.sets_bands 1 _ rfl
  have g2 := hG.sets_bands 2 _ rfl
  have g3 := hG.sets_bands 3 _ rfl
  have g4 := hG.sets_bands 4 _ rfl
  have g5 := hG.sets_bands 5 _ rfl
  simp only [execOp, ho]
  go_simp
  first | done | rfl
end XB
mutual
def sets_Make.l0 : Nat → List (S41) → List (S41) → Int → Int → Option ((List (S41)) × Int)
  | 0, _, _, _, _ => none
  | k + 1, x4, x11, x12, x13 => if x13 < x12 then (if 0 ≤ x13 then (if x13 < (x11.length : Int) then (if ((rd_T41 x11 x13).f0) > ((rd_T41 x11 x13).f1) then (some (([] : List (S41)), 2)) else (sets_Make.l1 k x4 x11 x12 x13 0 ((rd_T41 x11 x13).f0) ((rd_T41 x11 x13).f1))) else (none)) else (none)) else ((sets_gather.f k x4).bind fun t363 => (some (t363, 0)))
def sets_Make.l1 : Nat → List (S41) → List (S41) → Int → Int → Int → Int → Int → Option ((List (S41)) × Int)
  | 0, _, _, _, _, _, _, _ => none
  | k + 1, x4, x11, x12, x13, x23, x368000, x368001 => if x23 < 3 then (if 0 ≤ x23 then (if (mx x368000 (XB.bLo x23)) ≤ (mn x368001 (XB.bHi x23)) then (if x4.length < 17592186044416 then (sets_Make.l1 k (x4 ++ [(⟨mx x368000 (XB.bLo x23), mn x368001 (XB.bHi x23)⟩ : S41)]) x11 x12 x13 (wrap64 (x23 + 1)) x368000 x368001) else (none)) else (sets_Make.l1 k x4 x11 x12 x13 (wrap64 (x23 + 1)) x368000 x368001)) else (none)) else (sets_Make.l0 k x4 x11 x12 (wrap64 (x13 + 1)))
end
def sets_Make.f (k : Nat) (l0 : List (S41)) : Option ((List (S41)) × Int) := sets_Make.l0 k ([] : List (S41)) l0 (l0.length : Int) 0
theorem sets_Make.mono_l : ∀ k, (∀ y0 y1 y2 y3, LeO (sets_Make.l0 k y0 y1 y2 y3) (sets_Make.l0 (k + 1) y0 y1 y2 y3)) ∧ (∀ y0 y1 y2 y3 y4 y5 y6, LeO (sets_Make.l1 k y0 y1 y2 y3 y4 y5 y6) (sets_Make.l1 (k + 1) y0 y1 y2 y3 y4 y5 y6))
  | 0 => ⟨fun _ _ _ _ r h => by simp [sets_Make.l0] at h, fun _ _ _ _ _ _ _ r h => by simp [sets_Make.l1] at h⟩
  | k + 1 => by
    obtain ⟨ih0, ih1⟩ := sets_Make.mono_l k
    refine ⟨?_, ?_⟩
    · intro y0 y1 y2 y3
      unfold sets_Make.l0
      repeat' first
      | (with_reducible exact ih0 _ _ _ _)
      | (with_reducible exact ih1 _ _ _ _ _ _ _)
      | (with_reducible exact sets_gather.mono _ _)
      | (with_reducible exact LeO.refl _)
      | (with_reducible exact LeO.none _)
      | (with_reducible refine LeO.ite ?_ ?_)
      | (with_reducible refine LeO.bind ?_ (fun _ => ?_))
      | exact ih0 _ _ _ _
      | exact ih1 _ _ _ _ _ _ _
      | exact sets_gather.mono _ _
      | exact LeO.none _
      | refine LeO.ite ?_ ?_
      | refine LeO.bind ?_ (fun _ => ?_)
    · intro y0 y1 y2 y3 y4 y5 y6
      unfold sets_Make.l1
      repeat' first
      | (with_reducible exact ih0 _ _ _ _)
      | (with_reducible exact ih1 _ _ _ _ _ _ _)
      | (with_reducible exact sets_gather.mono _ _)
      | (with_reducible exact LeO.refl _)
      | (with_reducible exact LeO.none _)
      | (with_reducible refine LeO.ite ?_ ?_)
      | (with_reducible refine LeO.bind ?_ (fun _ => ?_))
      | exact ih0 _ _ _ _
      | exact ih1 _ _ _ _ _ _ _
      | exact sets_gather.mono _ _
      | exact LeO.none _
      | refine LeO.ite ?_ ?_
      | refine LeO.bind ?_ (fun _ => ?_)
theorem sets_Make.mono : ∀ a0 k, LeO (sets_Make.f k a0) (sets_Make.f (k + 1) a0) := by
  intro a0 k
  obtain ⟨ih0, ih1⟩ := sets_Make.mono_l k
  unfold sets_Make.f
  repeat' first
      | (with_reducible exact ih0 _ _ _ _)
      | (with_reducible exact ih1 _ _ _ _ _ _ _)
      | (with_reducible exact sets_gather.mono _ _)
      | (with_reducible exact LeO.refl _)
      | (with_reducible exact LeO.none _)
      | (with_reducible refine LeO.ite ?_ ?_)
      | (with_reducible refine LeO.bind ?_ (fun _ => ?_))
      | exact ih0 _ _ _ _
      | exact ih1 _ _ _ _ _ _ _
      | exact sets_gather.mono _ _
      | exact LeO.none _
      | refine LeO.ite ?_ ?_
      | refine LeO.bind ?_ (fun _ => ?_)
set_option maxHeartbeats 8000000 in
set_option maxRecDepth 100000 in
theorem sets_Make.calls (k : Nat) (A0 : Option Addr) (c0 : Nat) (l0 : List (S41)) (r1 : List (S41)) (r2 : Int) (w : World) (hr0 : Kd.C k41 w A0 l0.length l0) (hc0 : l0.length ≤ c0) (h : sets_Make.f k l0 = some (r1, r2)) (hG : GOK w := by first | (with_reducible exact HG_.out) | exact GOK.below HG_.out (by repeat (first | (with_reducible exact Below.refl _ _) | (with_reducible first | exact HB.out | apply below_alloc | apply pw_below_drewN | apply below_drew1 | refine below_set ?_ (Aside0.out (by assumption))) | exact HB.out)) | exact GOK.drewN HG_.out _ | exact GOK.drewN (GOK.drewN HG_.out _) _ | exact GOK.drew HG_.out) :
    Calls Tryd.prog 25 #[.slice A0 l0.length c0] w fun e w' => ∃ v0_ : Value, e = .returned (.tuple #[v0_, .int .i64 r2]) ∧ Kd.R k41 41 w' w.heap.size (fun _ => True) v0_ r1 ∧ Below w.heap.size w w' := by
  have HG_ := Aside0.mk hG
  clear hG
  have hu104 := Tryd.underlying41
  have HR0 := Aside0.mk hr0
  have HC0 := Aside0.mk hc0
  clear hr0 hc0
  have HB := Aside0.mk (Below.refl w.heap.size w)
  have H : (sets_Make.l0 k ([] : List (S41)) l0 (l0.length : Int) 0) = some (r1, r2) := h
  clear h
  have H' := Aside0.mk H
  clear H
  go_enter Tryd.func25, Tryd.ntmps25
  go_wp2
  repeat (go_quiet (fail); try go_wp2)
  go_loopg [4, 13] k (fun kq v4 v13 w' => ∃ (x4_1 : List (S41)) (x13_1 : Int), v13 = .int .i64 x13_1 ∧ Aside0 (sets_Make.l0 kq x4_1 l0 (l0.length : Int) x13_1 = some (r1, r2)) ∧ Aside0 (kq ≤ k) ∧ Aside0 (Kd.R k41 41 w' w.heap.size (fun _ => True) v4 x4_1) ∧ Aside0 (Below w.heap.size w w'))
  case atStart => exact ⟨(([] : List (S41))), (0), (by first | rfl | (simp; done) | (simp [*]; done)), H', ⟨Nat.le_refl _⟩, ⟨by first | exact Kd.R_nil _ _ _ _ _ | exact Kd.N_nil _ _ _ _ _ | exact Kd.V_nil _ _ _ _ _ | exact Kd.Q_nil _ _ _ _ _ | exact Kd.S_nil _ _ _ _ _⟩, ⟨by repeat (first | (with_reducible first | exact HB.out | apply below_alloc | apply pw_below_drewN | apply below_drew1) | exact HB.out)⟩⟩
  case round =>
    clear H'
    try clear c1
    obtain ⟨x4_1, x13_1, rfl, HA, HK1, HO_4, HB⟩ := hrel
    cases gk with
    | zero => exact absurd HA.out (by simp [sets_Make.l0])
    | succ k1 =>
      have H := HA.out
      clear HA
      simp only [sets_Make.l0] at H
      by_cases c2 : x13_1 < (l0.length : Int)
      · rw [if_pos c2] at H
        have c2b0 : decide (x13_1 < (l0.length : Int)) = true := decide_eq_true c2
        clear c2
        by_cases c3 : 0 ≤ x13_1
        · rw [if_pos c3] at H
          have c3b0 : decide (0 ≤ x13_1) = true := decide_eq_true c3
          clear c3
          by_cases c4 : x13_1 < (l0.length : Int)
          · rw [if_pos c4] at H
            have c4b0 : decide (x13_1 < (l0.length : Int)) = true := decide_eq_true c4
            clear c4
            by_cases c5 : ((rd_T41 l0 x13_1).f0) > ((rd_T41 l0 x13_1).f1)
            · rw [if_pos c5] at H
              have c5b0 : decide (((rd_T41 l0 x13_1).f1) < ((rd_T41 l0 x13_1).f0)) = true := decide_eq_true c5
              clear c5
              simp only [Option.some.injEq, Prod.mk.injEq] at H
              obtain ⟨rfl, rfl⟩ := H
              have p366 : 0 ≤ (x13_1 : Int) := of_decide_eq_true (by first | (with_reducible assumption) | assumption)
              have q366 : x13_1 < (l0.length : Int) := of_decide_eq_true (by first | (with_reducible assumption) | assumption)
              obtain ⟨ad366, e366, hx366_0, hx366_1⟩ := at_T41 HR0.out x13_1 p366 q366
              cases e366
              replace hx366_0 := (HB.out.cell (World.block_lt_of_cell? w _ hx366_0)).trans hx366_0
              replace hx366_1 := (HB.out.cell (World.block_lt_of_cell? w _ hx366_1)).trans hx366_1
              replace p366 := eq_true p366
              replace q366 := eq_true q366
              go_wp2_with (first | ((with_reducible refine gate_dst (N := 22) rfl ?_); refine Kd.event_run (v := XB.bandsV) rfl (XB.load_bands rfl _ (GOK.below HG_.out (by repeat (first | (with_reducible first | exact HB.out | apply below_alloc | apply pw_below_drewN | apply below_drew1 | refine below_set ?_ GE367.out) | exact HB.out)))) ?_) | ((with_reducible refine gate_dst (N := 6) rfl ?_); refine box_event ?hg (N := 6) ?hd (cs := #[.int .i32 0, .int .i32 0]) (t := 41) ?hr ?_; (case hd => rfl); (case hg => rfl); (case hr => first | (go_simp; done) | (go_simp; rfl)); intro gb367 hg w6 hbox hb; have n0_ := Aside0.mk (Kd.R_below (Kd.R_elderB (by (with_reducible repeat (first | apply Kd.R_alloc | apply Kd.R_drewN | apply Kd.R_drew)); exact HO_4.out) gb367 (Nat.le_of_eq hg.symm)) hb); have n1_ := Aside0.mk (below_step (by repeat (first | (with_reducible first | exact HB.out | apply below_alloc | apply pw_below_drewN | apply below_drew1) | exact HB.out)) hb); have n2_ := Aside0.mk (hbox); have n3_ := Aside0.mk ((by rw [hg]; exact (below_size (by repeat (first | (with_reducible first | exact HB.out | apply below_alloc | apply pw_below_drewN | apply below_drew1) | exact HB.out))) : w.heap.size ≤ gb367)); have n4_ := Aside0.mk ((by rw [hg]; exact (below_size (by repeat (first | (with_reducible first | exact HB.out | apply below_alloc | apply pw_below_drewN | apply below_drew1) | exact HB.out))) : w.heap.size ≤ gb367)); clear HO_4; clear HB; have HO_4 := n0_; have HB := n1_; have BK367 := n2_; have GW367 := n3_; have GE367 := n4_; clear n0_ n1_ n2_ n3_ n4_; clear hb hbox hg; have hcz7_0 : w6.cell? ⟨gb367, 0, none⟩ = some (.int .i32 0) := (blk_cell BK367.out 0).trans rfl; have hcz7_1 : w6.cell? ⟨gb367, 1, none⟩ = some (.int .i32 0) := (blk_cell BK367.out 1).trans rfl; have hfz7_0 := blk_frozen BK367.out 0; have hfz7_1 := blk_frozen BK367.out 1))
              repeat (go_quiet (first | ((with_reducible refine gate_dst (N := 22) rfl ?_); refine Kd.event_run (v := XB.bandsV) rfl (XB.load_bands rfl _ (GOK.below HG_.out (by repeat (first | (with_reducible first | exact HB.out | apply below_alloc | apply pw_below_drewN | apply below_drew1 | refine below_set ?_ GE367.out) | exact HB.out)))) ?_) | ((with_reducible refine gate_dst (N := 6) rfl ?_); refine box_event ?hg (N := 6) ?hd (cs := #[.int .i32 0, .int .i32 0]) (t := 41) ?hr ?_; (case hd => rfl); (case hg => rfl); (case hr => first | (go_simp; done) | (go_simp; rfl)); intro gb367 hg w6 hbox hb; have n0_ := Aside0.mk (Kd.R_below (Kd.R_elderB (by (with_reducible repeat (first | apply Kd.R_alloc | apply Kd.R_drewN | apply Kd.R_drew)); exact HO_4.out) gb367 (Nat.le_of_eq hg.symm)) hb); have n1_ := Aside0.mk (below_step (by repeat (first | (with_reducible first | exact HB.out | apply below_alloc | apply pw_below_drewN | apply below_drew1) | exact HB.out)) hb); have n2_ := Aside0.mk (hbox); have n3_ := Aside0.mk ((by rw [hg]; exact (below_size (by repeat (first | (with_reducible first | exact HB.out | apply below_alloc | apply pw_below_drewN | apply below_drew1) | exact HB.out))) : w.heap.size ≤ gb367)); have n4_ := Aside0.mk ((by rw [hg]; exact (below_size (by repeat (first | (with_reducible first | exact HB.out | apply below_alloc | apply pw_below_drewN | apply below_drew1) | exact HB.out))) : w.heap.size ≤ gb367)); clear HO_4; clear HB; have HO_4 := n0_; have HB := n1_; have BK367 := n2_; have GW367 := n3_; have GE367 := n4_; clear n0_ n1_ n2_ n3_ n4_; clear hb hbox hg; have hcz7_0 : w6.cell? ⟨gb367, 0, none⟩ = some (.int .i32 0) := (blk_cell BK367.out 0).trans rfl; have hcz7_1 : w6.cell? ⟨gb367, 1, none⟩ = some (.int .i32 0) := (blk_cell BK367.out 1).trans rfl; have hfz7_0 := blk_frozen BK367.out 0; have hfz7_1 := blk_frozen BK367.out 1)); try go_wp2_with (first | ((with_reducible refine gate_dst (N := 22) rfl ?_); refine Kd.event_run (v := XB.bandsV) rfl (XB.load_bands rfl _ (GOK.below HG_.out (by repeat (first | (with_reducible first | exact HB.out | apply below_alloc | apply pw_below_drewN | apply below_drew1 | refine below_set ?_ GE367.out) | exact HB.out)))) ?_) | ((with_reducible refine gate_dst (N := 6) rfl ?_); refine box_event ?hg (N := 6) ?hd (cs := #[.int .i32 0, .int .i32 0]) (t := 41) ?hr ?_; (case hd => rfl); (case hg => rfl); (case hr => first | (go_simp; done) | (go_simp; rfl)); intro gb367 hg w6 hbox hb; have n0_ := Aside0.mk (Kd.R_below (Kd.R_elderB (by (with_reducible repeat (first | apply Kd.R_alloc | apply Kd.R_drewN | apply Kd.R_drew)); exact HO_4.out) gb367 (Nat.le_of_eq hg.symm)) hb); have n1_ := Aside0.mk (below_step (by repeat (first | (with_reducible first | exact HB.out | apply below_alloc | apply pw_below_drewN | apply below_drew1) | exact HB.out)) hb); have n2_ := Aside0.mk (hbox); have n3_ := Aside0.mk ((by rw [hg]; exact (below_size (by repeat (first | (with_reducible first | exact HB.out | apply below_alloc | apply pw_below_drewN | apply below_drew1) | exact HB.out))) : w.heap.size ≤ gb367)); have n4_ := Aside0.mk ((by rw [hg]; exact (below_size (by repeat (first | (with_reducible first | exact HB.out | apply below_alloc | apply pw_below_drewN | apply below_drew1) | exact HB.out))) : w.heap.size ≤ gb367)); clear HO_4; clear HB; have HO_4 := n0_; have HB := n1_; have BK367 := n2_; have GW367 := n3_; have GE367 := n4_; clear n0_ n1_ n2_ n3_ n4_; clear hb hbox hg; have hcz7_0 : w6.cell? ⟨gb367, 0, none⟩ = some (.int .i32 0) := (blk_cell BK367.out 0).trans rfl; have hcz7_1 : w6.cell? ⟨gb367, 1, none⟩ = some (.int .i32 0) := (blk_cell BK367.out 1).trans rfl; have hfz7_0 := blk_frozen BK367.out 0; have hfz7_1 := blk_frozen BK367.out 1)))
              go_ret2
              exact ⟨_, by first | rfl | (simp [errW_none, errW_some] <;> rfl) | (simp [*, errW_none, errW_some] <;> rfl), by first | exact Kd.R_nil _ _ _ _ _ | exact Kd.N_nil _ _ _ _ _ | exact Kd.V_nil _ _ _ _ _ | exact Kd.Q_nil _ _ _ _ _ | exact Kd.S_nil _ _ _ _ _, by repeat (first | (with_reducible first | exact HB.out | apply below_alloc | apply pw_below_drewN | apply below_drew1 | refine below_set ?_ GE367.out) | exact HB.out)⟩
            · rw [if_neg c5] at H
              have c5b0 : decide (((rd_T41 l0 x13_1).f1) < ((rd_T41 l0 x13_1).f0)) = false := decide_eq_false c5
              clear c5
              have H' := Aside0.mk H
              clear H
              have p366 : 0 ≤ (x13_1 : Int) := of_decide_eq_true (by first | (with_reducible assumption) | assumption)
              have q366 : x13_1 < (l0.length : Int) := of_decide_eq_true (by first | (with_reducible assumption) | assumption)
              obtain ⟨ad366, e366, hx366_0, hx366_1⟩ := at_T41 HR0.out x13_1 p366 q366
              cases e366
              replace hx366_0 := (HB.out.cell (World.block_lt_of_cell? w _ hx366_0)).trans hx366_0
              replace hx366_1 := (HB.out.cell (World.block_lt_of_cell? w _ hx366_1)).trans hx366_1
              replace p366 := eq_true p366
              replace q366 := eq_true q366
              go_wp2_with (first | ((with_reducible refine gate_dst (N := 22) rfl ?_); refine Kd.event_run (v := XB.bandsV) rfl (XB.load_bands rfl _ (GOK.below HG_.out (by repeat (first | (with_reducible first | exact HB.out | apply below_alloc | apply pw_below_drewN | apply below_drew1 | refine below_set ?_ GE367.out) | exact HB.out)))) ?_) | ((with_reducible refine gate_dst (N := 6) rfl ?_); refine box_event ?hg (N := 6) ?hd (cs := #[.int .i32 0, .int .i32 0]) (t := 41) ?hr ?_; (case hd => rfl); (case hg => rfl); (case hr => first | (go_simp; done) | (go_simp; rfl)); intro gb367 hg w8 hbox hb; have n0_ := Aside0.mk (Kd.R_below (Kd.R_elderB (by (with_reducible repeat (first | apply Kd.R_alloc | apply Kd.R_drewN | apply Kd.R_drew)); exact HO_4.out) gb367 (Nat.le_of_eq hg.symm)) hb); have n1_ := Aside0.mk (below_step (by repeat (first | (with_reducible first | exact HB.out | apply below_alloc | apply pw_below_drewN | apply below_drew1) | exact HB.out)) hb); have n2_ := Aside0.mk (hbox); have n3_ := Aside0.mk ((by rw [hg]; exact (below_size (by repeat (first | (with_reducible first | exact HB.out | apply below_alloc | apply pw_below_drewN | apply below_drew1) | exact HB.out))) : w.heap.size ≤ gb367)); have n4_ := Aside0.mk ((by rw [hg]; exact (below_size (by repeat (first | (with_reducible first | exact HB.out | apply below_alloc | apply pw_below_drewN | apply below_drew1) | exact HB.out))) : w.heap.size ≤ gb367)); clear HO_4; clear HB; have HO_4 := n0_; have HB := n1_; have BK367 := n2_; have GW367 := n3_; have GE367 := n4_; clear n0_ n1_ n2_ n3_ n4_; clear hb hbox hg; have hcz9_0 : w8.cell? ⟨gb367, 0, none⟩ = some (.int .i32 0) := (blk_cell BK367.out 0).trans rfl; have hcz9_1 : w8.cell? ⟨gb367, 1, none⟩ = some (.int .i32 0) := (blk_cell BK367.out 1).trans rfl; have hfz9_0 := blk_frozen BK367.out 0; have hfz9_1 := blk_frozen BK367.out 1))
              repeat (go_quiet (first | ((with_reducible refine gate_dst (N := 22) rfl ?_); refine Kd.event_run (v := XB.bandsV) rfl (XB.load_bands rfl _ (GOK.below HG_.out (by repeat (first | (with_reducible first | exact HB.out | apply below_alloc | apply pw_below_drewN | apply below_drew1 | refine below_set ?_ GE367.out) | exact HB.out)))) ?_) | ((with_reducible refine gate_dst (N := 6) rfl ?_); refine box_event ?hg (N := 6) ?hd (cs := #[.int .i32 0, .int .i32 0]) (t := 41) ?hr ?_; (case hd => rfl); (case hg => rfl); (case hr => first | (go_simp; done) | (go_simp; rfl)); intro gb367 hg w8 hbox hb; have n0_ := Aside0.mk (Kd.R_below (Kd.R_elderB (by (with_reducible repeat (first | apply Kd.R_alloc | apply Kd.R_drewN | apply Kd.R_drew)); exact HO_4.out) gb367 (Nat.le_of_eq hg.symm)) hb); have n1_ := Aside0.mk (below_step (by repeat (first | (with_reducible first | exact HB.out | apply below_alloc | apply pw_below_drewN | apply below_drew1) | exact HB.out)) hb); have n2_ := Aside0.mk (hbox); have n3_ := Aside0.mk ((by rw [hg]; exact (below_size (by repeat (first | (with_reducible first | exact HB.out | apply below_alloc | apply pw_below_drewN | apply below_drew1) | exact HB.out))) : w.heap.size ≤ gb367)); have n4_ := Aside0.mk ((by rw [hg]; exact (below_size (by repeat (first | (with_reducible first | exact HB.out | apply below_alloc | apply pw_below_drewN | apply below_drew1) | exact HB.out))) : w.heap.size ≤ gb367)); clear HO_4; clear HB; have HO_4 := n0_; have HB := n1_; have BK367 := n2_; have GW367 := n3_; have GE367 := n4_; clear n0_ n1_ n2_ n3_ n4_; clear hb hbox hg; have hcz9_0 : w8.cell? ⟨gb367, 0, none⟩ = some (.int .i32 0) := (blk_cell BK367.out 0).trans rfl; have hcz9_1 : w8.cell? ⟨gb367, 1, none⟩ = some (.int .i32 0) := (blk_cell BK367.out 1).trans rfl; have hfz9_0 := blk_frozen BK367.out 0; have hfz9_1 := blk_frozen BK367.out 1)); try go_wp2_with (first | ((with_reducible refine gate_dst (N := 22) rfl ?_); refine Kd.event_run (v := XB.bandsV) rfl (XB.load_bands rfl _ (GOK.below HG_.out (by repeat (first | (with_reducible first | exact HB.out | apply below_alloc | apply pw_below_drewN | apply below_drew1 | refine below_set ?_ GE367.out) | exact HB.out)))) ?_) | ((with_reducible refine gate_dst (N := 6) rfl ?_); refine box_event ?hg (N := 6) ?hd (cs := #[.int .i32 0, .int .i32 0]) (t := 41) ?hr ?_; (case hd => rfl); (case hg => rfl); (case hr => first | (go_simp; done) | (go_simp; rfl)); intro gb367 hg w8 hbox hb; have n0_ := Aside0.mk (Kd.R_below (Kd.R_elderB (by (with_reducible repeat (first | apply Kd.R_alloc | apply Kd.R_drewN | apply Kd.R_drew)); exact HO_4.out) gb367 (Nat.le_of_eq hg.symm)) hb); have n1_ := Aside0.mk (below_step (by repeat (first | (with_reducible first | exact HB.out | apply below_alloc | apply pw_below_drewN | apply below_drew1) | exact HB.out)) hb); have n2_ := Aside0.mk (hbox); have n3_ := Aside0.mk ((by rw [hg]; exact (below_size (by repeat (first | (with_reducible first | exact HB.out | apply below_alloc | apply pw_below_drewN | apply below_drew1) | exact HB.out))) : w.heap.size ≤ gb367)); have n4_ := Aside0.mk ((by rw [hg]; exact (below_size (by repeat (first | (with_reducible first | exact HB.out | apply below_alloc | apply pw_below_drewN | apply below_drew1) | exact HB.out))) : w.heap.size ≤ gb367)); clear HO_4; clear HB; have HO_4 := n0_; have HB := n1_; have BK367 := n2_; have GW367 := n3_; have GE367 := n4_; clear n0_ n1_ n2_ n3_ n4_; clear hb hbox hg; have hcz9_0 : w8.cell? ⟨gb367, 0, none⟩ = some (.int .i32 0) := (blk_cell BK367.out 0).trans rfl; have hcz9_1 : w8.cell? ⟨gb367, 1, none⟩ = some (.int .i32 0) := (blk_cell BK367.out 1).trans rfl; have hfz9_0 := blk_frozen BK367.out 0; have hfz9_1 := blk_frozen BK367.out 1)))
              go_loopg [4, 23] k1 (fun kq v4 v23 w' => ∃ (x4_2 : List (S41)) (x23_2 : Int), v23 = .int .i64 x23_2 ∧ Aside0 (sets_Make.l1 kq x4_2 l0 (l0.length : Int) x13_1 x23_2 ((rd_T41 l0 x13_1).f0) ((rd_T41 l0 x13_1).f1) = some (r1, r2)) ∧ Aside0 (kq ≤ k1) ∧ Aside0 (Kd.R k41 41 w' w.heap.size (fun k_ => k_ ≠ gb367) v4 x4_2) ∧ Aside0 (w'.heap[gb367]? = some (.cells #[.int .i32 ((rd_T41 l0 x13_1).f0), .int .i32 ((rd_T41 l0 x13_1).f1)] 41 (0, 0))) ∧ Aside0 (Below w.heap.size w w'))
              case atStart => exact ⟨(x4_1), (0), (by first | rfl | (simp; done) | (simp [*]; done)), H', ⟨Nat.le_refl _⟩, ⟨by (with_reducible repeat (first | apply Kd.R_alloc | apply Kd.R_drewN | apply Kd.R_drew)); exact Kd.R_mono (Kd.R_far (p := ⟨gb367, 1, none⟩) (Kd.R_far (p := ⟨gb367, 0, none⟩) (Kd.R_mono HO_4.out (fun k_ hk => (⟨hk, hk.2⟩ : _ ∧ k_ ≠ gb367))) (fun _ hk => hk.2) (.int .i32 ((rd_T41 l0 x13_1).f0))) (fun _ hk => hk.2) (.int .i32 ((rd_T41 l0 x13_1).f1))) (fun _ hk => hk.1.2)⟩, ⟨by (with_reducible repeat (first | refine blk_drewN ?_ _ | refine blk_drew ?_ | refine blk_alloc ?_ _)); refine blk_put (cs := #[.int .i32 ((rd_T41 l0 x13_1).f0), .int .i32 0]) ?_ 1 _ rfl; (with_reducible repeat (first | refine blk_drewN ?_ _ | refine blk_drew ?_ | refine blk_alloc ?_ _)); refine blk_put (cs := #[.int .i32 0, .int .i32 0]) ?_ 0 _ rfl; (with_reducible repeat (first | refine blk_drewN ?_ _ | refine blk_drew ?_ | refine blk_alloc ?_ _)); exact BK367.out⟩, ⟨by repeat (first | (with_reducible first | exact HB.out | apply below_alloc | apply pw_below_drewN | apply below_drew1 | refine below_set ?_ GE367.out) | exact HB.out)⟩⟩
              case round =>
                clear H'
                try clear c1
                try clear c2
                try clear c2b0
                try clear p2
                try clear c3
                try clear c3b0
                try clear p3
                try clear q3
                try clear hx3
                try clear c4
                try clear c4b0
                try clear c5
                try clear c5b0
                try clear hcz7_0
                try clear hcz7_1
                try clear hcz9_0
                try clear hcz9_1
                try clear hfz7_0
                try clear hfz7_1
                try clear hfz9_0
                try clear hfz9_1
                try clear hx366_0
                try clear hx366_1
                try clear p366
                try clear q366
                obtain ⟨x4_2, x23_2, rfl, HA, HK2, HO_4, BK367, HB⟩ := hrel
                cases gk with
                | zero => exact absurd HA.out (by simp [sets_Make.l1])
                | succ k2 =>
                  have H := HA.out
                  clear HA
                  simp only [sets_Make.l1] at H
                  by_cases c10 : x23_2 < 3
                  · rw [if_pos c10] at H
                    have c10b0 : decide (x23_2 < 3) = true := decide_eq_true c10
                    clear c10
                    by_cases c10z : 0 ≤ x23_2
                    · rw [if_pos c10z] at H
                      have hbi := XB.index_bands x23_2 c10z (of_decide_eq_true c10b0)
                      clear c10z
                      obtain ⟨ji11, hji11⟩ : ∃ j_ : Int, (mx ((rd_T41 l0 x13_1).f0) (XB.bLo x23_2)) = j_ := ⟨_, rfl⟩
                      replace H : (if (ji11) ≤ (mn ((rd_T41 l0 x13_1).f1) (XB.bHi x23_2)) then (if x4_2.length < 17592186044416 then (sets_Make.l1 k2 (x4_2 ++ [(⟨ji11, mn ((rd_T41 l0 x13_1).f1) (XB.bHi x23_2)⟩ : S41)]) l0 (l0.length : Int) x13_1 (wrap64 (x23_2 + 1)) ((rd_T41 l0 x13_1).f0) ((rd_T41 l0 x13_1).f1)) else (none)) else (sets_Make.l1 k2 x4_2 l0 (l0.length : Int) x13_1 (wrap64 (x23_2 + 1)) ((rd_T41 l0 x13_1).f0) ((rd_T41 l0 x13_1).f1))) = some (r1, r2) := by first | (rw [hji11] at H; exact H) | (simp only [hji11] at H ⊢; exact H)
                      have hji11_ : (if ((rd_T41 l0 x13_1).f0) < (XB.bLo x23_2) then (XB.bLo x23_2) else ((rd_T41 l0 x13_1).f0)) = ji11 := hji11
                      obtain ⟨ji12, hji12⟩ : ∃ j_ : Int, (mn ((rd_T41 l0 x13_1).f1) (XB.bHi x23_2)) = j_ := ⟨_, rfl⟩
                      replace H : (if (ji11) ≤ (ji12) then (if x4_2.length < 17592186044416 then (sets_Make.l1 k2 (x4_2 ++ [(⟨ji11, ji12⟩ : S41)]) l0 (l0.length : Int) x13_1 (wrap64 (x23_2 + 1)) ((rd_T41 l0 x13_1).f0) ((rd_T41 l0 x13_1).f1)) else (none)) else (sets_Make.l1 k2 x4_2 l0 (l0.length : Int) x13_1 (wrap64 (x23_2 + 1)) ((rd_T41 l0 x13_1).f0) ((rd_T41 l0 x13_1).f1))) = some (r1, r2) := by first | (rw [hji12] at H; exact H) | (simp only [hji12] at H ⊢; exact H)
                      have hji12_ : (if (XB.bHi x23_2) < ((rd_T41 l0 x13_1).f1) then (XB.bHi x23_2) else ((rd_T41 l0 x13_1).f1)) = ji12 := hji12
                      by_cases c13 : (ji11) ≤ (ji12)
                      · rw [if_pos c13] at H
                        have c13b0 : decide ((ji11) ≤ (ji12)) = true := decide_eq_true c13
                        clear c13
                        by_cases c14 : x4_2.length < 17592186044416
                        · rw [if_pos c14] at H
                          have LMc14 := Aside0.mk c14
                          clear c14
                          obtain ⟨y369, hy369⟩ : ∃ y_ : List (S41), y_ = (x4_2 ++ [(⟨ji11, ji12⟩ : S41)]) := ⟨_, rfl⟩
                          replace H : (sets_Make.l1 k2 y369 l0 (l0.length : Int) x13_1 (wrap64 (x23_2 + 1)) ((rd_T41 l0 x13_1).f0) ((rd_T41 l0 x13_1).f1)) = some (r1, r2) := by first | (rw [hy369]; with_reducible exact H) | (have H2_ := (Option.bind_some _ _).symm.trans H; rw [hy369]; with_reducible exact H2_) | (have H2_ := (Option.bind_some _ _).symm.trans H; with_reducible exact H2_) | with_reducible exact H | (rw [hy369]; exact H) | exact H
                          have Ny369 := Aside0.mk hy369
                          clear hy369
                          have H' := Aside0.mk H
                          clear H
                          go_wp2_with (first | ((with_reducible refine gate_dst (N := 25) rfl ?_); refine Kd.event_run (v := .agg #[.int .i32 (XB.bLo x23_2), .int .i32 (XB.bHi x23_2)]) rfl (XB.run_index rfl rfl rfl (hbi _)) ?_) | ((with_reducible refine gate_dst (N := 8) rfl ?_); refine box_event ?hg (N := 8) ?hd (cs := #[.int .i32 0, .int .i32 0]) (t := 41) ?hr ?_; (case hd => rfl); (case hg => rfl); (case hr => first | (go_simp; done) | (go_simp; rfl)); intro gb368 hg w15 hbox hb; have n0_ := Aside0.mk (Kd.R_below (Kd.R_elderB (by (with_reducible repeat (first | apply Kd.R_alloc | apply Kd.R_drewN | apply Kd.R_drew)); exact HO_4.out) gb368 (Nat.le_of_eq hg.symm)) hb); have n1_ := Aside0.mk (blk_below (g := gb367) (o := .cells #[.int .i32 ((rd_T41 l0 x13_1).f0), .int .i32 ((rd_T41 l0 x13_1).f1)] 41 (0, 0)) (by (with_reducible repeat (first | refine blk_drewN ?_ _ | refine blk_drew ?_ | refine blk_alloc ?_ _)); exact BK367.out) hb); have n2_ := Aside0.mk (below_step (by repeat (first | (with_reducible first | exact HB.out | apply below_alloc | apply pw_below_drewN | apply below_drew1 | refine below_set ?_ GE367.out) | exact HB.out)) hb); have n3_ := Aside0.mk (hbox); have n4_ := Aside0.mk ((by rw [hg]; exact (below_size (by repeat (first | (with_reducible first | exact HB.out | apply below_alloc | apply pw_below_drewN | apply below_drew1 | refine below_set ?_ GE367.out) | exact HB.out))) : w.heap.size ≤ gb368)); have n5_ := Aside0.mk ((by rw [hg]; exact (below_size (by repeat (first | (with_reducible first | exact HB.out | apply below_alloc | apply pw_below_drewN | apply below_drew1 | refine below_set ?_ GE367.out) | exact HB.out))) : w.heap.size ≤ gb368)); have n6_ := Aside0.mk ((by rw [hg]; exact Nat.ne_of_lt (blk_lt (g := gb367) (o := .cells #[.int .i32 ((rd_T41 l0 x13_1).f0), .int .i32 ((rd_T41 l0 x13_1).f1)] 41 (0, 0)) (by (with_reducible repeat (first | refine blk_drewN ?_ _ | refine blk_drew ?_ | refine blk_alloc ?_ _)); exact BK367.out)) : gb367 ≠ gb368)); have n7_ := Aside0.mk ((by rw [hg]; exact Nat.ne_of_gt (blk_lt (g := gb367) (o := .cells #[.int .i32 ((rd_T41 l0 x13_1).f0), .int .i32 ((rd_T41 l0 x13_1).f1)] 41 (0, 0)) (by (with_reducible repeat (first | refine blk_drewN ?_ _ | refine blk_drew ?_ | refine blk_alloc ?_ _)); exact BK367.out)) : gb368 ≠ gb367)); clear HO_4; clear BK367; clear HB; have HO_4 := n0_; have BK367 := n1_; have HB := n2_; have BK368 := n3_; have GW368 := n4_; have GE368 := n5_; have NB367_368 := n6_; have NB368_367 := n7_; clear n0_ n1_ n2_ n3_ n4_ n5_ n6_ n7_; clear hb hbox hg; have hnb16 := NB368_367.out; have hnc16 := NB367_368.out; have hcz17_0 : w15.cell? ⟨gb368, 0, none⟩ = some (.int .i32 0) := (blk_cell BK368.out 0).trans rfl; have hcz17_1 : w15.cell? ⟨gb368, 1, none⟩ = some (.int .i32 0) := (blk_cell BK368.out 1).trans rfl; have hfz17_0 := blk_frozen BK368.out 0; have hfz17_1 := blk_frozen BK368.out 1; have hcz18_0 : w15.cell? ⟨gb367, 0, none⟩ = some (.int .i32 ((rd_T41 l0 x13_1).f0)) := (blk_cell BK367.out 0).trans rfl; have hcz18_1 : w15.cell? ⟨gb367, 1, none⟩ = some (.int .i32 ((rd_T41 l0 x13_1).f1)) := (blk_cell BK367.out 1).trans rfl; have hfz18_0 := blk_frozen BK367.out 0; have hfz18_1 := blk_frozen BK367.out 1) | ((with_reducible refine gate_builtin (b := .append) (xs := #[.tmp 39, .tmp 43]) rfl ?_); at_builtin; refine Kd.R_append k41 (w0 := w) w.heap.size rfl (.tmp 39) (.tmp 43) 24 41 (.agg #[(.int .i32 0), (.int .i32 0)]) 8 rfl Tryd.underlying24 info41 rfl (by decide) (by omega) u4 x4_2 (⟨ji11, ji12⟩ : S41) [.int .i32 ji11, .int .i32 ji12] (fun k_ => k_ ≠ gb367 ∧ k_ ≠ gb368) (fun _ => False) rfl (by first | (go_simp; done) | (go_simp; rfl)) ?aP (fun _ hk => hk.elim) ?aF ?aO ?aB ?aS ?aL ?_; (case aP => exact k41_mkM _ _ _ (⟨ji11, ji12⟩ : S41)); (case aB => exact (by repeat (first | (with_reducible first | exact HB.out | apply below_alloc | apply pw_below_drewN | apply below_drew1 | refine below_set ?_ GE367.out | refine below_set ?_ GE368.out) | exact HB.out))); (case aF => exact (fun k_ hk => ⟨Kd.freshB (g := gb367) (o := .cells #[.int .i32 ((rd_T41 l0 x13_1).f0), .int .i32 ((rd_T41 l0 x13_1).f1)] 41 (0, 0)) (by (with_reducible repeat (first | refine blk_drewN ?_ _ | refine blk_drew ?_ | refine blk_alloc ?_ _)); refine blk_far ?_ NB367_368.out _; (with_reducible repeat (first | refine blk_drewN ?_ _ | refine blk_drew ?_ | refine blk_alloc ?_ _)); refine blk_far ?_ NB367_368.out _; (with_reducible repeat (first | refine blk_drewN ?_ _ | refine blk_drew ?_ | refine blk_alloc ?_ _)); exact BK367.out) k_ hk, Kd.freshB (g := gb368) (o := .cells #[.int .i32 (XB.bLo x23_2), .int .i32 (XB.bHi x23_2)] 41 (0, 0)) (by (with_reducible repeat (first | refine blk_drewN ?_ _ | refine blk_drew ?_ | refine blk_alloc ?_ _)); refine blk_put (cs := #[.int .i32 (XB.bLo x23_2), .int .i32 0]) ?_ 1 _ rfl; (with_reducible repeat (first | refine blk_drewN ?_ _ | refine blk_drew ?_ | refine blk_alloc ?_ _)); refine blk_put (cs := #[.int .i32 0, .int .i32 0]) ?_ 0 _ rfl; (with_reducible repeat (first | refine blk_drewN ?_ _ | refine blk_drew ?_ | refine blk_alloc ?_ _)); exact BK368.out) k_ hk⟩)); (case aO => exact (by (with_reducible repeat (first | apply Kd.R_alloc | apply Kd.R_drewN | apply Kd.R_drew)); exact Kd.R_mono (Kd.R_far (p := ⟨gb368, 1, none⟩) (Kd.R_far (p := ⟨gb368, 0, none⟩) (Kd.R_mono HO_4.out (fun k_ hk => (⟨hk, hk.2⟩ : _ ∧ k_ ≠ gb368))) (fun _ hk => hk.2) (.int .i32 (XB.bLo x23_2))) (fun _ hk => hk.2) (.int .i32 (XB.bHi x23_2))) (fun _ hk => ⟨hk.1.1, hk.1.2⟩))); (case aS => exact (below_size (by repeat (first | (with_reducible first | exact HB.out | apply below_alloc | apply pw_below_drewN | apply below_drew1 | refine below_set ?_ GE367.out | refine below_set ?_ GE368.out) | exact HB.out)))); (case aL => have := LMc14.out; omega); intro v370 w19 ho hb hg hat; rw [← Ny369.out] at ho; have n0_ := Aside0.mk (blk_grown (g := gb367) (o := .cells #[.int .i32 ((rd_T41 l0 x13_1).f0), .int .i32 ((rd_T41 l0 x13_1).f1)] 41 (0, 0)) (by (with_reducible repeat (first | refine blk_drewN ?_ _ | refine blk_drew ?_ | refine blk_alloc ?_ _)); refine blk_far ?_ NB367_368.out _; (with_reducible repeat (first | refine blk_drewN ?_ _ | refine blk_drew ?_ | refine blk_alloc ?_ _)); refine blk_far ?_ NB367_368.out _; (with_reducible repeat (first | refine blk_drewN ?_ _ | refine blk_drew ?_ | refine blk_alloc ?_ _)); exact BK367.out) hg (Kd.R_away HO_4.out (fun _ hk => hk.1))); have n1_ := Aside0.mk (blk_grown (g := gb368) (o := .cells #[.int .i32 (XB.bLo x23_2), .int .i32 (XB.bHi x23_2)] 41 (0, 0)) (by (with_reducible repeat (first | refine blk_drewN ?_ _ | refine blk_drew ?_ | refine blk_alloc ?_ _)); refine blk_put (cs := #[.int .i32 (XB.bLo x23_2), .int .i32 0]) ?_ 1 _ rfl; (with_reducible repeat (first | refine blk_drewN ?_ _ | refine blk_drew ?_ | refine blk_alloc ?_ _)); refine blk_put (cs := #[.int .i32 0, .int .i32 0]) ?_ 0 _ rfl; (with_reducible repeat (first | refine blk_drewN ?_ _ | refine blk_drew ?_ | refine blk_alloc ?_ _)); exact BK368.out) hg (Kd.R_away HO_4.out (fun _ hk => hk.2))); have n2_ := Aside0.mk (hb); have n3_ := Aside0.mk (ho); clear BK367; clear BK368; clear HB; clear HO_4; have BK367 := n0_; have BK368 := n1_; have HB := n2_; have HO371 := n3_; clear n0_ n1_ n2_ n3_; clear ho hb hg hat))
                          repeat (go_quiet (first | ((with_reducible refine gate_dst (N := 25) rfl ?_); refine Kd.event_run (v := .agg #[.int .i32 (XB.bLo x23_2), .int .i32 (XB.bHi x23_2)]) rfl (XB.run_index rfl rfl rfl (hbi _)) ?_) | ((with_reducible refine gate_dst (N := 8) rfl ?_); refine box_event ?hg (N := 8) ?hd (cs := #[.int .i32 0, .int .i32 0]) (t := 41) ?hr ?_; (case hd => rfl); (case hg => rfl); (case hr => first | (go_simp; done) | (go_simp; rfl)); intro gb368 hg w15 hbox hb; have n0_ := Aside0.mk (Kd.R_below (Kd.R_elderB (by (with_reducible repeat (first | apply Kd.R_alloc | apply Kd.R_drewN | apply Kd.R_drew)); exact HO_4.out) gb368 (Nat.le_of_eq hg.symm)) hb); have n1_ := Aside0.mk (blk_below (g := gb367) (o := .cells #[.int .i32 ((rd_T41 l0 x13_1).f0), .int .i32 ((rd_T41 l0 x13_1).f1)] 41 (0, 0)) (by (with_reducible repeat (first | refine blk_drewN ?_ _ | refine blk_drew ?_ | refine blk_alloc ?_ _)); exact BK367.out) hb); have n2_ := Aside0.mk (below_step (by repeat (first | (with_reducible first | exact HB.out | apply below_alloc | apply pw_below_drewN | apply below_drew1 | refine below_set ?_ GE367.out) | exact HB.out)) hb); have n3_ := Aside0.mk (hbox); have n4_ := Aside0.mk ((by rw [hg]; exact (below_size (by repeat (first | (with_reducible first | exact HB.out | apply below_alloc | apply pw_below_drewN | apply below_drew1 | refine below_set ?_ GE367.out) | exact HB.out))) : w.heap.size ≤ gb368)); have n5_ := Aside0.mk ((by rw [hg]; exact (below_size (by repeat (first | (with_reducible first | exact HB.out | apply below_alloc | apply pw_below_drewN | apply below_drew1 | refine below_set ?_ GE367.out) | exact HB.out))) : w.heap.size ≤ gb368)); have n6_ := Aside0.mk ((by rw [hg]; exact Nat.ne_of_lt (blk_lt (g := gb367) (o := .cells #[.int .i32 ((rd_T41 l0 x13_1).f0), .int .i32 ((rd_T41 l0 x13_1).f1)] 41 (0, 0)) (by (with_reducible repeat (first | refine blk_drewN ?_ _ | refine blk_drew ?_ | refine blk_alloc ?_ _)); exact BK367.out)) : gb367 ≠ gb368)); have n7_ := Aside0.mk ((by rw [hg]; exact Nat.ne_of_gt (blk_lt (g := gb367) (o := .cells #[.int .i32 ((rd_T41 l0 x13_1).f0), .int .i32 ((rd_T41 l0 x13_1).f1)] 41 (0, 0)) (by (with_reducible repeat (first | refine blk_drewN ?_ _ | refine blk_drew ?_ | refine blk_alloc ?_ _)); exact BK367.out)) : gb368 ≠ gb367)); clear HO_4; clear BK367; clear HB; have HO_4 := n0_; have BK367 := n1_; have HB := n2_; have BK368 := n3_; have GW368 := n4_; have GE368 := n5_; have NB367_368 := n6_; have NB368_367 := n7_; clear n0_ n1_ n2_ n3_ n4_ n5_ n6_ n7_; clear hb hbox hg; have hnb16 := NB368_367.out; have hnc16 := NB367_368.out; have hcz17_0 : w15.cell? ⟨gb368, 0, none⟩ = some (.int .i32 0) := (blk_cell BK368.out 0).trans rfl; have hcz17_1 : w15.cell? ⟨gb368, 1, none⟩ = some (.int .i32 0) := (blk_cell BK368.out 1).trans rfl; have hfz17_0 := blk_frozen BK368.out 0; have hfz17_1 := blk_frozen BK368.out 1; have hcz18_0 : w15.cell? ⟨gb367, 0, none⟩ = some (.int .i32 ((rd_T41 l0 x13_1).f0)) := (blk_cell BK367.out 0).trans rfl; have hcz18_1 : w15.cell? ⟨gb367, 1, none⟩ = some (.int .i32 ((rd_T41 l0 x13_1).f1)) := (blk_cell BK367.out 1).trans rfl; have hfz18_0 := blk_frozen BK367.out 0; have hfz18_1 := blk_frozen BK367.out 1) | ((with_reducible refine gate_builtin (b := .append) (xs := #[.tmp 39, .tmp 43]) rfl ?_); at_builtin; refine Kd.R_append k41 (w0 := w) w.heap.size rfl (.tmp 39) (.tmp 43) 24 41 (.agg #[(.int .i32 0), (.int .i32 0)]) 8 rfl Tryd.underlying24 info41 rfl (by decide) (by omega) u4 x4_2 (⟨ji11, ji12⟩ : S41) [.int .i32 ji11, .int .i32 ji12] (fun k_ => k_ ≠ gb367 ∧ k_ ≠ gb368) (fun _ => False) rfl (by first | (go_simp; done) | (go_simp; rfl)) ?aP (fun _ hk => hk.elim) ?aF ?aO ?aB ?aS ?aL ?_; (case aP => exact k41_mkM _ _ _ (⟨ji11, ji12⟩ : S41)); (case aB => exact (by repeat (first | (with_reducible first | exact HB.out | apply below_alloc | apply pw_below_drewN | apply below_drew1 | refine below_set ?_ GE367.out | refine below_set ?_ GE368.out) | exact HB.out))); (case aF => exact (fun k_ hk => ⟨Kd.freshB (g := gb367) (o := .cells #[.int .i32 ((rd_T41 l0 x13_1).f0), .int .i32 ((rd_T41 l0 x13_1).f1)] 41 (0, 0)) (by (with_reducible repeat (first | refine blk_drewN ?_ _ | refine blk_drew ?_ | refine blk_alloc ?_ _)); refine blk_far ?_ NB367_368.out _; (with_reducible repeat (first | refine blk_drewN ?_ _ | refine blk_drew ?_ | refine blk_alloc ?_ _)); refine blk_far ?_ NB367_368.out _; (with_reducible repeat (first | refine blk_drewN ?_ _ | refine blk_drew ?_ | refine blk_alloc ?_ _)); exact BK367.out) k_ hk, Kd.freshB (g := gb368) (o := .cells #[.int .i32 (XB.bLo x23_2), .int .i32 (XB.bHi x23_2)] 41 (0, 0)) (by (with_reducible repeat (first | refine blk_drewN ?_ _ | refine blk_drew ?_ | refine blk_alloc ?_ _)); refine blk_put (cs := #[.int .i32 (XB.bLo x23_2), .int .i32 0]) ?_ 1 _ rfl; (with_reducible repeat (first | refine blk_drewN ?_ _ | refine blk_drew ?_ | refine blk_alloc ?_ _)); refine blk_put (cs := #[.int .i32 0, .int .i32 0]) ?_ 0 _ rfl; (with_reducible repeat (first | refine blk_drewN ?_ _ | refine blk_drew ?_ | refine blk_alloc ?_ _)); exact BK368.out) k_ hk⟩)); (case aO => exact (by (with_reducible repeat (first | apply Kd.R_alloc | apply Kd.R_drewN | apply Kd.R_drew)); exact Kd.R_mono (Kd.R_far (p := ⟨gb368, 1, none⟩) (Kd.R_far (p := ⟨gb368, 0, none⟩) (Kd.R_mono HO_4.out (fun k_ hk => (⟨hk, hk.2⟩ : _ ∧ k_ ≠ gb368))) (fun _ hk => hk.2) (.int .i32 (XB.bLo x23_2))) (fun _ hk => hk.2) (.int .i32 (XB.bHi x23_2))) (fun _ hk => ⟨hk.1.1, hk.1.2⟩))); (case aS => exact (below_size (by repeat (first | (with_reducible first | exact HB.out | apply below_alloc | apply pw_below_drewN | apply below_drew1 | refine below_set ?_ GE367.out | refine below_set ?_ GE368.out) | exact HB.out)))); (case aL => have := LMc14.out; omega); intro v370 w19 ho hb hg hat; rw [← Ny369.out] at ho; have n0_ := Aside0.mk (blk_grown (g := gb367) (o := .cells #[.int .i32 ((rd_T41 l0 x13_1).f0), .int .i32 ((rd_T41 l0 x13_1).f1)] 41 (0, 0)) (by (with_reducible repeat (first | refine blk_drewN ?_ _ | refine blk_drew ?_ | refine blk_alloc ?_ _)); refine blk_far ?_ NB367_368.out _; (with_reducible repeat (first | refine blk_drewN ?_ _ | refine blk_drew ?_ | refine blk_alloc ?_ _)); refine blk_far ?_ NB367_368.out _; (with_reducible repeat (first | refine blk_drewN ?_ _ | refine blk_drew ?_ | refine blk_alloc ?_ _)); exact BK367.out) hg (Kd.R_away HO_4.out (fun _ hk => hk.1))); have n1_ := Aside0.mk (blk_grown (g := gb368) (o := .cells #[.int .i32 (XB.bLo x23_2), .int .i32 (XB.bHi x23_2)] 41 (0, 0)) (by (with_reducible repeat (first | refine blk_drewN ?_ _ | refine blk_drew ?_ | refine blk_alloc ?_ _)); refine blk_put (cs := #[.int .i32 (XB.bLo x23_2), .int .i32 0]) ?_ 1 _ rfl; (with_reducible repeat (first | refine blk_drewN ?_ _ | refine blk_drew ?_ | refine blk_alloc ?_ _)); refine blk_put (cs := #[.int .i32 0, .int .i32 0]) ?_ 0 _ rfl; (with_reducible repeat (first | refine blk_drewN ?_ _ | refine blk_drew ?_ | refine blk_alloc ?_ _)); exact BK368.out) hg (Kd.R_away HO_4.out (fun _ hk => hk.2))); have n2_ := Aside0.mk (hb); have n3_ := Aside0.mk (ho); clear BK367; clear BK368; clear HB; clear HO_4; have BK367 := n0_; have BK368 := n1_; have HB := n2_; have HO371 := n3_; clear n0_ n1_ n2_ n3_; clear ho hb hg hat)); try go_wp2_with (first | ((with_reducible refine gate_dst (N := 25) rfl ?_); refine Kd.event_run (v := .agg #[.int .i32 (XB.bLo x23_2), .int .i32 (XB.bHi x23_2)]) rfl (XB.run_index rfl rfl rfl (hbi _)) ?_) | ((with_reducible refine gate_dst (N := 8) rfl ?_); refine box_event ?hg (N := 8) ?hd (cs := #[.int .i32 0, .int .i32 0]) (t := 41) ?hr ?_; (case hd => rfl); (case hg => rfl); (case hr => first | (go_simp; done) | (go_simp; rfl)); intro gb368 hg w15 hbox hb; have n0_ := Aside0.mk (Kd.R_below (Kd.R_elderB (by (with_reducible repeat (first | apply Kd.R_alloc | apply Kd.R_drewN | apply Kd.R_drew)); exact HO_4.out) gb368 (Nat.le_of_eq hg.symm)) hb); have n1_ := Aside0.mk (blk_below (g := gb367) (o := .cells #[.int .i32 ((rd_T41 l0 x13_1).f0), .int .i32 ((rd_T41 l0 x13_1).f1)] 41 (0, 0)) (by (with_reducible repeat (first | refine blk_drewN ?_ _ | refine blk_drew ?_ | refine blk_alloc ?_ _)); exact BK367.out) hb); have n2_ := Aside0.mk (below_step (by repeat (first | (with_reducible first | exact HB.out | apply below_alloc | apply pw_below_drewN | apply below_drew1 | refine below_set ?_ GE367.out) | exact HB.out)) hb); have n3_ := Aside0.mk (hbox); have n4_ := Aside0.mk ((by rw [hg]; exact (below_size (by repeat (first | (with_reducible first | exact HB.out | apply below_alloc | apply pw_below_drewN | apply below_drew1 | refine below_set ?_ GE367.out) | exact HB.out))) : w.heap.size ≤ gb368)); have n5_ := Aside0.mk ((by rw [hg]; exact (below_size (by repeat (first | (with_reducible first | exact HB.out | apply below_alloc | apply pw_below_drewN | apply below_drew1 | refine below_set ?_ GE367.out) | exact HB.out))) : w.heap.size ≤ gb368)); have n6_ := Aside0.mk ((by rw [hg]; exact Nat.ne_of_lt (blk_lt (g := gb367) (o := .cells #[.int .i32 ((rd_T41 l0 x13_1).f0), .int .i32 ((rd_T41 l0 x13_1).f1)] 41 (0, 0)) (by (with_reducible repeat (first | refine blk_drewN ?_ _ | refine blk_drew ?_ | refine blk_alloc ?_ _)); exact BK367.out)) : gb367 ≠ gb368)); have n7_ := Aside0.mk ((by rw [hg]; exact Nat.ne_of_gt (blk_lt (g := gb367) (o := .cells #[.int .i32 ((rd_T41 l0 x13_1).f0), .int .i32 ((rd_T41 l0 x13_1).f1)] 41 (0, 0)) (by (with_reducible repeat (first | refine blk_drewN ?_ _ | refine blk_drew ?_ | refine blk_alloc ?_ _)); exact BK367.out)) : gb368 ≠ gb367)); clear HO_4; clear BK367; clear HB; have HO_4 := n0_; have BK367 := n1_; have HB := n2_; have BK368 := n3_; have GW368 := n4_; have GE368 := n5_; have NB367_368 := n6_; have NB368_367 := n7_; clear n0_ n1_ n2_ n3_ n4_ n5_ n6_ n7_; clear hb hbox hg; have hnb16 := NB368_367.out; have hnc16 := NB367_368.out; have hcz17_0 : w15.cell? ⟨gb368, 0, none⟩ = some (.int .i32 0) := (blk_cell BK368.out 0).trans rfl; have hcz17_1 : w15.cell? ⟨gb368, 1, none⟩ = some (.int .i32 0) := (blk_cell BK368.out 1).trans rfl; have hfz17_0 := blk_frozen BK368.out 0; have hfz17_1 := blk_frozen BK368.out 1; have hcz18_0 : w15.cell? ⟨gb367, 0, none⟩ = some (.int .i32 ((rd_T41 l0 x13_1).f0)) := (blk_cell BK367.out 0).trans rfl; have hcz18_1 : w15.cell? ⟨gb367, 1, none⟩ = some (.int .i32 ((rd_T41 l0 x13_1).f1)) := (blk_cell BK367.out 1).trans rfl; have hfz18_0 := blk_frozen BK367.out 0; have hfz18_1 := blk_frozen BK367.out 1) | ((with_reducible refine gate_builtin (b := .append) (xs := #[.tmp 39, .tmp 43]) rfl ?_); at_builtin; refine Kd.R_append k41 (w0 := w) w.heap.size rfl (.tmp 39) (.tmp 43) 24 41 (.agg #[(.int .i32 0), (.int .i32 0)]) 8 rfl Tryd.underlying24 info41 rfl (by decide) (by omega) u4 x4_2 (⟨ji11, ji12⟩ : S41) [.int .i32 ji11, .int .i32 ji12] (fun k_ => k_ ≠ gb367 ∧ k_ ≠ gb368) (fun _ => False) rfl (by first | (go_simp; done) | (go_simp; rfl)) ?aP (fun _ hk => hk.elim) ?aF ?aO ?aB ?aS ?aL ?_; (case aP => exact k41_mkM _ _ _ (⟨ji11, ji12⟩ : S41)); (case aB => exact (by repeat (first | (with_reducible first | exact HB.out | apply below_alloc | apply pw_below_drewN | apply below_drew1 | refine below_set ?_ GE367.out | refine below_set ?_ GE368.out) | exact HB.out))); (case aF => exact (fun k_ hk => ⟨Kd.freshB (g := gb367) (o := .cells #[.int .i32 ((rd_T41 l0 x13_1).f0), .int .i32 ((rd_T41 l0 x13_1).f1)] 41 (0, 0)) (by (with_reducible repeat (first | refine blk_drewN ?_ _ | refine blk_drew ?_ | refine blk_alloc ?_ _)); refine blk_far ?_ NB367_368.out _; (with_reducible repeat (first | refine blk_drewN ?_ _ | refine blk_drew ?_ | refine blk_alloc ?_ _)); refine blk_far ?_ NB367_368.out _; (with_reducible repeat (first | refine blk_drewN ?_ _ | refine blk_drew ?_ | refine blk_alloc ?_ _)); exact BK367.out) k_ hk, Kd.freshB (g := gb368) (o := .cells #[.int .i32 (XB.bLo x23_2), .int .i32 (XB.bHi x23_2)] 41 (0, 0)) (by (with_reducible repeat (first | refine blk_drewN ?_ _ | refine blk_drew ?_ | refine blk_alloc ?_ _)); refine blk_put (cs := #[.int .i32 (XB.bLo x23_2), .int .i32 0]) ?_ 1 _ rfl; (with_reducible repeat (first | refine blk_drewN ?_ _ | refine blk_drew ?_ | refine blk_alloc ?_ _)); refine blk_put (cs := #[.int .i32 0, .int .i32 0]) ?_ 0 _ rfl; (with_reducible repeat (first | refine blk_drewN ?_ _ | refine blk_drew ?_ | refine blk_alloc ?_ _)); exact BK368.out) k_ hk⟩)); (case aO => exact (by (with_reducible repeat (first | apply Kd.R_alloc | apply Kd.R_drewN | apply Kd.R_drew)); exact Kd.R_mono (Kd.R_far (p := ⟨gb368, 1, none⟩) (Kd.R_far (p := ⟨gb368, 0, none⟩) (Kd.R_mono HO_4.out (fun k_ hk => (⟨hk, hk.2⟩ : _ ∧ k_ ≠ gb368))) (fun _ hk => hk.2) (.int .i32 (XB.bLo x23_2))) (fun _ hk => hk.2) (.int .i32 (XB.bHi x23_2))) (fun _ hk => ⟨hk.1.1, hk.1.2⟩))); (case aS => exact (below_size (by repeat (first | (with_reducible first | exact HB.out | apply below_alloc | apply pw_below_drewN | apply below_drew1 | refine below_set ?_ GE367.out | refine below_set ?_ GE368.out) | exact HB.out)))); (case aL => have := LMc14.out; omega); intro v370 w19 ho hb hg hat; rw [← Ny369.out] at ho; have n0_ := Aside0.mk (blk_grown (g := gb367) (o := .cells #[.int .i32 ((rd_T41 l0 x13_1).f0), .int .i32 ((rd_T41 l0 x13_1).f1)] 41 (0, 0)) (by (with_reducible repeat (first | refine blk_drewN ?_ _ | refine blk_drew ?_ | refine blk_alloc ?_ _)); refine blk_far ?_ NB367_368.out _; (with_reducible repeat (first | refine blk_drewN ?_ _ | refine blk_drew ?_ | refine blk_alloc ?_ _)); refine blk_far ?_ NB367_368.out _; (with_reducible repeat (first | refine blk_drewN ?_ _ | refine blk_drew ?_ | refine blk_alloc ?_ _)); exact BK367.out) hg (Kd.R_away HO_4.out (fun _ hk => hk.1))); have n1_ := Aside0.mk (blk_grown (g := gb368) (o := .cells #[.int .i32 (XB.bLo x23_2), .int .i32 (XB.bHi x23_2)] 41 (0, 0)) (by (with_reducible repeat (first | refine blk_drewN ?_ _ | refine blk_drew ?_ | refine blk_alloc ?_ _)); refine blk_put (cs := #[.int .i32 (XB.bLo x23_2), .int .i32 0]) ?_ 1 _ rfl; (with_reducible repeat (first | refine blk_drewN ?_ _ | refine blk_drew ?_ | refine blk_alloc ?_ _)); refine blk_put (cs := #[.int .i32 0, .int .i32 0]) ?_ 0 _ rfl; (with_reducible repeat (first | refine blk_drewN ?_ _ | refine blk_drew ?_ | refine blk_alloc ?_ _)); exact BK368.out) hg (Kd.R_away HO_4.out (fun _ hk => hk.2))); have n2_ := Aside0.mk (hb); have n3_ := Aside0.mk (ho); clear BK367; clear BK368; clear HB; clear HO_4; have BK367 := n0_; have BK368 := n1_; have HB := n2_; have HO371 := n3_; clear n0_ n1_ n2_ n3_; clear ho hb hg hat)))
                          go_roundg k2
                          case measure => have := HK1.out; have := HK2.out; omega
                          case rel => exact ⟨(y369), (wrap64 (x23_2 + 1)), (by first | rfl | (simp; done) | (simp [*]; done)), H', ⟨by have := HK1.out; have := HK2.out; omega⟩, ⟨by (with_reducible repeat (first | apply Kd.R_alloc | apply Kd.R_drewN | apply Kd.R_drew)); exact Kd.R_mono HO371.out (fun _ hk => hk.1)⟩, ⟨by (with_reducible repeat (first | refine blk_drewN ?_ _ | refine blk_drew ?_ | refine blk_alloc ?_ _)); exact BK367.out⟩, ⟨by repeat (first | (with_reducible first | exact HB.out | apply below_alloc | apply pw_below_drewN | apply below_drew1 | refine below_set ?_ GE367.out | refine below_set ?_ GE368.out) | exact HB.out)⟩⟩
                        · rw [if_neg c14] at H
                          exact absurd H (by simp)
                      · rw [if_neg c13] at H
                        have c13b0 : decide ((ji11) ≤ (ji12)) = false := decide_eq_false c13
                        clear c13
                        have H' := Aside0.mk H
                        clear H
                        go_wp2_with (first | ((with_reducible refine gate_dst (N := 25) rfl ?_); refine Kd.event_run (v := .agg #[.int .i32 (XB.bLo x23_2), .int .i32 (XB.bHi x23_2)]) rfl (XB.run_index rfl rfl rfl (hbi _)) ?_) | ((with_reducible refine gate_dst (N := 8) rfl ?_); refine box_event ?hg (N := 8) ?hd (cs := #[.int .i32 0, .int .i32 0]) (t := 41) ?hr ?_; (case hd => rfl); (case hg => rfl); (case hr => first | (go_simp; done) | (go_simp; rfl)); intro gb368 hg w20 hbox hb; have n0_ := Aside0.mk (Kd.R_below (Kd.R_elderB (by (with_reducible repeat (first | apply Kd.R_alloc | apply Kd.R_drewN | apply Kd.R_drew)); exact HO_4.out) gb368 (Nat.le_of_eq hg.symm)) hb); have n1_ := Aside0.mk (blk_below (g := gb367) (o := .cells #[.int .i32 ((rd_T41 l0 x13_1).f0), .int .i32 ((rd_T41 l0 x13_1).f1)] 41 (0, 0)) (by (with_reducible repeat (first | refine blk_drewN ?_ _ | refine blk_drew ?_ | refine blk_alloc ?_ _)); exact BK367.out) hb); have n2_ := Aside0.mk (below_step (by repeat (first | (with_reducible first | exact HB.out | apply below_alloc | apply pw_below_drewN | apply below_drew1 | refine below_set ?_ GE367.out) | exact HB.out)) hb); have n3_ := Aside0.mk (hbox); have n4_ := Aside0.mk ((by rw [hg]; exact (below_size (by repeat (first | (with_reducible first | exact HB.out | apply below_alloc | apply pw_below_drewN | apply below_drew1 | refine below_set ?_ GE367.out) | exact HB.out))) : w.heap.size ≤ gb368)); have n5_ := Aside0.mk ((by rw [hg]; exact (below_size (by repeat (first | (with_reducible first | exact HB.out | apply below_alloc | apply pw_below_drewN | apply below_drew1 | refine below_set ?_ GE367.out) | exact HB.out))) : w.heap.size ≤ gb368)); have n6_ := Aside0.mk ((by rw [hg]; exact Nat.ne_of_lt (blk_lt (g := gb367) (o := .cells #[.int .i32 ((rd_T41 l0 x13_1).f0), .int .i32 ((rd_T41 l0 x13_1).f1)] 41 (0, 0)) (by (with_reducible repeat (first | refine blk_drewN ?_ _ | refine blk_drew ?_ | refine blk_alloc ?_ _)); exact BK367.out)) : gb367 ≠ gb368)); have n7_ := Aside0.mk ((by rw [hg]; exact Nat.ne_of_gt (blk_lt (g := gb367) (o := .cells #[.int .i32 ((rd_T41 l0 x13_1).f0), .int .i32 ((rd_T41 l0 x13_1).f1)] 41 (0, 0)) (by (with_reducible repeat (first | refine blk_drewN ?_ _ | refine blk_drew ?_ | refine blk_alloc ?_ _)); exact BK367.out)) : gb368 ≠ gb367)); clear HO_4; clear BK367; clear HB; have HO_4 := n0_; have BK367 := n1_; have HB := n2_; have BK368 := n3_; have GW368 := n4_; have GE368 := n5_; have NB367_368 := n6_; have NB368_367 := n7_; clear n0_ n1_ n2_ n3_ n4_ n5_ n6_ n7_; clear hb hbox hg; have hnb21 := NB368_367.out; have hnc21 := NB367_368.out; have hcz22_0 : w20.cell? ⟨gb368, 0, none⟩ = some (.int .i32 0) := (blk_cell BK368.out 0).trans rfl; have hcz22_1 : w20.cell? ⟨gb368, 1, none⟩ = some (.int .i32 0) := (blk_cell BK368.out 1).trans rfl; have hfz22_0 := blk_frozen BK368.out 0; have hfz22_1 := blk_frozen BK368.out 1; have hcz23_0 : w20.cell? ⟨gb367, 0, none⟩ = some (.int .i32 ((rd_T41 l0 x13_1).f0)) := (blk_cell BK367.out 0).trans rfl; have hcz23_1 : w20.cell? ⟨gb367, 1, none⟩ = some (.int .i32 ((rd_T41 l0 x13_1).f1)) := (blk_cell BK367.out 1).trans rfl; have hfz23_0 := blk_frozen BK367.out 0; have hfz23_1 := blk_frozen BK367.out 1))
                        repeat (go_quiet (first | ((with_reducible refine gate_dst (N := 25) rfl ?_); refine Kd.event_run (v := .agg #[.int .i32 (XB.bLo x23_2), .int .i32 (XB.bHi x23_2)]) rfl (XB.run_index rfl rfl rfl (hbi _)) ?_) | ((with_reducible refine gate_dst (N := 8) rfl ?_); refine box_event ?hg (N := 8) ?hd (cs := #[.int .i32 0, .int .i32 0]) (t := 41) ?hr ?_; (case hd => rfl); (case hg => rfl); (case hr => first | (go_simp; done) | (go_simp; rfl)); intro gb368 hg w20 hbox hb; have n0_ := Aside0.mk (Kd.R_below (Kd.R_elderB (by (with_reducible repeat (first | apply Kd.R_alloc | apply Kd.R_drewN | apply Kd.R_drew)); exact HO_4.out) gb368 (Nat.le_of_eq hg.symm)) hb); have n1_ := Aside0.mk (blk_below (g := gb367) (o := .cells #[.int .i32 ((rd_T41 l0 x13_1).f0), .int .i32 ((rd_T41 l0 x13_1).f1)] 41 (0, 0)) (by (with_reducible repeat (first | refine blk_drewN ?_ _ | refine blk_drew ?_ | refine blk_alloc ?_ _)); exact BK367.out) hb); have n2_ := Aside0.mk (below_step (by repeat (first | (with_reducible first | exact HB.out | apply below_alloc | apply pw_below_drewN | apply below_drew1 | refine below_set ?_ GE367.out) | exact HB.out)) hb); have n3_ := Aside0.mk (hbox); have n4_ := Aside0.mk ((by rw [hg]; exact (below_size (by repeat (first | (with_reducible first | exact HB.out | apply below_alloc | apply pw_below_drewN | apply below_drew1 | refine below_set ?_ GE367.out) | exact HB.out))) : w.heap.size ≤ gb368)); have n5_ := Aside0.mk ((by rw [hg]; exact (below_size (by repeat (first | (with_reducible first | exact HB.out | apply below_alloc | apply pw_below_drewN | apply below_drew1 | refine below_set ?_ GE367.out) | exact HB.out))) : w.heap.size ≤ gb368)); have n6_ := Aside0.mk ((by rw [hg]; exact Nat.ne_of_lt (blk_lt (g := gb367) (o := .cells #[.int .i32 ((rd_T41 l0 x13_1).f0), .int .i32 ((rd_T41 l0 x13_1).f1)] 41 (0, 0)) (by (with_reducible repeat (first | refine blk_drewN ?_ _ | refine blk_drew ?_ | refine blk_alloc ?_ _)); exact BK367.out)) : gb367 ≠ gb368)); have n7_ := Aside0.mk ((by rw [hg]; exact Nat.ne_of_gt (blk_lt (g := gb367) (o := .cells #[.int .i32 ((rd_T41 l0 x13_1).f0), .int .i32 ((rd_T41 l0 x13_1).f1)] 41 (0, 0)) (by (with_reducible repeat (first | refine blk_drewN ?_ _ | refine blk_drew ?_ | refine blk_alloc ?_ _)); exact BK367.out)) : gb368 ≠ gb367)); clear HO_4; clear BK367; clear HB; have HO_4 := n0_; have BK367 := n1_; have HB := n2_; have BK368 := n3_; have GW368 := n4_; have GE368 := n5_; have NB367_368 := n6_; have NB368_367 := n7_; clear n0_ n1_ n2_ n3_ n4_ n5_ n6_ n7_; clear hb hbox hg; have hnb21 := NB368_367.out; have hnc21 := NB367_368.out; have hcz22_0 : w20.cell? ⟨gb368, 0, none⟩ = some (.int .i32 0) := (blk_cell BK368.out 0).trans rfl; have hcz22_1 : w20.cell? ⟨gb368, 1, none⟩ = some (.int .i32 0) := (blk_cell BK368.out 1).trans rfl; have hfz22_0 := blk_frozen BK368.out 0; have hfz22_1 := blk_frozen BK368.out 1; have hcz23_0 : w20.cell? ⟨gb367, 0, none⟩ = some (.int .i32 ((rd_T41 l0 x13_1).f0)) := (blk_cell BK367.out 0).trans rfl; have hcz23_1 : w20.cell? ⟨gb367, 1, none⟩ = some (.int .i32 ((rd_T41 l0 x13_1).f1)) := (blk_cell BK367.out 1).trans rfl; have hfz23_0 := blk_frozen BK367.out 0; have hfz23_1 := blk_frozen BK367.out 1)); try go_wp2_with (first | ((with_reducible refine gate_dst (N := 25) rfl ?_); refine Kd.event_run (v := .agg #[.int .i32 (XB.bLo x23_2), .int .i32 (XB.bHi x23_2)]) rfl (XB.run_index rfl rfl rfl (hbi _)) ?_) | ((with_reducible refine gate_dst (N := 8) rfl ?_); refine box_event ?hg (N := 8) ?hd (cs := #[.int .i32 0, .int .i32 0]) (t := 41) ?hr ?_; (case hd => rfl); (case hg => rfl); (case hr => first | (go_simp; done) | (go_simp; rfl)); intro gb368 hg w20 hbox hb; have n0_ := Aside0.mk (Kd.R_below (Kd.R_elderB (by (with_reducible repeat (first | apply Kd.R_alloc | apply Kd.R_drewN | apply Kd.R_drew)); exact HO_4.out) gb368 (Nat.le_of_eq hg.symm)) hb); have n1_ := Aside0.mk (blk_below (g := gb367) (o := .cells #[.int .i32 ((rd_T41 l0 x13_1).f0), .int .i32 ((rd_T41 l0 x13_1).f1)] 41 (0, 0)) (by (with_reducible repeat (first | refine blk_drewN ?_ _ | refine blk_drew ?_ | refine blk_alloc ?_ _)); exact BK367.out) hb); have n2_ := Aside0.mk (below_step (by repeat (first | (with_reducible first | exact HB.out | apply below_alloc | apply pw_below_drewN | apply below_drew1 | refine below_set ?_ GE367.out) | exact HB.out)) hb); have n3_ := Aside0.mk (hbox); have n4_ := Aside0.mk ((by rw [hg]; exact (below_size (by repeat (first | (with_reducible first | exact HB.out | apply below_alloc | apply pw_below_drewN | apply below_drew1 | refine below_set ?_ GE367.out) | exact HB.out))) : w.heap.size ≤ gb368)); have n5_ := Aside0.mk ((by rw [hg]; exact (below_size (by repeat (first | (with_reducible first | exact HB.out | apply below_alloc | apply pw_below_drewN | apply below_drew1 | refine below_set ?_ GE367.out) | exact HB.out))) : w.heap.size ≤ gb368)); have n6_ := Aside0.mk ((by rw [hg]; exact Nat.ne_of_lt (blk_lt (g := gb367) (o := .cells #[.int .i32 ((rd_T41 l0 x13_1).f0), .int .i32 ((rd_T41 l0 x13_1).f1)] 41 (0, 0)) (by (with_reducible repeat (first | refine blk_drewN ?_ _ | refine blk_drew ?_ | refine blk_alloc ?_ _)); exact BK367.out)) : gb367 ≠ gb368)); have n7_ := Aside0.mk ((by rw [hg]; exact Nat.ne_of_gt (blk_lt (g := gb367) (o := .cells #[.int .i32 ((rd_T41 l0 x13_1).f0), .int .i32 ((rd_T41 l0 x13_1).f1)] 41 (0, 0)) (by (with_reducible repeat (first | refine blk_drewN ?_ _ | refine blk_drew ?_ | refine blk_alloc ?_ _)); exact BK367.out)) : gb368 ≠ gb367)); clear HO_4; clear BK367; clear HB; have HO_4 := n0_; have BK367 := n1_; have HB := n2_; have BK368 := n3_; have GW368 := n4_; have GE368 := n5_; have NB367_368 := n6_; have NB368_367 := n7_; clear n0_ n1_ n2_ n3_ n4_ n5_ n6_ n7_; clear hb hbox hg; have hnb21 := NB368_367.out; have hnc21 := NB367_368.out; have hcz22_0 : w20.cell? ⟨gb368, 0, none⟩ = some (.int .i32 0) := (blk_cell BK368.out 0).trans rfl; have hcz22_1 : w20.cell? ⟨gb368, 1, none⟩ = some (.int .i32 0) := (blk_cell BK368.out 1).trans rfl; have hfz22_0 := blk_frozen BK368.out 0; have hfz22_1 := blk_frozen BK368.out 1; have hcz23_0 : w20.cell? ⟨gb367, 0, none⟩ = some (.int .i32 ((rd_T41 l0 x13_1).f0)) := (blk_cell BK367.out 0).trans rfl; have hcz23_1 : w20.cell? ⟨gb367, 1, none⟩ = some (.int .i32 ((rd_T41 l0 x13_1).f1)) := (blk_cell BK367.out 1).trans rfl; have hfz23_0 := blk_frozen BK367.out 0; have hfz23_1 := blk_frozen BK367.out 1)))
                        go_roundg k2
                        case measure => have := HK1.out; have := HK2.out; omega
                        case rel => exact ⟨(x4_2), (wrap64 (x23_2 + 1)), (by first | rfl | (simp; done) | (simp [*]; done)), H', ⟨by have := HK1.out; have := HK2.out; omega⟩, ⟨by (with_reducible repeat (first | apply Kd.R_alloc | apply Kd.R_drewN | apply Kd.R_drew)); exact Kd.R_mono (Kd.R_far (p := ⟨gb368, 1, none⟩) (Kd.R_far (p := ⟨gb368, 0, none⟩) (Kd.R_mono HO_4.out (fun k_ hk => (⟨hk, hk.2⟩ : _ ∧ k_ ≠ gb368))) (fun _ hk => hk.2) (.int .i32 (XB.bLo x23_2))) (fun _ hk => hk.2) (.int .i32 (XB.bHi x23_2))) (fun _ hk => hk.1.1)⟩, ⟨by (with_reducible repeat (first | refine blk_drewN ?_ _ | refine blk_drew ?_ | refine blk_alloc ?_ _)); refine blk_far ?_ NB367_368.out _; (with_reducible repeat (first | refine blk_drewN ?_ _ | refine blk_drew ?_ | refine blk_alloc ?_ _)); refine blk_far ?_ NB367_368.out _; (with_reducible repeat (first | refine blk_drewN ?_ _ | refine blk_drew ?_ | refine blk_alloc ?_ _)); exact BK367.out⟩, ⟨by repeat (first | (with_reducible first | exact HB.out | apply below_alloc | apply pw_below_drewN | apply below_drew1 | refine below_set ?_ GE367.out | refine below_set ?_ GE368.out) | exact HB.out)⟩⟩
                    · rw [if_neg c10z] at H
                      exact absurd H (by simp)
                  · rw [if_neg c10] at H
                    have c10b0 : decide (x23_2 < 3) = false := decide_eq_false c10
                    clear c10
                    have H' := Aside0.mk H
                    clear H
                    go_wp2
                    repeat (go_quiet (fail); try go_wp2)
                    go_roundg k2
                    case measure => have := HK1.out; have := HK2.out; omega
                    case rel => exact ⟨(x4_2), (wrap64 (x13_1 + 1)), (by first | rfl | (simp; done) | (simp [*]; done)), H', ⟨by have := HK1.out; have := HK2.out; omega⟩, ⟨by (with_reducible repeat (first | apply Kd.R_alloc | apply Kd.R_drewN | apply Kd.R_drew)); exact Kd.R_mono HO_4.out (fun _ hk => trivial)⟩, ⟨by repeat (first | (with_reducible first | exact HB.out | apply below_alloc | apply pw_below_drewN | apply below_drew1 | refine below_set ?_ GE367.out) | exact HB.out)⟩⟩
          · rw [if_neg c4] at H
            exact absurd H (by simp)
        · rw [if_neg c3] at H
          exact absurd H (by simp)
      · rw [if_neg c2] at H
        have c2b0 : decide (x13_1 < (l0.length : Int)) = false := decide_eq_false c2
        clear c2
        replace H := Option.bind_eq_some_iff.mp H
        obtain ⟨t363, A240, H⟩ := H
        replace H : (some (t363, 0)) = some (r1, r2) := H
        have A24 := Aside0.mk A240
        clear A240
        simp only [Option.some.injEq, Prod.mk.injEq] at H
        obtain ⟨rfl, rfl⟩ := H
        obtain ⟨Ao25, co25, eo25⟩ := Kd.R_slice HO_4.out
        subst eo25
        go_wp2_with (first | (go_at_call 32; (with_reducible refine (sets_gather.calls k1 (fun k_ => some k_ = (.slice Ao25 x4_1.length co25 : Value).ownBlock) (.slice Ao25 x4_1.length co25) x4_1 t363 w _ ?side1 ?side2 A24.out).mono ?_); (case side1 => repeat (first | (with_reducible first | exact HB.out | apply below_alloc | apply pw_below_drewN | apply below_drew1) | exact HB.out)); (case side2 => exact Kd.R_tight rfl HO_4.out); rintro e w26 ⟨v364, rfl, ho0, hb, hkp⟩; have n0_ := Aside0.mk (Kd.R_mono (ok' := fun k_ => True) ho0 (fun k_ hk_ => trivial)); have n1_ := Aside0.mk (hb); clear HB; clear HO_4; have HO365 := n0_; have HB := n1_; clear n0_ n1_; (try clear hb); (try clear hkp); (try clear ho0)))
        repeat (go_quiet (first | (go_at_call 32; (with_reducible refine (sets_gather.calls k1 (fun k_ => some k_ = (.slice Ao25 x4_1.length co25 : Value).ownBlock) (.slice Ao25 x4_1.length co25) x4_1 t363 w _ ?side1 ?side2 A24.out).mono ?_); (case side1 => repeat (first | (with_reducible first | exact HB.out | apply below_alloc | apply pw_below_drewN | apply below_drew1) | exact HB.out)); (case side2 => exact Kd.R_tight rfl HO_4.out); rintro e w26 ⟨v364, rfl, ho0, hb, hkp⟩; have n0_ := Aside0.mk (Kd.R_mono (ok' := fun k_ => True) ho0 (fun k_ hk_ => trivial)); have n1_ := Aside0.mk (hb); clear HB; clear HO_4; have HO365 := n0_; have HB := n1_; clear n0_ n1_; (try clear hb); (try clear hkp); (try clear ho0))); try go_wp2_with (first | (go_at_call 32; (with_reducible refine (sets_gather.calls k1 (fun k_ => some k_ = (.slice Ao25 x4_1.length co25 : Value).ownBlock) (.slice Ao25 x4_1.length co25) x4_1 t363 w _ ?side1 ?side2 A24.out).mono ?_); (case side1 => repeat (first | (with_reducible first | exact HB.out | apply below_alloc | apply pw_below_drewN | apply below_drew1) | exact HB.out)); (case side2 => exact Kd.R_tight rfl HO_4.out); rintro e w26 ⟨v364, rfl, ho0, hb, hkp⟩; have n0_ := Aside0.mk (Kd.R_mono (ok' := fun k_ => True) ho0 (fun k_ hk_ => trivial)); have n1_ := Aside0.mk (hb); clear HB; clear HO_4; have HO365 := n0_; have HB := n1_; clear n0_ n1_; (try clear hb); (try clear hkp); (try clear ho0))))
        go_ret2
        exact ⟨_, by first | rfl | (simp [errW_none, errW_some] <;> rfl) | (simp [*, errW_none, errW_some] <;> rfl), by (with_reducible repeat (first | apply Kd.R_alloc | apply Kd.R_drewN | apply Kd.R_drew)); exact HO365.out, by repeat (first | (with_reducible first | exact HB.out | apply below_alloc | apply pw_below_drewN | apply below_drew1) | exact HB.out)⟩

/-! ### fold_Close: function 7 -/
namespace FC
abbrev RgC := S41
open XLib
def fcEnc (l : List RgC) : List Value := l.flatMap SortLo.encR
theorem fcEnc_len (l : List RgC) : (fcEnc l).length = l.length * 2 := by
  induction l with
  | nil => rfl
  | cons x l ih => unfold fcEnc at *; rw [List.flatMap_cons, List.length_append, ih, SortLo.encR_len, List.length_cons]; omega
theorem fcEnc_at : ∀ (l : List RgC) (j : Nat) (p : RgC), l[j]? = some p → ((fcEnc l).drop (j * 2)).take 2 = SortLo.encR p
  | [], j, p, h => by simp at h
  | x :: l, 0, p, h => by
    obtain rfl : x = p := by simpa using h
    rfl
  | x :: l, j + 1, p, h => by
    have ih := fcEnc_at l j p (by simpa using h)
    rw [← ih]
    unfold fcEnc
    rw [List.flatMap_cons, show (j + 1) * 2 = 2 + j * 2 by omega, ← List.drop_drop]
    rfl
theorem fcR_of_own {w : World} {base : Nat} {v : Value} {l : List RgC} (h : w.ownsRow base 41 2 v l.length (fcEnc l)) : Kd.R k41 41 w base (fun _ => True) v l :=
  ⟨fun _ _ => trivial, fcEnc l, h, fcEnc_len l, fun j p hj => by rw [show k41.sz = 2 from rfl, fcEnc_at l j p hj]; exact k41_mkM _ _ _ p⟩
theorem fcOwn_of_R {w : World} {base : Nat} {ok : Nat → Prop} {v : Value} {l : List RgC} (h : Kd.R k41 41 w base ok v l) : w.ownsRow base 41 2 v l.length (fcEnc l) := by
  obtain ⟨_, inner, ho, hr⟩ := h
  rw [show k41.sz = 2 from rfl] at ho hr
  have e1 := SortLo.cells_of_reps hr
  have hr2 : Reps (k41.M w base (fun _ => True)) 2 l (fcEnc l) := ⟨fcEnc_len l, fun j p hj => by rw [fcEnc_at l j p hj]; exact k41_mkM _ _ _ p⟩
  have e2 := SortLo.cells_of_reps hr2
  rw [← e2, e1]
  exact ho
def sg (u : Int) : RgC := ⟨u, u⟩
/-- one number is added with its orbit -/
def addF (k : Nat) (set : List RgC) (u : Int) (acc : List RgC) : Option (List RgC) :=
  (sets_Has.f k set u).bind fun q => if q.1 = true then (fold_Orbit.f k u).bind fun o => if acc.length + o.length < 8796093022208 then some (acc ++ o.map sg) else none else some acc
def closeGo (k : Nat) (set : List RgC) : List Int → List RgC → Option (List RgC)
  | [], acc => some acc
  | u :: us, acc => (addF k set u acc).bind fun a => closeGo k set us a
def numsF : Nat → Int → Int → Int → Int → List Int
  | 0, _, _, _, _ => []
  | f + 1, n, hi, st, far => if n ≤ hi then n :: (n + far) :: numsF f (n + st) hi st far else []
def unitsR (r : FRule) : List Int := numsF 200 r.lo r.hi r.st r.far
def unitsFrom (i : Nat) : List Int := (ruleL.drop i).flatMap unitsR
theorem addF_mono (k : Nat) (set : List RgC) (u : Int) (acc : List RgC) : LeO (addF k set u acc) (addF (k + 1) set u acc) := by
  unfold addF
  refine LeO.bind (sets_Has.mono _ _ k) (fun q => ?_)
  split
  · exact LeO.bind (fold_Orbit.mono _ k) (fun o => LeO.refl _)
  · exact LeO.refl _
theorem closeGo_mono (k : Nat) (set : List RgC) : ∀ (us : List Int) (acc : List RgC), LeO (closeGo k set us acc) (closeGo (k + 1) set us acc)
  | [], _ => LeO.refl _
  | u :: us, acc => by
    rw [closeGo, closeGo]
    exact LeO.bind (addF_mono k set u acc) (fun a => closeGo_mono k set us a)
structure St (w0 w : World) (bs ba : Nat) (A0 : Option Addr) (c0 : Nat) (set : List RgC) (v : Value) (acc : List RgC) : Prop where
  base : Below w0.heap.size w0 w
  set_ : w.heap[bs]? = some (.cells #[.slice A0 set.length c0] 24 (0, 0))
  all_ : w.heap[ba]? = some (.cells #[v] 24 (0, 0))
  row : w.ownsRow w0.heap.size 41 2 v acc.length (fcEnc acc)
  los : w0.heap.size ≤ bs
  loa : w0.heap.size ≤ ba
  neq : bs ≠ ba
  nes : some bs ≠ v.ownBlock
  nea : some ba ≠ v.ownBlock
theorem fcForm {w : World} {B e size n : Nat} {v : Value} {X : List Value} (h : w.ownsRow B e size v n X) : ∃ A c, v = .slice A n c := by
  rcases own_cases h with ⟨hv, hn⟩ | ⟨g, cap, hv, _⟩
  · exact ⟨none, 0, by rw [hv, hn]⟩
  · exact ⟨_, _, hv⟩
theorem fcBlt {w : World} {g : Nat} {o : Obj} (h : w.heap[g]? = some o) : g < w.heap.size := (Array.getElem?_eq_some_iff.1 h).1
theorem St.below {w0 w w1 : World} {bs ba : Nat} {A0 : Option Addr} {c0 : Nat} {set : List RgC} {v : Value} {acc : List RgC} (h : St w0 w bs ba A0 c0 set v acc) (hb : Below w.heap.size w w1) : St w0 w1 bs ba A0 c0 set v acc :=
  ⟨below_step h.base hb, (hb.block bs (fcBlt h.set_)).trans h.set_, (hb.block ba (fcBlt h.all_)).trans h.all_, own_move h.row (fun k hk => hb.block k (h.row.lt k hk).2), h.los, h.loa, h.neq, h.nes, h.nea⟩
theorem St.push {w0 w w1 : World} {bs ba : Nat} {A0 : Option Addr} {c0 : Nat} {set : List RgC} {v v1 : Value} {acc : List RgC} {x : RgC} (h : St w0 w bs ba A0 c0 set v acc)
    (ho : w1.ownsRow w0.heap.size 41 2 v1 (acc.length + 1) (fcEnc acc ++ SortLo.encR x)) (hg : w.grownBy w1 v.ownBlock) (hat : v1.ownBlock = v.ownBlock ∨ ∃ b, v1.ownBlock = some b ∧ w.heap.size ≤ b) :
    St w0 (w1.setCell ⟨ba, 0, none⟩ v1) bs ba A0 c0 set v1 (acc ++ [x]) := by
  have hs1 := (hg.block bs (fcBlt h.set_) h.nes).trans h.set_
  have ha1 := (hg.block ba (fcBlt h.all_) h.nea).trans h.all_
  have hlo : ∀ k, v.ownBlock = some k → w0.heap.size ≤ k := fun k hk => (h.row.lt k hk).1
  have hnes : some bs ≠ v1.ownBlock := by
    rcases hat with e | ⟨b, e, hb⟩
    · rw [e]; exact h.nes
    · rw [e]; intro e2; injection e2 with e2; have := fcBlt h.set_; omega
  have hnea : some ba ≠ v1.ownBlock := by
    rcases hat with e | ⟨b, e, hb⟩
    · rw [e]; exact h.nea
    · rw [e]; intro e2; injection e2 with e2; have := fcBlt h.all_; omega
  refine ⟨?_, ?_, ?_, ?_, h.los, h.loa, h.neq, hnes, hnea⟩
  · refine ⟨hg.os.trans h.base.os, hg.tape.trans h.base.tape, hg.output.trans h.base.output, ?_, fun k hk => ?_⟩
    · rw [show (w1.setCell ⟨ba, 0, none⟩ v1).heap.size = w1.heap.size by simp [World.setCell]]
      exact Nat.le_trans h.base.size hg.size
    · rw [Below.heap_setCell w1 ⟨ba, 0, none⟩ v1 k (by have := h.loa; show k ≠ ba; omega), hg.block k (Nat.lt_of_lt_of_le hk h.base.size) (fun e => by have := hlo k e.symm; omega)]
      exact h.base.block k hk
  · rw [Below.heap_setCell w1 ⟨ba, 0, none⟩ v1 bs h.neq]; exact hs1
  · exact set_cell ha1 0 v1
  · rw [List.length_append, List.length_singleton, show fcEnc (acc ++ [x]) = fcEnc acc ++ SortLo.encR x by unfold fcEnc; rw [List.flatMap_append]; simp]
    exact own_move ho (fun k hk => Below.heap_setCell w1 ⟨ba, 0, none⟩ v1 k (fun e => hnea (by rw [hk]; exact congrArg some (show ba = k from e.symm))))
/-- all old blocks but the variable's and its row's stand -/
structure Far (w w1 : World) (ba : Nat) (v v1 : Value) : Prop where
  size : w.heap.size ≤ w1.heap.size
  blk : ∀ q, q < w.heap.size → q ≠ ba → some q ≠ v.ownBlock → w1.heap[q]? = w.heap[q]?
  own : v1.ownBlock = v.ownBlock ∨ ∃ b, v1.ownBlock = some b ∧ w.heap.size ≤ b
theorem Far.of_below {w w1 : World} {ba : Nat} {v : Value} (h : Below w.heap.size w w1) : Far w w1 ba v v := ⟨h.size, fun q hq _ _ => h.block q hq, .inl rfl⟩
theorem Far.trans {w w1 w2 : World} {ba : Nat} {v v1 v2 : Value} (h : Far w w1 ba v v1) (g : Far w1 w2 ba v1 v2) : Far w w2 ba v v2 := by
  refine ⟨Nat.le_trans h.size g.size, fun q hq h1 h2 => (g.blk q (Nat.lt_of_lt_of_le hq h.size) h1 ?_).trans (h.blk q hq h1 h2), ?_⟩
  · rcases h.own with e | ⟨b, e, hb⟩
    · rw [e]; exact h2
    · rw [e]; intro e2; injection e2 with e2; omega
  · rcases g.own with e | ⟨b, e, hb⟩
    · rw [e]; exact h.own
    · exact .inr ⟨b, e, Nat.le_trans h.size hb⟩
theorem Far.push {w w1 : World} {ba : Nat} {v v1 : Value} (hg : w.grownBy w1 v.ownBlock) (hat : v1.ownBlock = v.ownBlock ∨ ∃ b, v1.ownBlock = some b ∧ w.heap.size ≤ b) : Far w (w1.setCell ⟨ba, 0, none⟩ v1) ba v v1 :=
  ⟨by rw [show (w1.setCell ⟨ba, 0, none⟩ v1).heap.size = w1.heap.size by simp [World.setCell]]; exact hg.size, fun q hq h1 h2 => (Below.heap_setCell w1 ⟨ba, 0, none⟩ v1 q h1).trans (hg.block q hq h2), hat⟩
set_option maxHeartbeats 4000000 in
set_option maxRecDepth 100000 in
theorem add_k (k : Nat) (u : Int) (w0 w : World) (bs ba : Nat) (A0 : Option Addr) (c0 : Nat) (set : List RgC) (v : Value) (acc r : List RgC) (hS : St w0 w bs ba A0 c0 set v acc) (hC : Kd.C k41 w0 A0 set.length set) (hc0 : set.length ≤ c0) (h : addF k set u acc = some r) (hG : GOK w0) :
    Calls Tryd.prog 23 #[.int .i32 u, .pointer (some ⟨bs, 0, none⟩), .pointer (some ⟨ba, 0, none⟩)] w fun e w' => e = .returned (.tuple #[]) ∧ ∃ v', St w0 w' bs ba A0 c0 set v' r ∧ Far w w' ba v v' := by
  unfold addF at h
  obtain ⟨⟨b, e2⟩, hh, h⟩ := Option.bind_eq_some_iff.1 h
  have HS := Aside0.mk hS
  have HG_ := Aside0.mk (hG.below hS.base)
  have hcs : w.cell? ⟨bs, 0, none⟩ = some (.slice A0 set.length c0) := by rw [cell_of_row w bs 0 _ _ (0, 0) hS.set_]; rfl
  have HCA := Aside0.mk (sets_Has.calls k A0 c0 set u b e2 w (Kd.C_below hC hS.base) hc0 hh HG_.out)
  simp only at h
  clear hS hC hc0 hh hG
  cases b with
  | false =>
    rw [if_neg (by simp)] at h
    injection h with h
    subst h
    go_enter Tryd.func23, Tryd.ntmps23
    go_wp2_with fail
    refine HCA.out.mono ?_
    rintro e w1 ⟨rfl, hb⟩
    have HS1 := Aside0.mk (HS.out.below hb)
    have HF1 := Aside0.mk (Far.of_below (ba := ba) (v := v) hb)
    clear hb
    go_wp2_with fail
    go_end0
    exact ⟨rfl, v, HS1.out, HF1.out⟩
  | true =>
    rw [if_pos rfl] at h
    obtain ⟨o, ho, h⟩ := Option.bind_eq_some_iff.1 h
    split at h
    case isFalse => cases h
    case isTrue hlim =>
    injection h with h
    have HO := Aside0.mk ho
    have HLM := Aside0.mk hlim
    have HR := Aside0.mk h
    clear h ho hlim
    go_enter Tryd.func23, Tryd.ntmps23
    go_wp2_with fail
    refine HCA.out.mono ?_
    rintro e w1 ⟨rfl, hb⟩
    have HS1 := Aside0.mk (HS.out.below hb)
    have HF1 := Aside0.mk (Far.of_below (ba := ba) (v := v) hb)
    have HG1 := Aside0.mk (HG_.out.below hb)
    clear hb HS
    go_wp2_with fail
    refine (fold_Orbit.calls k u o w1 HO.out).mono ?_
    rintro e w2 ⟨vo, rfl, hr, hb⟩
    obtain ⟨Ao, co, rfl⟩ := Kd.R_slice hr
    have HS2 := Aside0.mk (HS1.out.below hb)
    have HOR : Aside0 (Kd.R (Kd.int .i32) 21 w2 w1.heap.size (fun q => some q ≠ v.ownBlock ∧ q ≠ ba) (.slice Ao o.length co) o) := ⟨Kd.R_mono (Kd.R_bound hr) (fun q hq => ⟨fun e => by have := (HS1.out.row.lt q e.symm).2; have := hq.2.1; omega, fun e => by subst e; have := fcBlt HS1.out.all_; have := hq.2.1; omega⟩)⟩
    have HF2 := Aside0.mk (HF1.out.trans (Far.of_below hb))
    clear hr hb HS1 HG1 HF1
    obtain ⟨va, hva⟩ : ∃ va, va = v := ⟨_, rfl⟩
    rw [← hva] at HF2
    have HVA := Aside0.mk hva
    clear hva
    have HF2 : Aside0 (Far w w2 ba va v) := ⟨by rw [HVA.out] at HF2 ⊢; exact HF2.out⟩
    go_wp2_with fail
    go_loopw [18] (fun v18 wr => ∃ (i : Nat) (v : Value), i ≤ o.length ∧ v18 = .int .i64 (i : Int) ∧ Aside0 (St w0 wr bs ba A0 c0 set v (acc ++ (o.take i).map sg)) ∧ Aside0 (Kd.R (Kd.int .i32) 21 wr w1.heap.size (fun q => some q ≠ v.ownBlock ∧ q ≠ ba) (.slice Ao o.length co) o) ∧ Aside0 (Far w wr ba va v)) (fun v18 _ => o.length - (intOf v18).toNat)
    case atStart => exact ⟨0, v, Nat.zero_le _, rfl, ⟨by simpa using HS2.out⟩, HOR, HF2⟩
    case round =>
      clear HS2 HOR HF2
      obtain ⟨i, v, hi, rfl, HS, HOR, HF⟩ := hrel
      by_cases hl : i < o.length
      · have hl' : (i : Int) < (o.length : Int) := by omega
        have hi0 : (0 : Int) ≤ (i : Int) := by omega
        obtain ⟨g, cap, e, _, _, _⟩ := Kd.R_form HOR.out (by omega)
        injection e with ea _ ec
        subst ea ec
        have hce := Kd.R_cell (0 : Int) HOR.out (i : Int) hi0 hl'
        rw [Int.toNat_natCast] at hce
        obtain ⟨hx, _⟩ := hce
        have hxo : rdOf (0 : Int) o (i : Int) = o[i] := by unfold rdOf; rw [Int.toNat_natCast, List.getD_eq_getElem?_getD, List.getElem?_eq_getElem hl]; rfl
        rw [hxo] at hx
        have HTK : Aside0 (acc ++ (o.take (i + 1)).map sg = (acc ++ (o.take i).map sg) ++ [sg o[i]]) := ⟨by rw [List.take_succ_eq_append_getElem hl, List.map_append, List.append_assoc]; rfl⟩
        have HAL : Aside0 ((acc ++ (o.take i).map sg).length < 8796093022208) := ⟨by rw [List.length_append, List.length_map, List.length_take]; have := HLM.out; omega⟩
        have HL := Aside0.mk hl
        generalize o[i] = y at hx HTK
        generalize acc ++ (o.take i).map sg = a2 at HS HTK HAL
        have hca : wr.cell? ⟨ba, 0, none⟩ = some v := by rw [cell_of_row wr ba 0 _ _ (0, 0) HS.out.all_]; rfl
        obtain ⟨A7, c7, hv7⟩ : ∃ A c, v = .slice A a2.length c := by
          rcases own_cases HS.out.row with ⟨hv, hn⟩ | ⟨g, cap, hv, _⟩
          · exact ⟨none, 0, by rw [hv, hn]⟩
          · exact ⟨_, _, hv⟩
        subst hv7
        have hba := below_alloc (Below.refl wr.heap.size wr) (.cells #[.int .i32 y, .int .i32 y] 41)
        have HSa := Aside0.mk (HS.out.below hba)
        have HORa := Aside0.mk (Kd.R_below HOR.out hba)
        have HFa := Aside0.mk (HF.out.trans (Far.of_below hba))
        have HCC : Aside0 (∀ j z, (SortLo.encR (sg y))[j]? = some z → (wr.alloc (.cells #[.int .i32 y, .int .i32 y] 41)).cell? ((⟨wr.heap.size, 0, none⟩ : Addr).add j) = some z) := ⟨fun j z hj => by
          rw [Addr.add_lit, Nat.zero_add, cell_of_row _ wr.heap.size j _ 41 (0, 0) (blk_new wr _)]
          simpa [SortLo.encR, sg] using hj⟩
        clear hi hl hxo hba HS HOR HF
        go_wp2_with ((with_reducible refine gate_builtin (b := .append) (xs := #[.tmp 22, .tmp 26]) rfl ?_); at_builtin; refine XLib.wpList_push (wr.alloc (.cells #[.int .i32 y, .int .i32 y] 41)) rfl (.tmp 22) (.tmp 26) 24 rfl w0.heap.size 41 (.agg #[.int .i32 0, .int .i32 0]) 2 8 Tryd.underlying24 (by kernel_rfl) rfl (by decide) (.slice A7 a2.length c7) a2.length (fcEnc a2) rfl HSa.out.row HSa.out.base.size ⟨wr.heap.size, 0, none⟩ 1 (SortLo.encR (sg y)) rfl rfl HCC.out (SortLo.encR_one _) (by have := HAL.out; simp only [maxLen]; omega) (by have := HAL.out; omega) ?_; intro v9 w9 ho9 hg9 hp9 ha9; obtain ⟨A9, c9, rfl⟩ := fcForm ho9; have HO9 := Aside0.mk ho9; have HG9 := Aside0.mk hg9; have HA9 := Aside0.mk ha9; have hcb : w9.cell? ⟨ba, 0, none⟩ = some (.slice A7 a2.length c7) := (by rw [cell_of_row w9 ba 0 _ _ (0, 0) ((hg9.block ba (fcBlt HSa.out.all_) HSa.out.nea).trans HSa.out.all_)]; rfl); have hfb : w9.frozen? ⟨ba, 0, none⟩ = false := blk_frozen ((hg9.block ba (fcBlt HSa.out.all_) HSa.out.nea).trans HSa.out.all_) 0; clear ho9 hg9 hp9 ha9)
        have hl2 := HL.out
        have hol : o.length < 8796093022208 := by have := HLM.out; omega
        have hw : wrap64 ((i : Int) + 1) = ((i + 1 : Nat) : Int) := by unfold wrap64; omega
        first | rw [hw] | rw [show (i : Int) + 1 = ((i + 1 : Nat) : Int) by omega]
        refine ⟨⟨i + 1, _, by omega, rfl, ⟨by rw [HTK.out]; exact HSa.out.push HO9.out HG9.out HA9.out⟩, ⟨?_⟩, ⟨HFa.out.trans (Far.push HG9.out HA9.out)⟩⟩, by simp only [intOf]; omega⟩
        have h1 := Kd.R_step (w1 := w9.setCell ⟨ba, 0, none⟩ (.slice A9 (a2.length + 1) c9)) HORa.out (fun q hq hlt => by
          rw [Below.heap_setCell w9 ⟨ba, 0, none⟩ _ q hq.2]
          exact HG9.out.block q hlt hq.1)
        have h2 := Kd.R_bound HORa.out
        refine ⟨fun q hq => ?_, ?_⟩
        · obtain ⟨h3, _, h4, _⟩ := h2.1 q hq
          refine ⟨?_, h3.2⟩
          rcases HA9.out with e | ⟨b, e, hb⟩
          · rw [e]; exact h3.1
          · rw [e]; intro e2; injection e2 with e2; omega
        · obtain ⟨_, inner, h5, h6⟩ := h1
          exact ⟨inner, h5, h6.imp_ (fun _ _ hp => hp)⟩
      · obtain rfl : i = o.length := by omega
        have hl' : ¬ ((o.length : Int) < (o.length : Int)) := by omega
        clear hl hi
        go_wp2_with fail
        go_end0
        refine ⟨rfl, v, ?_, by rw [← HVA.out]; exact HF.out⟩
        rw [← HR.out]
        have := HS.out
        rwa [List.take_length] at this
def ruleOk (r : FRule) : Bool := decide (0 < r.st) && (decide (0 ≤ r.lo) && (decide (r.hi ≤ 70000) && (decide (r.hi - r.lo + 1 ≤ 200) && (decide (r.st ≤ 2) && (decide (0 ≤ r.far) && (decide (r.far ≤ 10000) && decide (r.lo ≤ 70000)))))))
theorem rules_ok : ruleL.all ruleOk = true := by kernel_rfl
theorem rule_at (i : Nat) (h : i < 22) : 0 < (ruleL.getD i ⟨0, 0, 0, 0⟩).st ∧ 0 ≤ (ruleL.getD i ⟨0, 0, 0, 0⟩).lo ∧ (ruleL.getD i ⟨0, 0, 0, 0⟩).hi ≤ 70000 ∧ (ruleL.getD i ⟨0, 0, 0, 0⟩).hi - (ruleL.getD i ⟨0, 0, 0, 0⟩).lo + 1 ≤ 200 ∧ (ruleL.getD i ⟨0, 0, 0, 0⟩).st ≤ 2 ∧ 0 ≤ (ruleL.getD i ⟨0, 0, 0, 0⟩).far ∧ (ruleL.getD i ⟨0, 0, 0, 0⟩).far ≤ 10000 ∧ (ruleL.getD i ⟨0, 0, 0, 0⟩).lo ≤ 70000 := by
  have hl : ruleL.length = 22 := rfl
  have h1 := List.all_eq_true.mp rules_ok (ruleL.getD i ⟨0, 0, 0, 0⟩) (by
    rw [List.getD_eq_getElem?_getD, List.getElem?_eq_getElem (by omega)]
    exact List.getElem_mem _)
  unfold ruleOk at h1
  simpa using h1
theorem units_step (i : Nat) (h : i < 22) : unitsFrom i = unitsR (ruleL.getD i ⟨0, 0, 0, 0⟩) ++ unitsFrom (i + 1) := by
  have hl : ruleL.length = 22 := rfl
  unfold unitsFrom
  rw [List.drop_eq_getElem_cons (by omega), List.flatMap_cons, List.getD_eq_getElem?_getD, List.getElem?_eq_getElem (by omega)]
  rfl
theorem units_end : unitsFrom 22 = [] := rfl
theorem numsF_end (f : Nat) (n hi st far : Int) (h : hi < n) : numsF f n hi st far = [] := by
  cases f with
  | zero => rfl
  | succ f => rw [numsF, if_neg (by omega)]
end FC
def fold_Close.f (k : Nat) (l0 : List S41) : Option (List S41 × Int) :=
  (sets_Check.f k l0).bind fun e => if e = 0 then (slices_Clone_Range.f l0).bind fun c => (FC.closeGo k l0 (FC.unitsFrom 0) c).bind fun a => sets_Make.f k a else some ([], e)
theorem fold_Close.mono : ∀ a0 k, LeO (fold_Close.f k a0) (fold_Close.f (k + 1) a0) := by
  intro a0 k
  unfold fold_Close.f
  refine LeO.bind (sets_Check.mono _ k) (fun e => ?_)
  split
  · exact LeO.bind (LeO.refl _) (fun c => LeO.bind (FC.closeGo_mono k a0 _ c) (fun a => sets_Make.mono _ k))
  · exact LeO.refl _
set_option maxHeartbeats 8000000 in
set_option maxRecDepth 100000 in
theorem fold_Close.calls (k : Nat) (A0 : Option Addr) (c0 : Nat) (l0 : List S41) (r1 : List S41) (r2 : Int) (w : World) (hr0 : Kd.C k41 w A0 l0.length l0) (hc0 : l0.length ≤ c0) (h : fold_Close.f k l0 = some (r1, r2)) (hG : GOK w := by first | (with_reducible exact HG_.out) | exact GOK.below HG_.out (by repeat (first | (with_reducible exact Below.refl _ _) | (with_reducible first | exact HB.out | apply below_alloc | apply pw_below_drewN | apply below_drew1 | refine below_set ?_ (Aside0.out (by assumption))) | exact HB.out)) | exact GOK.drewN HG_.out _ | exact GOK.drewN (GOK.drewN HG_.out _) _ | exact GOK.drew HG_.out) :
    Calls Tryd.prog 7 #[.slice A0 l0.length c0] w fun e w' => ∃ v0_ : Value, e = .returned (.tuple #[v0_, .int .i64 r2]) ∧ Kd.R k41 41 w' w.heap.size (fun _ => True) v0_ r1 ∧ Below w.heap.size w w' := by
  have HG_ := Aside0.mk hG
  obtain ⟨e1, he1, h⟩ := Option.bind_eq_some_iff.1 h
  have hb0 := below_alloc (Below.refl w.heap.size w) (.cells #[.slice A0 l0.length c0] 24)
  have HB0 := Aside0.mk hb0
  have HBK := Aside0.mk (blk_new w (.cells #[.slice A0 l0.length c0] 24))
  have HC := Aside0.mk hr0
  have HCL := Aside0.mk hc0
  have HCH := Aside0.mk (sets_Check.calls k A0 c0 l0 e1 _ (Kd.C_below hr0 hb0) hc0 he1 (hG.below hb0))
  clear hr0 hc0 hG hb0
  by_cases hz : e1 = 0
  · subst hz
    rw [if_pos rfl] at h
    obtain ⟨c, hcl, h⟩ := Option.bind_eq_some_iff.1 h
    obtain ⟨a, hgo, h⟩ := Option.bind_eq_some_iff.1 h
    have HCC := Aside0.mk hcl
    have HGO := Aside0.mk hgo
    have HM := Aside0.mk h
    clear hcl hgo h he1
    go_enter Tryd.func7, Tryd.ntmps7
    go_wp2_with fail
    refine HCH.out.mono ?_
    rintro e w1 ⟨rfl, hb⟩
    have HB1 := Aside0.mk (below_step HB0.out hb)
    have HBK1 := Aside0.mk (blk_below HBK.out hb)
    clear hb HCH
    have hcs : w1.cell? ⟨w.heap.size, 0, none⟩ = some (.slice A0 l0.length c0) := by rw [cell_of_row w1 w.heap.size 0 _ _ (0, 0) HBK1.out]; rfl
    go_wp2_with fail
    refine (slices_Clone_Range.calls A0 c0 l0 c w1 (Kd.C_below HC.out HB1.out) HCL.out HCC.out).mono ?_
    rintro e w2 ⟨vc, rfl, hr, hb⟩
    obtain ⟨Ac, cc, rfl⟩ := Kd.R_slice hr
    have HB2 := Aside0.mk (below_step HB1.out hb)
    have HBK2 := Aside0.mk (blk_below HBK1.out hb)
    have HOW := Aside0.mk (FC.fcOwn_of_R hr)
    have HSZ := Aside0.mk hb.size
    clear hb hr hcs
    go_wp2_with fail
    refine (fold_rules.calls _).mono ?_
    rintro e w3 ⟨rfl, hb⟩
    have hb3 := (below_alloc (Below.refl w2.heap.size w2) (.cells #[.slice Ac c.length cc] 24)).trans (hb.mono (below_alloc (Below.refl w2.heap.size w2) (.cells #[.slice Ac c.length cc] 24)).size)
    have HS : Aside0 (FC.St w w3 w.heap.size w2.heap.size A0 c0 l0 (.slice Ac c.length cc) c) := ⟨by
      have hlt := FC.fcBlt HBK1.out
      refine ⟨below_step HB2.out hb3, blk_below HBK2.out hb3, blk_below (blk_new w2 _) hb, own_weaken (own_move HOW.out (fun q hq => hb3.block q (HOW.out.lt q hq).2)) (by have := HB1.out.size; omega), Nat.le_refl _, HB2.out.size, ?_, ?_, ?_⟩
      · have := HSZ.out; omega
      · intro e; have := (HOW.out.lt _ e.symm).1; omega
      · intro e; have := (HOW.out.lt _ e.symm).2; omega⟩
    have HW2 : Aside0 (w2.heap.size < w3.heap.size) := ⟨FC.fcBlt HS.out.all_⟩
    clear hb hb3 HOW HSZ HB2 HBK2 HB1 HBK1 HBK HB0
    go_wp2_with fail
    go_loopw [19] (fun v19 wr => ∃ (i : Nat) (v : Value) (acc : List FC.RgC), i ≤ 22 ∧ v19 = .int .i64 (i : Int) ∧ Aside0 (FC.St w wr w.heap.size w2.heap.size A0 c0 l0 v acc) ∧ Aside0 (FC.closeGo k l0 (FC.unitsFrom i) acc = some a)) (fun v19 _ => 22 - (intOf v19).toNat)
    case atStart => exact ⟨0, _, c, Nat.zero_le _, rfl, HS, HGO⟩
    case round =>
      clear HS HGO
      obtain ⟨i, v, acc, hi, rfl, HS, HGO⟩ := hrel
      by_cases hl : i < 22
      · have hl' : (i : Int) < 22 := by omega
        have hidx := rule_index i hl
        have hok := FC.rule_at i hl
        have hun := FC.units_step i hl
        have HL := Aside0.mk hl
        rw [hun] at HGO
        unfold FC.unitsR at HGO
        generalize ruleL.getD i ⟨0, 0, 0, 0⟩ = ru at hidx hok HGO
        obtain ⟨lo, hi2, st, far⟩ := ru
        simp only at hidx hok HGO
        obtain ⟨k1, k2, k3, k4, k5, k6, k7, k8⟩ := hok
        have HBR := Aside0.mk (blk_new wr (.cells #[.int .i32 lo, .int .i32 hi2, .int .i32 st, .int .i32 far] 47))
        have HS1 := Aside0.mk (HS.out.below (below_alloc (Below.refl wr.heap.size wr) (.cells #[.int .i32 lo, .int .i32 hi2, .int .i32 st, .int .i32 far] 47)))
        have HNE : Aside0 (some wr.heap.size ≠ v.ownBlock) := ⟨fun e => by have := (HS.out.row.lt _ e.symm).2; omega⟩
        have HNB : Aside0 (wr.heap.size ≠ w2.heap.size) := ⟨fun e => by have := FC.fcBlt HS.out.all_; omega⟩
        clear hi hl hun HS
        go_wp2_with fail
        obtain ⟨W4, hW4⟩ : ∃ W4 : World, W4 = wr.alloc (.cells #[.int .i32 lo, .int .i32 hi2, .int .i32 st, .int .i32 far] 47) := ⟨_, rfl⟩
        rw [← hW4] at HBR HS1 ⊢
        clear hW4
        generalize wr.heap.size = br at HBR HNE HNB ⊢
        go_loopw [9] (fun v9 wr => ∃ (f : Nat) (n : Int) (v : Value) (acc : List FC.RgC), v9 = .int .i32 n ∧ 0 ≤ n ∧ n ≤ 70002 ∧ Aside0 (hi2 - n + 1 ≤ (f : Int)) ∧ Aside0 (FC.St w wr w.heap.size w2.heap.size A0 c0 l0 v acc) ∧ Aside0 (FC.closeGo k l0 (FC.numsF f n hi2 st far ++ FC.unitsFrom (i + 1)) acc = some a) ∧ Aside0 (wr.heap[br]? = some (.cells #[.int .i32 lo, .int .i32 hi2, .int .i32 st, .int .i32 far] 47 (0, 0))) ∧ Aside0 (some br ≠ v.ownBlock)) (fun v9 _ => (hi2 + 1 - intOf v9).toNat)
        case atStart => exact ⟨200, lo, v, acc, rfl, k2, by omega, ⟨by omega⟩, HS1, HGO, HBR, HNE⟩
        case round =>
          clear HS1 HGO HBR HNE
          obtain ⟨f, n, v, acc, rfl, n0, n1, HFU, HS, HGO, HBR, HNE⟩ := hrel
          have q0 : wr.cell? ⟨br, 0, none⟩ = some (.int .i32 lo) := by rw [cell_of_row wr br 0 _ _ (0, 0) HBR.out]; rfl
          have q1 : wr.cell? ⟨br, 1, none⟩ = some (.int .i32 hi2) := by rw [cell_of_row wr br 1 _ _ (0, 0) HBR.out]; rfl
          have q2 : wr.cell? ⟨br, 2, none⟩ = some (.int .i32 st) := by rw [cell_of_row wr br 2 _ _ (0, 0) HBR.out]; rfl
          have q3 : wr.cell? ⟨br, 3, none⟩ = some (.int .i32 far) := by rw [cell_of_row wr br 3 _ _ (0, 0) HBR.out]; rfl
          by_cases hn : n ≤ hi2
          · obtain ⟨f, rfl⟩ : ∃ g, f = g + 1 := ⟨f - 1, by have := HFU.out; omega⟩
            have hgo := HGO.out
            rw [FC.numsF, if_pos hn, List.cons_append, List.cons_append, FC.closeGo] at hgo
            obtain ⟨a1, hA1, hgo⟩ := Option.bind_eq_some_iff.1 hgo
            rw [FC.closeGo] at hgo
            obtain ⟨a2, hA2, hgo⟩ := Option.bind_eq_some_iff.1 hgo
            have HA1 := Aside0.mk hA1
            have HA2 := Aside0.mk hA2
            have HGO2 := Aside0.mk hgo
            clear hgo hA1 hA2 HGO
            go_wp2_with fail
            refine (FC.add_k k n w wr w.heap.size w2.heap.size A0 c0 l0 v acc a1 HS.out HC.out HCL.out HA1.out HG_.out).mono ?_
            rintro e w5 ⟨rfl, v5, hs5, hf5⟩
            have HS5 := Aside0.mk hs5
            have HNE5 : Aside0 (some br ≠ v5.ownBlock) := ⟨by
              rcases hf5.own with e | ⟨b, e, hb⟩
              · rw [e]; exact HNE.out
              · rw [e]; intro e2; injection e2 with e2; have := FC.fcBlt HBR.out; omega⟩
            have HBR5 := Aside0.mk ((hf5.blk br (FC.fcBlt HBR.out) HNB.out HNE.out).trans HBR.out)
            clear hs5 hf5 HS HBR HNE q0 q1 q2 q3
            have q3 : w5.cell? ⟨br, 3, none⟩ = some (.int .i32 far) := by rw [cell_of_row w5 br 3 _ _ (0, 0) HBR5.out]; rfl
            go_wp2_with fail
            refine (FC.add_k k (n + far) w w5 w.heap.size w2.heap.size A0 c0 l0 v5 a1 a2 HS5.out HC.out HCL.out HA2.out HG_.out).mono ?_
            rintro e w6 ⟨rfl, v6, hs6, hf6⟩
            have HS6 := Aside0.mk hs6
            have HNE6 : Aside0 (some br ≠ v6.ownBlock) := ⟨by
              rcases hf6.own with e | ⟨b, e, hb⟩
              · rw [e]; exact HNE5.out
              · rw [e]; intro e2; injection e2 with e2; have := FC.fcBlt HBR5.out; omega⟩
            have HBR6 := Aside0.mk ((hf6.blk br (FC.fcBlt HBR5.out) HNB.out HNE5.out).trans HBR5.out)
            clear hs6 hf6 HS5 HBR5 HNE5 q3
            have q2 : w6.cell? ⟨br, 2, none⟩ = some (.int .i32 st) := by rw [cell_of_row w6 br 2 _ _ (0, 0) HBR6.out]; rfl
            go_wp2_with fail
            refine ⟨⟨f, n + st, v6, a2, rfl, by omega, by omega, ⟨by have := HFU.out; omega⟩, HS6, HGO2, HBR6, HNE6⟩, by simp only [intOf]; omega⟩
          · have hn' : hi2 < n := by omega
            have HGO2 : Aside0 (FC.closeGo k l0 (FC.unitsFrom (i + 1)) acc = some a) := ⟨by have := HGO.out; rwa [FC.numsF_end f n hi2 st far hn', List.nil_append] at this⟩
            clear hn HGO
            go_wp2_with fail
            have hl2 := HL.out
            have hw : wrap64 ((i : Int) + 1) = ((i + 1 : Nat) : Int) := by unfold wrap64; omega
            first | rw [hw] | rw [show (i : Int) + 1 = ((i + 1 : Nat) : Int) by omega]
            exact ⟨⟨i + 1, v, acc, by omega, rfl, HS, HGO2⟩, by simp only [intOf]; omega⟩
      · obtain rfl : i = 22 := by omega
        rw [show ((22 : Nat) : Int) = 22 from rfl]
        have hgo := HGO.out
        rw [FC.units_end, FC.closeGo] at hgo
        obtain rfl := Option.some.inj hgo
        have HR := Aside0.mk (FC.fcR_of_own HS.out.row)
        obtain ⟨Av, cv, rfl, hcv, hCv⟩ := Kd.R_reads HR.out
        have hca : wr.cell? ⟨w2.heap.size, 0, none⟩ = some (.slice Av acc.length cv) := by rw [cell_of_row wr w2.heap.size 0 _ _ (0, 0) HS.out.all_]; rfl
        have HMK := Aside0.mk (sets_Make.calls k Av cv acc r1 r2 wr hCv hcv HM.out (HG_.out.below HS.out.base))
        clear hl hi hgo HGO hCv hcv
        go_wp2_with fail
        refine HMK.out.mono ?_
        rintro e w7 ⟨v7, rfl, hr, hb⟩
        have HR7 := Aside0.mk (Kd.R_lower hr HS.out.base.size)
        have HB7 := Aside0.mk (below_step HS.out.base hb)
        clear hr hb
        go_wp2_with fail
        go_ret2
        exact ⟨_, rfl, HR7.out, HB7.out⟩
  · rw [if_neg hz] at h
    have h2 := Option.some.inj h
    simp only [Prod.mk.injEq] at h2
    obtain ⟨rfl, rfl⟩ := h2
    have hz1 : (e1 != 0) = true := by simpa using hz
    clear h he1 hz
    go_enter Tryd.func7, Tryd.ntmps7
    go_wp2_with fail
    refine HCH.out.mono ?_
    rintro e w1 ⟨rfl, hb⟩
    have HB1 := Aside0.mk (below_step HB0.out hb)
    clear hb
    go_wp2_with fail
    go_ret2
    exact ⟨_, rfl, Kd.R_nil _ _ _ _ _, HB1.out⟩

/-! ### thistleref02_CopyRanges: function 8 -/
def thistleref02_CopyRanges.f (l0 : List (S41)) : Option ((List (S41))) := (some (([] : List (S41)) : List (S41))).bind fun y153 => (if y153.length + l0.length < 17592186044416 then (some (y153 ++ l0)) else (none))
set_option maxHeartbeats 8000000 in
set_option maxRecDepth 100000 in
theorem thistleref02_CopyRanges.calls (A0 : Option Addr) (c0 : Nat) (l0 : List (S41)) (r : List (S41)) (w : World) (hr0 : Kd.C k41 w A0 l0.length l0) (hc0 : l0.length ≤ c0) (h : thistleref02_CopyRanges.f l0 = some r) :
    Calls Tryd.prog 8 #[.slice A0 l0.length c0] w fun e w' => ∃ v0_ : Value, e = .returned (v0_) ∧ Kd.R k41 41 w' w.heap.size (fun _ => True) v0_ r ∧ Below w.heap.size w w' := by
  have HR0 := Aside0.mk hr0
  have HC0 := Aside0.mk hc0
  clear hr0 hc0
  have HB := Aside0.mk (Below.refl w.heap.size w)
  have H : ((some (([] : List (S41)) : List (S41))).bind fun y153 => (if y153.length + l0.length < 17592186044416 then (some (y153 ++ l0)) else (none))) = some r := h
  clear h
  obtain ⟨y153, hy153⟩ : ∃ y_ : List (S41), y_ = (([] : List (S41))) := ⟨_, rfl⟩
  replace H : (if y153.length + l0.length < 17592186044416 then (some (y153 ++ l0)) else (none)) = some r := by first | (rw [hy153]; with_reducible exact H) | (have H2_ := (Option.bind_some _ _).symm.trans H; rw [hy153]; with_reducible exact H2_) | (have H2_ := (Option.bind_some _ _).symm.trans H; with_reducible exact H2_) | with_reducible exact H | (rw [hy153]; exact H) | exact H
  have Ny153 := Aside0.mk hy153
  clear hy153
  by_cases c2 : y153.length + l0.length < 17592186044416
  · rw [if_pos c2] at H
    have LMc2 := Aside0.mk c2
    clear c2
    obtain ⟨y156, hy156⟩ : ∃ y_ : List (S41), y_ = (y153 ++ l0) := ⟨_, rfl⟩
    replace H : (some y156) = some r := by first | (rw [hy156]; with_reducible exact H) | (have H2_ := (Option.bind_some _ _).symm.trans H; rw [hy156]; with_reducible exact H2_) | (have H2_ := (Option.bind_some _ _).symm.trans H; with_reducible exact H2_) | with_reducible exact H | (rw [hy156]; exact H) | exact H
    have Ny156 := Aside0.mk hy156
    clear hy156
    obtain rfl := Option.some.inj H
    go_enter Tryd.func8, Tryd.ntmps8
    go_wp2_with (first | ((with_reducible refine gate_dst (N := 3) rfl ?_); refine Kd.R_lit k41 _ 41 ?hg (N := 3) ?hd (xs := ([] : List (S41))) (inner := []) (ok := fun _ => True) (okp := fun _ => True) ?hr ?hp (fun _ hk => hk) trivial (Below.refl _ _) (Nat.le_refl _) (by simp) ?_; (case hd => rfl); (case hg => rfl); (case hr => first | (go_simp; done) | (go_simp; rfl)); (case hp => exact (Reps.none _ _)); intro v154 w3 ho4 hb hg_ hnew_; clear hg_ hnew_; (first | rw [← Ny153.out] at ho4 | (simp only [Int.reduceToNat] at ho4; rw [← Ny153.out] at ho4)); have n0_ := Aside0.mk (Kd.R_lower ho4 (below_size (by repeat (first | (with_reducible first | exact HB.out | apply below_alloc | apply pw_below_drewN | apply below_drew1) | exact HB.out)))); have n1_ := Aside0.mk (below_step (by repeat (first | (with_reducible first | exact HB.out | apply below_alloc | apply pw_below_drewN | apply below_drew1) | exact HB.out)) hb); clear HB; have HO155 := n0_; have HB := n1_; clear n0_ n1_; clear hb ho4) | ((with_reducible refine gate_builtin (b := .append) (xs := #[.tmp 3, .tmp 4]) rfl ?_); at_builtin; refine Kd.R_append_rows k41 (w0 := w) w.heap.size rfl (.tmp 3) (.tmp 4) 24 41 (.agg #[(.int .i32 0), (.int .i32 0)]) 8 rfl Tryd.underlying24 info41 rfl (by decide) (by omega) v154 y153 l0 _ _ _ (fun _ => True) (fun _ => False) rfl rfl ?aO ?aR (fun _ _ h => h) (fun _ h => h.elim) ?aF ?aB ?aS ?aL ?_; (case aR => repeat (first | exact (Kd.C_below HR0.out HB.out) | (with_reducible refine Kd.C_alloc ?_ _) | (with_reducible refine Kd.C_drewN ?_ _) | (with_reducible refine Kd.C_drew ?_))); (case aB => exact (by repeat (first | (with_reducible first | exact HB.out | apply below_alloc | apply pw_below_drewN | apply below_drew1) | exact HB.out))); (case aF => exact (fun _ _ => trivial)); (case aO => exact (by (with_reducible repeat (first | apply Kd.R_alloc | apply Kd.R_drewN | apply Kd.R_drew)); exact HO155.out)); (case aS => exact (below_size (by repeat (first | (with_reducible first | exact HB.out | apply below_alloc | apply pw_below_drewN | apply below_drew1) | exact HB.out)))); (case aL => have := LMc2.out; omega); intro v157 w5 ho hb hg hat; rw [← Ny156.out] at ho; have n0_ := Aside0.mk (hb); have n1_ := Aside0.mk (ho); clear HB; clear HO155; have HB := n0_; have HO158 := n1_; clear n0_ n1_; clear ho hb hg hat))
    go_ret
    exact ⟨_, by first | rfl | (simp [errW_none, errW_some] <;> rfl) | (simp [*, errW_none, errW_some] <;> rfl), by (with_reducible repeat (first | apply Kd.R_alloc | apply Kd.R_drewN | apply Kd.R_drew)); exact HO158.out, by repeat (first | (with_reducible first | exact HB.out | apply below_alloc | apply pw_below_drewN | apply below_drew1) | exact HB.out)⟩
  · rw [if_neg c2] at H
    exact absurd H (by simp)

/-! ### thistleref02_SameRanges: function 9 -/
def thistleref02_SameRanges.l0 : Nat → List (S41) → List (S41) → Int → Option (Bool)
  | 0, _, _, _ => none
  | k + 1, x0, x1, x5 => if x5 < (x0.length : Int) then (if 0 ≤ x5 then (if x5 < (x1.length : Int) then (if (!(((rd_T41 x0 x5).f0) == ((rd_T41 x1 x5).f0)) || (!(((rd_T41 x0 x5).f1) == ((rd_T41 x1 x5).f1)))) = true then (some false) else (thistleref02_SameRanges.l0 k x0 x1 (wrap64 (x5 + 1)))) else (none)) else (none)) else (some true)
def thistleref02_SameRanges.f (k : Nat) (l0 : List (S41)) (l1 : List (S41)) : Option (Bool) := if (l0.length : Int) = (l1.length : Int) then (thistleref02_SameRanges.l0 k l0 l1 0) else (some false)
theorem thistleref02_SameRanges.mono_l : ∀ k, (∀ y0 y1 y2, LeO (thistleref02_SameRanges.l0 k y0 y1 y2) (thistleref02_SameRanges.l0 (k + 1) y0 y1 y2))
  | 0 => fun _ _ _ r h => by simp [thistleref02_SameRanges.l0] at h
  | k + 1 => by
    have ih0 := thistleref02_SameRanges.mono_l k
    · intro y0 y1 y2
      unfold thistleref02_SameRanges.l0
      repeat' first
      | (with_reducible exact ih0 _ _ _)
      | (with_reducible exact LeO.refl _)
      | (with_reducible exact LeO.none _)
      | (with_reducible refine LeO.ite ?_ ?_)
      | (with_reducible refine LeO.bind ?_ (fun _ => ?_))
      | exact ih0 _ _ _
      | exact LeO.none _
      | refine LeO.ite ?_ ?_
      | refine LeO.bind ?_ (fun _ => ?_)
theorem thistleref02_SameRanges.mono : ∀ a0 a1 k, LeO (thistleref02_SameRanges.f k a0 a1) (thistleref02_SameRanges.f (k + 1) a0 a1) := by
  intro a0 a1 k
  have ih0 := thistleref02_SameRanges.mono_l k
  unfold thistleref02_SameRanges.f
  repeat' first
      | (with_reducible exact ih0 _ _ _)
      | (with_reducible exact LeO.refl _)
      | (with_reducible exact LeO.none _)
      | (with_reducible refine LeO.ite ?_ ?_)
      | (with_reducible refine LeO.bind ?_ (fun _ => ?_))
      | exact ih0 _ _ _
      | exact LeO.none _
      | refine LeO.ite ?_ ?_
      | refine LeO.bind ?_ (fun _ => ?_)
set_option maxHeartbeats 8000000 in
set_option maxRecDepth 100000 in
theorem thistleref02_SameRanges.calls (k : Nat) (A0 : Option Addr) (c0 : Nat) (l0 : List (S41)) (A1 : Option Addr) (c1 : Nat) (l1 : List (S41)) (r : Bool) (w : World) (hr0 : Kd.C k41 w A0 l0.length l0) (hc0 : l0.length ≤ c0) (hr1 : Kd.C k41 w A1 l1.length l1) (hc1 : l1.length ≤ c1) (h : thistleref02_SameRanges.f k l0 l1 = some r) :
    Calls Tryd.prog 9 #[.slice A0 l0.length c0, .slice A1 l1.length c1] w fun e w' => e = .returned (.bool r) ∧ Drawn0 w w' := by
  have hu41 := Tryd.underlying41
  have HR0 := Aside0.mk hr0
  have HC0 := Aside0.mk hc0
  clear hr0 hc0
  have HR1 := Aside0.mk hr1
  have HC1 := Aside0.mk hc1
  clear hr1 hc1
  have H : (if (l0.length : Int) = (l1.length : Int) then (thistleref02_SameRanges.l0 k l0 l1 0) else (some false)) = some r := h
  clear h
  by_cases c3 : (l0.length : Int) = (l1.length : Int)
  · rw [if_pos c3] at H
    have c3b0 : ((l0.length : Int) == (l1.length : Int)) = true := beq_iff_eq.mpr c3
    have c3b1 : ((l0.length : Int) != (l1.length : Int)) = false := bne_eq_false_iff_eq.mpr c3
    have c3b2 : (l0.length == l1.length) = true := by first | simpa using c3 | (simp at c3 ⊢; omega)
    clear c3
    have H' := Aside0.mk H
    clear H
    go_enter Tryd.func9, Tryd.ntmps9
    go_wp2
    repeat (go_quiet (fail); try go_wp2)
    go_loopg [5] k (fun kq v5 w' => ∃ (x5_1 : Int), v5 = .int .i64 x5_1 ∧ Aside0 (thistleref02_SameRanges.l0 kq l0 l1 x5_1 = some r) ∧ Aside0 (kq ≤ k) ∧ Drawn0 w w')
    case atStart => exact ⟨(0), (by first | rfl | (simp; done) | (simp [*]; done)), H', ⟨Nat.le_refl _⟩, by repeat (first | exact Drawn0.refl _ | apply Drawn0.step)⟩
    case round =>
      clear H'
      try clear c1
      try clear p2
      try clear c3
      try clear c3b0
      try clear c3b1
      try clear c3b2
      obtain ⟨x5_1, rfl, HA, HK1, ⟨m1, rfl⟩⟩ := hrel
      cases gk with
      | zero => exact absurd HA.out (by simp [thistleref02_SameRanges.l0])
      | succ k1 =>
        have H := HA.out
        clear HA
        simp only [thistleref02_SameRanges.l0] at H
        by_cases c4 : x5_1 < (l0.length : Int)
        · rw [if_pos c4] at H
          have c4b0 : decide (x5_1 < (l0.length : Int)) = true := decide_eq_true c4
          clear c4
          by_cases c5 : 0 ≤ x5_1
          · rw [if_pos c5] at H
            have c5b0 : decide (0 ≤ x5_1) = true := decide_eq_true c5
            clear c5
            by_cases c6 : x5_1 < (l1.length : Int)
            · rw [if_pos c6] at H
              have c6b0 : decide (x5_1 < (l1.length : Int)) = true := decide_eq_true c6
              clear c6
              by_cases c7 : (!(((rd_T41 l0 x5_1).f0) == ((rd_T41 l1 x5_1).f0)) || (!(((rd_T41 l0 x5_1).f1) == ((rd_T41 l1 x5_1).f1)))) = true
              · rw [if_pos c7] at H
                have c7b0 : (!(((rd_T41 l0 x5_1).f0) == ((rd_T41 l1 x5_1).f0)) || (!(((rd_T41 l0 x5_1).f1) == ((rd_T41 l1 x5_1).f1)))) = true := c7
                clear c7
                obtain rfl := Option.some.inj H
                have p159 : 0 ≤ (x5_1 : Int) := of_decide_eq_true (by first | (with_reducible assumption) | assumption)
                have q159 : x5_1 < (l0.length : Int) := of_decide_eq_true (by first | (with_reducible assumption) | assumption)
                obtain ⟨ad159, e159, hx159_0, hx159_1⟩ := at_T41 HR0.out x5_1 p159 q159
                cases e159
                replace p159 := eq_true p159
                replace q159 := eq_true q159
                have p160 : 0 ≤ (x5_1 : Int) := of_decide_eq_true (by first | (with_reducible assumption) | assumption)
                have q160 : x5_1 < (l1.length : Int) := of_decide_eq_true (by first | (with_reducible assumption) | assumption)
                obtain ⟨ad160, e160, hx160_0, hx160_1⟩ := at_T41 HR1.out x5_1 p160 q160
                cases e160
                replace p160 := eq_true p160
                replace q160 := eq_true q160
                go_wp2
                repeat (go_quiet (fail); try go_wp2)
                go_ret
                exact ⟨by first | rfl | (simp; done) | (simp [*]; done), by repeat (first | exact Drawn0.refl _ | apply Drawn0.step)⟩
              · rw [if_neg c7] at H
                have c7b0 : (!(((rd_T41 l0 x5_1).f0) == ((rd_T41 l1 x5_1).f0)) || (!(((rd_T41 l0 x5_1).f1) == ((rd_T41 l1 x5_1).f1)))) = false := by simpa using c7
                clear c7
                have H' := Aside0.mk H
                clear H
                have p159 : 0 ≤ (x5_1 : Int) := of_decide_eq_true (by first | (with_reducible assumption) | assumption)
                have q159 : x5_1 < (l0.length : Int) := of_decide_eq_true (by first | (with_reducible assumption) | assumption)
                obtain ⟨ad159, e159, hx159_0, hx159_1⟩ := at_T41 HR0.out x5_1 p159 q159
                cases e159
                replace p159 := eq_true p159
                replace q159 := eq_true q159
                have p160 : 0 ≤ (x5_1 : Int) := of_decide_eq_true (by first | (with_reducible assumption) | assumption)
                have q160 : x5_1 < (l1.length : Int) := of_decide_eq_true (by first | (with_reducible assumption) | assumption)
                obtain ⟨ad160, e160, hx160_0, hx160_1⟩ := at_T41 HR1.out x5_1 p160 q160
                cases e160
                replace p160 := eq_true p160
                replace q160 := eq_true q160
                go_wp2
                repeat (go_quiet (fail); try go_wp2)
                go_roundg k1
                case measure => have := HK1.out; omega
                case rel => exact ⟨(wrap64 (x5_1 + 1)), (by first | rfl | (simp; done) | (simp [*]; done)), H', ⟨by have := HK1.out; omega⟩, by repeat (first | exact Drawn0.refl _ | apply Drawn0.step)⟩
            · rw [if_neg c6] at H
              exact absurd H (by simp)
          · rw [if_neg c5] at H
            exact absurd H (by simp)
        · rw [if_neg c4] at H
          have c4b0 : decide (x5_1 < (l0.length : Int)) = false := decide_eq_false c4
          clear c4
          obtain rfl := Option.some.inj H
          go_wp2
          repeat (go_quiet (fail); try go_wp2)
          go_ret
          exact ⟨by first | rfl | (simp; done) | (simp [*]; done), by repeat (first | exact Drawn0.refl _ | apply Drawn0.step)⟩
  · rw [if_neg c3] at H
    have c3b0 : ((l0.length : Int) == (l1.length : Int)) = false := beq_eq_false_iff_ne.mpr c3
    have c3b1 : ((l0.length : Int) != (l1.length : Int)) = true := bne_iff_ne.mpr c3
    have c3b2 : (l0.length == l1.length) = false := by first | simpa using c3 | (simp at c3 ⊢; omega)
    obtain rfl := Option.some.inj H
    go_enter Tryd.func9, Tryd.ntmps9
    go_wp2
    repeat (go_quiet (fail); try go_wp2)
    go_ret
    exact ⟨by first | rfl | (simp; done) | (simp [*]; done), by repeat (first | exact Drawn0.refl _ | apply Drawn0.step)⟩

end Go.Proofs.YtcpjflgiimjfmaaDoor.XC
