/- WRITTEN BY A PROGRAM OF THIS SESSION (wip/tools/xprint.py, over the kit's printer): contracts of the functions that the seat's laws reach. -/
import Derived.Test.YtcpjflgiimjfmaaDoorXC0
namespace Go.Proofs.YtcpjflgiimjfmaaDoor.XC
open Go.RowKit Go.Proofs.YtcpjflgiimjfmaaDoorW.PrintWords Go.Proofs.YtcpjflgiimjfmaaDoorW.PrintLast Go.Proofs.YtcpjflgiimjfmaaDoorW.PrintMore
attribute [local go_sem] max2_int min2_int max_two min_two max_three min_three max_four min_four   -- for this text's walks alone
set_option linter.unusedVariables false
set_option linter.unusedSimpArgs false

-- NOT PRINTED: function 24 (fold_rules)

/-! ### fold_rule_names: function 48 -/
def fold_rule_names.f (a0_0 : Int) (a0_1 : Int) (a0_2 : Int) (a0_3 : Int) (a1 : Int) : Option (Bool) := if a0_2 > 0 then (if a1 ≥ a0_0 then (if a1 ≤ a0_1 then (if a0_2 = 0 then (none) else (some ((Int.tmod (wrap32 (a1 - a0_0)) a0_2) == 0))) else (some false)) else (some false)) else (some false)
set_option maxHeartbeats 8000000 in
set_option maxRecDepth 100000 in
theorem fold_rule_names.calls (a0_0 : Int) (a0_1 : Int) (a0_2 : Int) (a0_3 : Int) (a1 : Int) (r : Bool) (w : World) (h : fold_rule_names.f a0_0 a0_1 a0_2 a0_3 a1 = some r) :
    Calls Tryd.prog 48 #[.agg #[.int .i32 a0_0, .int .i32 a0_1, .int .i32 a0_2, .int .i32 a0_3], .int .i32 a1] w fun e w' => e = .returned (.bool r) ∧ Below w.heap.size w w' := by
  have hu47 := Tryd.underlying47
  have HB := Aside0.mk (Below.refl w.heap.size w)
  have H : (if a0_2 > 0 then (if a1 ≥ a0_0 then (if a1 ≤ a0_1 then (if a0_2 = 0 then (none) else (some ((Int.tmod (wrap32 (a1 - a0_0)) a0_2) == 0))) else (some false)) else (some false)) else (some false)) = some r := h
  clear h
  by_cases c3 : a0_2 > 0
  · rw [if_pos c3] at H
    have c3b0 : decide (0 < a0_2) = true := decide_eq_true c3
    clear c3
    by_cases c4 : a1 ≥ a0_0
    · rw [if_pos c4] at H
      have c4b0 : decide (a0_0 ≤ a1) = true := decide_eq_true c4
      clear c4
      by_cases c5 : a1 ≤ a0_1
      · rw [if_pos c5] at H
        have c5b0 : decide (a1 ≤ a0_1) = true := decide_eq_true c5
        clear c5
        by_cases c6 : a0_2 = 0
        · rw [if_pos c6] at H
          exact absurd H (by simp)
        · rw [if_neg c6] at H
          have c6b0 : (a0_2 == 0) = false := beq_eq_false_iff_ne.mpr c6
          have c6b1 : (a0_2 != 0) = true := bne_iff_ne.mpr c6
          obtain rfl := Option.some.inj H
          go_enter Tryd.func48, Tryd.ntmps48
          go_wp2_with (first | ((with_reducible refine gate_dst (N := 2) rfl ?_); refine box_event ?hg (N := 2) ?hd (cs := #[.int .i32 a0_0, .int .i32 a0_1, .int .i32 a0_2, .int .i32 a0_3]) (t := 47) ?hr ?_; (case hd => rfl); (case hg => rfl); (case hr => first | (go_simp; done) | (go_simp; rfl)); intro gb101 hg w7 hbox hb; have n0_ := Aside0.mk (below_step (by repeat (first | (with_reducible first | exact HB.out | apply below_alloc | apply pw_below_drewN | apply below_drew1) | exact HB.out)) hb); have n1_ := Aside0.mk (hbox); have n2_ := Aside0.mk ((by rw [hg]; exact (below_size (by repeat (first | (with_reducible first | exact HB.out | apply below_alloc | apply pw_below_drewN | apply below_drew1) | exact HB.out))) : w.heap.size ≤ gb101)); have n3_ := Aside0.mk ((by rw [hg]; exact (below_size (by repeat (first | (with_reducible first | exact HB.out | apply below_alloc | apply pw_below_drewN | apply below_drew1) | exact HB.out))) : w.heap.size ≤ gb101)); clear HB; have HB := n0_; have BK101 := n1_; have GW101 := n2_; have GE101 := n3_; clear n0_ n1_ n2_ n3_; clear hb hbox hg; have hcz8_0 : w7.cell? ⟨gb101, 0, none⟩ = some (.int .i32 a0_0) := (blk_cell BK101.out 0).trans rfl; have hcz8_1 : w7.cell? ⟨gb101, 1, none⟩ = some (.int .i32 a0_1) := (blk_cell BK101.out 1).trans rfl; have hcz8_2 : w7.cell? ⟨gb101, 2, none⟩ = some (.int .i32 a0_2) := (blk_cell BK101.out 2).trans rfl; have hcz8_3 : w7.cell? ⟨gb101, 3, none⟩ = some (.int .i32 a0_3) := (blk_cell BK101.out 3).trans rfl; have hfz8_0 := blk_frozen BK101.out 0; have hfz8_1 := blk_frozen BK101.out 1; have hfz8_2 := blk_frozen BK101.out 2; have hfz8_3 := blk_frozen BK101.out 3))
          go_ret
          exact ⟨by first | rfl | (simp [errW_none, errW_some] <;> rfl) | (simp [*, errW_none, errW_some] <;> rfl), by repeat (first | (with_reducible first | exact HB.out | apply below_alloc | apply pw_below_drewN | apply below_drew1 | refine below_set ?_ GE101.out) | exact HB.out)⟩
      · rw [if_neg c5] at H
        have c5b0 : decide (a1 ≤ a0_1) = false := decide_eq_false c5
        clear c5
        obtain rfl := Option.some.inj H
        go_enter Tryd.func48, Tryd.ntmps48
        go_wp2_with (first | ((with_reducible refine gate_dst (N := 2) rfl ?_); refine box_event ?hg (N := 2) ?hd (cs := #[.int .i32 a0_0, .int .i32 a0_1, .int .i32 a0_2, .int .i32 a0_3]) (t := 47) ?hr ?_; (case hd => rfl); (case hg => rfl); (case hr => first | (go_simp; done) | (go_simp; rfl)); intro gb101 hg w9 hbox hb; have n0_ := Aside0.mk (below_step (by repeat (first | (with_reducible first | exact HB.out | apply below_alloc | apply pw_below_drewN | apply below_drew1) | exact HB.out)) hb); have n1_ := Aside0.mk (hbox); have n2_ := Aside0.mk ((by rw [hg]; exact (below_size (by repeat (first | (with_reducible first | exact HB.out | apply below_alloc | apply pw_below_drewN | apply below_drew1) | exact HB.out))) : w.heap.size ≤ gb101)); have n3_ := Aside0.mk ((by rw [hg]; exact (below_size (by repeat (first | (with_reducible first | exact HB.out | apply below_alloc | apply pw_below_drewN | apply below_drew1) | exact HB.out))) : w.heap.size ≤ gb101)); clear HB; have HB := n0_; have BK101 := n1_; have GW101 := n2_; have GE101 := n3_; clear n0_ n1_ n2_ n3_; clear hb hbox hg; have hcz10_0 : w9.cell? ⟨gb101, 0, none⟩ = some (.int .i32 a0_0) := (blk_cell BK101.out 0).trans rfl; have hcz10_1 : w9.cell? ⟨gb101, 1, none⟩ = some (.int .i32 a0_1) := (blk_cell BK101.out 1).trans rfl; have hcz10_2 : w9.cell? ⟨gb101, 2, none⟩ = some (.int .i32 a0_2) := (blk_cell BK101.out 2).trans rfl; have hcz10_3 : w9.cell? ⟨gb101, 3, none⟩ = some (.int .i32 a0_3) := (blk_cell BK101.out 3).trans rfl; have hfz10_0 := blk_frozen BK101.out 0; have hfz10_1 := blk_frozen BK101.out 1; have hfz10_2 := blk_frozen BK101.out 2; have hfz10_3 := blk_frozen BK101.out 3))
        go_ret
        exact ⟨by first | rfl | (simp [errW_none, errW_some] <;> rfl) | (simp [*, errW_none, errW_some] <;> rfl), by repeat (first | (with_reducible first | exact HB.out | apply below_alloc | apply pw_below_drewN | apply below_drew1 | refine below_set ?_ GE101.out) | exact HB.out)⟩
    · rw [if_neg c4] at H
      have c4b0 : decide (a0_0 ≤ a1) = false := decide_eq_false c4
      clear c4
      obtain rfl := Option.some.inj H
      go_enter Tryd.func48, Tryd.ntmps48
      go_wp2_with (first | ((with_reducible refine gate_dst (N := 2) rfl ?_); refine box_event ?hg (N := 2) ?hd (cs := #[.int .i32 a0_0, .int .i32 a0_1, .int .i32 a0_2, .int .i32 a0_3]) (t := 47) ?hr ?_; (case hd => rfl); (case hg => rfl); (case hr => first | (go_simp; done) | (go_simp; rfl)); intro gb101 hg w11 hbox hb; have n0_ := Aside0.mk (below_step (by repeat (first | (with_reducible first | exact HB.out | apply below_alloc | apply pw_below_drewN | apply below_drew1) | exact HB.out)) hb); have n1_ := Aside0.mk (hbox); have n2_ := Aside0.mk ((by rw [hg]; exact (below_size (by repeat (first | (with_reducible first | exact HB.out | apply below_alloc | apply pw_below_drewN | apply below_drew1) | exact HB.out))) : w.heap.size ≤ gb101)); have n3_ := Aside0.mk ((by rw [hg]; exact (below_size (by repeat (first | (with_reducible first | exact HB.out | apply below_alloc | apply pw_below_drewN | apply below_drew1) | exact HB.out))) : w.heap.size ≤ gb101)); clear HB; have HB := n0_; have BK101 := n1_; have GW101 := n2_; have GE101 := n3_; clear n0_ n1_ n2_ n3_; clear hb hbox hg; have hcz12_0 : w11.cell? ⟨gb101, 0, none⟩ = some (.int .i32 a0_0) := (blk_cell BK101.out 0).trans rfl; have hcz12_1 : w11.cell? ⟨gb101, 1, none⟩ = some (.int .i32 a0_1) := (blk_cell BK101.out 1).trans rfl; have hcz12_2 : w11.cell? ⟨gb101, 2, none⟩ = some (.int .i32 a0_2) := (blk_cell BK101.out 2).trans rfl; have hcz12_3 : w11.cell? ⟨gb101, 3, none⟩ = some (.int .i32 a0_3) := (blk_cell BK101.out 3).trans rfl; have hfz12_0 := blk_frozen BK101.out 0; have hfz12_1 := blk_frozen BK101.out 1; have hfz12_2 := blk_frozen BK101.out 2; have hfz12_3 := blk_frozen BK101.out 3))
      go_ret
      exact ⟨by first | rfl | (simp [errW_none, errW_some] <;> rfl) | (simp [*, errW_none, errW_some] <;> rfl), by repeat (first | (with_reducible first | exact HB.out | apply below_alloc | apply pw_below_drewN | apply below_drew1 | refine below_set ?_ GE101.out) | exact HB.out)⟩
  · rw [if_neg c3] at H
    have c3b0 : decide (0 < a0_2) = false := decide_eq_false c3
    clear c3
    obtain rfl := Option.some.inj H
    go_enter Tryd.func48, Tryd.ntmps48
    go_wp2_with (first | ((with_reducible refine gate_dst (N := 2) rfl ?_); refine box_event ?hg (N := 2) ?hd (cs := #[.int .i32 a0_0, .int .i32 a0_1, .int .i32 a0_2, .int .i32 a0_3]) (t := 47) ?hr ?_; (case hd => rfl); (case hg => rfl); (case hr => first | (go_simp; done) | (go_simp; rfl)); intro gb101 hg w13 hbox hb; have n0_ := Aside0.mk (below_step (by repeat (first | (with_reducible first | exact HB.out | apply below_alloc | apply pw_below_drewN | apply below_drew1) | exact HB.out)) hb); have n1_ := Aside0.mk (hbox); have n2_ := Aside0.mk ((by rw [hg]; exact (below_size (by repeat (first | (with_reducible first | exact HB.out | apply below_alloc | apply pw_below_drewN | apply below_drew1) | exact HB.out))) : w.heap.size ≤ gb101)); have n3_ := Aside0.mk ((by rw [hg]; exact (below_size (by repeat (first | (with_reducible first | exact HB.out | apply below_alloc | apply pw_below_drewN | apply below_drew1) | exact HB.out))) : w.heap.size ≤ gb101)); clear HB; have HB := n0_; have BK101 := n1_; have GW101 := n2_; have GE101 := n3_; clear n0_ n1_ n2_ n3_; clear hb hbox hg; have hcz14_0 : w13.cell? ⟨gb101, 0, none⟩ = some (.int .i32 a0_0) := (blk_cell BK101.out 0).trans rfl; have hcz14_1 : w13.cell? ⟨gb101, 1, none⟩ = some (.int .i32 a0_1) := (blk_cell BK101.out 1).trans rfl; have hcz14_2 : w13.cell? ⟨gb101, 2, none⟩ = some (.int .i32 a0_2) := (blk_cell BK101.out 2).trans rfl; have hcz14_3 : w13.cell? ⟨gb101, 3, none⟩ = some (.int .i32 a0_3) := (blk_cell BK101.out 3).trans rfl; have hfz14_0 := blk_frozen BK101.out 0; have hfz14_1 := blk_frozen BK101.out 1; have hfz14_2 := blk_frozen BK101.out 2; have hfz14_3 := blk_frozen BK101.out 3))
    go_ret
    exact ⟨by first | rfl | (simp [errW_none, errW_some] <;> rfl) | (simp [*, errW_none, errW_some] <;> rfl), by repeat (first | (with_reducible first | exact HB.out | apply below_alloc | apply pw_below_drewN | apply below_drew1 | refine below_set ?_ GE101.out) | exact HB.out)⟩

/-! ### fold_beside: function 27 -/
structure FRule where
  lo : Int
  hi : Int
  st : Int
  far : Int
def ruleL : List FRule := [⟨65, 90, 1, 32⟩, ⟨192, 214, 1, 32⟩, ⟨216, 222, 1, 32⟩, ⟨913, 929, 1, 32⟩, ⟨931, 937, 1, 32⟩, ⟨1040, 1071, 1, 32⟩, ⟨65313, 65338, 1, 32⟩, ⟨1024, 1039, 1, 80⟩, ⟨66560, 66599, 1, 40⟩, ⟨256, 302, 2, 1⟩, ⟨306, 310, 2, 1⟩, ⟨330, 374, 2, 1⟩, ⟨7680, 7828, 2, 1⟩, ⟨313, 327, 2, 1⟩, ⟨377, 381, 2, 1⟩, ⟨255, 255, 1, 121⟩, ⟨223, 223, 1, 7615⟩, ⟨181, 181, 1, 775⟩, ⟨931, 931, 1, 31⟩, ⟨83, 83, 1, 300⟩, ⟨75, 75, 1, 8415⟩, ⟨197, 197, 1, 8294⟩]
def ruleCells : Array Value := #[.int .i32 65, .int .i32 90, .int .i32 1, .int .i32 32, .int .i32 192, .int .i32 214, .int .i32 1, .int .i32 32, .int .i32 216, .int .i32 222, .int .i32 1, .int .i32 32, .int .i32 913, .int .i32 929, .int .i32 1, .int .i32 32, .int .i32 931, .int .i32 937, .int .i32 1, .int .i32 32, .int .i32 1040, .int .i32 1071, .int .i32 1, .int .i32 32, .int .i32 65313, .int .i32 65338, .int .i32 1, .int .i32 32, .int .i32 1024, .int .i32 1039, .int .i32 1, .int .i32 80, .int .i32 66560, .int .i32 66599, .int .i32 1, .int .i32 40, .int .i32 256, .int .i32 302, .int .i32 2, .int .i32 1, .int .i32 306, .int .i32 310, .int .i32 2, .int .i32 1, .int .i32 330, .int .i32 374, .int .i32 2, .int .i32 1, .int .i32 7680, .int .i32 7828, .int .i32 2, .int .i32 1, .int .i32 313, .int .i32 327, .int .i32 2, .int .i32 1, .int .i32 377, .int .i32 381, .int .i32 2, .int .i32 1, .int .i32 255, .int .i32 255, .int .i32 1, .int .i32 121, .int .i32 223, .int .i32 223, .int .i32 1, .int .i32 7615, .int .i32 181, .int .i32 181, .int .i32 1, .int .i32 775, .int .i32 931, .int .i32 931, .int .i32 1, .int .i32 31, .int .i32 83, .int .i32 83, .int .i32 1, .int .i32 300, .int .i32 75, .int .i32 75, .int .i32 1, .int .i32 8415, .int .i32 197, .int .i32 197, .int .i32 1, .int .i32 8294]
theorem wpList_build_eq {P : Program} {ops : Array Oper} {rest : List Oper} {o : Oper} {a : Act} {w : World} {Q : Exit → Act → World → Prop} (hg : o.guard = none) (t : TypeId) (parts : Array (Nat × Operand)) (ho : o.op = .build t parts) (cells : Array Value)
    (hf : P.built t (parts.map fun (i, x) => (i, a.eval x)).toList = some cells) (h : wpList P ops Q rest (a.put o.dst (.agg cells)) w) : wpList P ops Q (o :: rest) a w :=
  wpList_build hg t parts ho (by rw [hf]; rfl) (by rw [hf]; exact h)
set_option maxHeartbeats 4000000 in
set_option maxRecDepth 100000 in
theorem fold_rules.calls (w : World) : Calls Tryd.prog 24 #[] w fun e w' => e = .returned (.agg ruleCells) ∧ Below w.heap.size w w' := by
  go_enter Tryd.func24, Tryd.ntmps24
  have hst := run_storeCells_new (P := Tryd.prog) w 48 Tryd.zeroCells48 ruleCells (by kernel_rfl) (by kernel_rfl) (by kernel_rfl)
  go_wp2_with (with_reducible refine wpList_build_eq rfl 48 _ rfl ruleCells (by kernel_rfl) ?_)
  refine bodyPost_ret (results_cell_row rfl _ _ w.heap.size 48 _ (0, 0) _ rfl (heap_alloc_new w _) Tryd.underlying48 rfl (by kernel_rfl)) rfl ?_
  exact ⟨rfl, below_alloc (Below.refl _ _) _⟩
theorem rule_index0 (W : World) : (Instr.index 48 (.agg ruleCells) (.int .i64 0)).run Tryd.prog W = .ok (.agg #[.int .i32 65, .int .i32 90, .int .i32 1, .int .i32 32]) W := by kernel_rfl
theorem rule_index1 (W : World) : (Instr.index 48 (.agg ruleCells) (.int .i64 1)).run Tryd.prog W = .ok (.agg #[.int .i32 192, .int .i32 214, .int .i32 1, .int .i32 32]) W := by kernel_rfl
theorem rule_index2 (W : World) : (Instr.index 48 (.agg ruleCells) (.int .i64 2)).run Tryd.prog W = .ok (.agg #[.int .i32 216, .int .i32 222, .int .i32 1, .int .i32 32]) W := by kernel_rfl
theorem rule_index3 (W : World) : (Instr.index 48 (.agg ruleCells) (.int .i64 3)).run Tryd.prog W = .ok (.agg #[.int .i32 913, .int .i32 929, .int .i32 1, .int .i32 32]) W := by kernel_rfl
theorem rule_index4 (W : World) : (Instr.index 48 (.agg ruleCells) (.int .i64 4)).run Tryd.prog W = .ok (.agg #[.int .i32 931, .int .i32 937, .int .i32 1, .int .i32 32]) W := by kernel_rfl
theorem rule_index5 (W : World) : (Instr.index 48 (.agg ruleCells) (.int .i64 5)).run Tryd.prog W = .ok (.agg #[.int .i32 1040, .int .i32 1071, .int .i32 1, .int .i32 32]) W := by kernel_rfl
theorem rule_index6 (W : World) : (Instr.index 48 (.agg ruleCells) (.int .i64 6)).run Tryd.prog W = .ok (.agg #[.int .i32 65313, .int .i32 65338, .int .i32 1, .int .i32 32]) W := by kernel_rfl
theorem rule_index7 (W : World) : (Instr.index 48 (.agg ruleCells) (.int .i64 7)).run Tryd.prog W = .ok (.agg #[.int .i32 1024, .int .i32 1039, .int .i32 1, .int .i32 80]) W := by kernel_rfl
theorem rule_index8 (W : World) : (Instr.index 48 (.agg ruleCells) (.int .i64 8)).run Tryd.prog W = .ok (.agg #[.int .i32 66560, .int .i32 66599, .int .i32 1, .int .i32 40]) W := by kernel_rfl
theorem rule_index9 (W : World) : (Instr.index 48 (.agg ruleCells) (.int .i64 9)).run Tryd.prog W = .ok (.agg #[.int .i32 256, .int .i32 302, .int .i32 2, .int .i32 1]) W := by kernel_rfl
theorem rule_index10 (W : World) : (Instr.index 48 (.agg ruleCells) (.int .i64 10)).run Tryd.prog W = .ok (.agg #[.int .i32 306, .int .i32 310, .int .i32 2, .int .i32 1]) W := by kernel_rfl
theorem rule_index11 (W : World) : (Instr.index 48 (.agg ruleCells) (.int .i64 11)).run Tryd.prog W = .ok (.agg #[.int .i32 330, .int .i32 374, .int .i32 2, .int .i32 1]) W := by kernel_rfl
theorem rule_index12 (W : World) : (Instr.index 48 (.agg ruleCells) (.int .i64 12)).run Tryd.prog W = .ok (.agg #[.int .i32 7680, .int .i32 7828, .int .i32 2, .int .i32 1]) W := by kernel_rfl
theorem rule_index13 (W : World) : (Instr.index 48 (.agg ruleCells) (.int .i64 13)).run Tryd.prog W = .ok (.agg #[.int .i32 313, .int .i32 327, .int .i32 2, .int .i32 1]) W := by kernel_rfl
theorem rule_index14 (W : World) : (Instr.index 48 (.agg ruleCells) (.int .i64 14)).run Tryd.prog W = .ok (.agg #[.int .i32 377, .int .i32 381, .int .i32 2, .int .i32 1]) W := by kernel_rfl
theorem rule_index15 (W : World) : (Instr.index 48 (.agg ruleCells) (.int .i64 15)).run Tryd.prog W = .ok (.agg #[.int .i32 255, .int .i32 255, .int .i32 1, .int .i32 121]) W := by kernel_rfl
theorem rule_index16 (W : World) : (Instr.index 48 (.agg ruleCells) (.int .i64 16)).run Tryd.prog W = .ok (.agg #[.int .i32 223, .int .i32 223, .int .i32 1, .int .i32 7615]) W := by kernel_rfl
theorem rule_index17 (W : World) : (Instr.index 48 (.agg ruleCells) (.int .i64 17)).run Tryd.prog W = .ok (.agg #[.int .i32 181, .int .i32 181, .int .i32 1, .int .i32 775]) W := by kernel_rfl
theorem rule_index18 (W : World) : (Instr.index 48 (.agg ruleCells) (.int .i64 18)).run Tryd.prog W = .ok (.agg #[.int .i32 931, .int .i32 931, .int .i32 1, .int .i32 31]) W := by kernel_rfl
theorem rule_index19 (W : World) : (Instr.index 48 (.agg ruleCells) (.int .i64 19)).run Tryd.prog W = .ok (.agg #[.int .i32 83, .int .i32 83, .int .i32 1, .int .i32 300]) W := by kernel_rfl
theorem rule_index20 (W : World) : (Instr.index 48 (.agg ruleCells) (.int .i64 20)).run Tryd.prog W = .ok (.agg #[.int .i32 75, .int .i32 75, .int .i32 1, .int .i32 8415]) W := by kernel_rfl
theorem rule_index21 (W : World) : (Instr.index 48 (.agg ruleCells) (.int .i64 21)).run Tryd.prog W = .ok (.agg #[.int .i32 197, .int .i32 197, .int .i32 1, .int .i32 8294]) W := by kernel_rfl
theorem rule_index (k : Nat) (hk : k < 22) (W : World) : (Instr.index 48 (.agg ruleCells) (.int .i64 (k : Int))).run Tryd.prog W = .ok (.agg #[.int .i32 (ruleL.getD k ⟨0, 0, 0, 0⟩).lo, .int .i32 (ruleL.getD k ⟨0, 0, 0, 0⟩).hi, .int .i32 (ruleL.getD k ⟨0, 0, 0, 0⟩).st, .int .i32 (ruleL.getD k ⟨0, 0, 0, 0⟩).far]) W := by
  have h : k = 0 ∨ k = 1 ∨ k = 2 ∨ k = 3 ∨ k = 4 ∨ k = 5 ∨ k = 6 ∨ k = 7 ∨ k = 8 ∨ k = 9 ∨ k = 10 ∨ k = 11 ∨ k = 12 ∨ k = 13 ∨ k = 14 ∨ k = 15 ∨ k = 16 ∨ k = 17 ∨ k = 18 ∨ k = 19 ∨ k = 20 ∨ k = 21 := by omega
  rcases h with rfl | rfl | rfl | rfl | rfl | rfl | rfl | rfl | rfl | rfl | rfl | rfl | rfl | rfl | rfl | rfl | rfl | rfl | rfl | rfl | rfl | rfl
  · exact rule_index0 W
  · exact rule_index1 W
  · exact rule_index2 W
  · exact rule_index3 W
  · exact rule_index4 W
  · exact rule_index5 W
  · exact rule_index6 W
  · exact rule_index7 W
  · exact rule_index8 W
  · exact rule_index9 W
  · exact rule_index10 W
  · exact rule_index11 W
  · exact rule_index12 W
  · exact rule_index13 W
  · exact rule_index14 W
  · exact rule_index15 W
  · exact rule_index16 W
  · exact rule_index17 W
  · exact rule_index18 W
  · exact rule_index19 W
  · exact rule_index20 W
  · exact rule_index21 W
/-- does the rule name n as its lesser number? -/
def nm (r : FRule) (n : Int) : Bool := decide (r.st > 0) && (decide (n ≥ r.lo) && (decide (n ≤ r.hi) && (Int.tmod (wrap32 (n - r.lo)) r.st == 0)))
theorem nm_eq (r : FRule) (n : Int) : fold_rule_names.f r.lo r.hi r.st r.far n = some (nm r n) := by
  unfold fold_rule_names.f nm
  by_cases h1 : r.st > 0
  · rw [if_pos h1, decide_eq_true h1]
    by_cases h2 : n ≥ r.lo
    · rw [if_pos h2, decide_eq_true h2]
      by_cases h3 : n ≤ r.hi
      · rw [if_pos h3, decide_eq_true h3, if_neg (by omega)]; rfl
      · rw [if_neg h3, decide_eq_false h3]; rfl
    · rw [if_neg h2, decide_eq_false h2]; rfl
  · rw [if_neg h1, decide_eq_false h1]; rfl
def bsUp (u : Int) (r : FRule) : List Int := if nm r u = true then [wrap32 (u + r.far)] else []
def bsDown (u : Int) (r : FRule) : List Int := if u ≥ r.far then (if nm r (wrap32 (u - r.far)) = true then [wrap32 (u - r.far)] else []) else []
def bsL (u : Int) : List FRule → List Int
  | [] => []
  | r :: l => bsUp u r ++ (bsDown u r ++ bsL u l)
theorem bsL_snoc (u : Int) (r : FRule) : ∀ l : List FRule, bsL u (l ++ [r]) = (bsL u l ++ bsUp u r) ++ bsDown u r
  | [] => by simp [bsL]
  | x :: l => by simp [bsL, bsL_snoc u r l, List.append_assoc]
theorem bsL_length (u : Int) : ∀ l : List FRule, (bsL u l).length ≤ 2 * l.length
  | [] => by simp [bsL]
  | r :: l => by
    have h1 : (bsUp u r).length ≤ 1 := by unfold bsUp; split <;> simp
    have h2 : (bsDown u r).length ≤ 1 := by unfold bsDown; split; split <;> simp; simp
    have := bsL_length u l
    simp only [bsL, List.length_append, List.length_cons]
    omega
theorem bs_take (u : Int) (k : Nat) (hk : k < 22) : bsL u (ruleL.take (k + 1)) = (bsL u (ruleL.take k) ++ bsUp u (ruleL.getD k ⟨0, 0, 0, 0⟩)) ++ bsDown u (ruleL.getD k ⟨0, 0, 0, 0⟩) := by
  have hl : ruleL.length = 22 := rfl
  rw [List.take_succ_eq_append_getElem (by omega), bsL_snoc]
  rw [List.getD_eq_getElem?_getD, List.getElem?_eq_getElem (by omega)]
  rfl
def fold_beside.f (a0 : Int) : Option (List Int) := some (bsL a0 ruleL)
set_option maxHeartbeats 4000000 in
set_option maxRecDepth 100000 in
theorem fold_beside.calls (a0 : Int) (r : List Int) (w : World) (h : fold_beside.f a0 = some r) :
    Calls Tryd.prog 27 #[.int .i32 a0] w fun e w' => ∃ v0_ : Value, e = .returned (v0_) ∧ Kd.R (Kd.int .i32) 21 w' w.heap.size (fun _ => True) v0_ r ∧ Below w.heap.size w w' := by
  obtain rfl := Option.some.inj h
  clear h
  have hu46 := Tryd.underlying47
  go_enter Tryd.func27, Tryd.ntmps27
  go_wp2_with fail
  refine (fold_rules.calls w).mono ?_
  rintro e w1 ⟨rfl, hb⟩
  have HB1 := Aside0.mk hb
  clear hb
  go_wp2_with fail
  go_loopw [3, 7] (fun v3 v7 wr => ∃ k : Nat, k ≤ 22 ∧ v7 = .int .i64 k ∧ Aside0 (Kd.R (Kd.int .i32) 21 wr w.heap.size (fun _ => True) v3 (bsL a0 (ruleL.take k))) ∧ Aside0 (Below w.heap.size w wr)) (fun _ v7 _ => 22 - (intOf v7).toNat)
  case atStart => exact ⟨0, Nat.zero_le _, rfl, ⟨Kd.R_nil _ _ _ _ _⟩, HB1⟩
  case round =>
    obtain ⟨k, hk, rfl, HR, HB⟩ := hrel
    by_cases hlt : k < 22
    · have hidx := rule_index k hlt
      have HT := Aside0.mk (bs_take a0 k hlt)
      have HLN := Aside0.mk (show (bsL a0 (ruleL.take k)).length ≤ 44 by have := bsL_length a0 (ruleL.take k); rw [List.length_take] at this; omega)
      generalize ruleL.getD k ⟨0, 0, 0, 0⟩ = r at hidx HT
      generalize bsL a0 (ruleL.take k) = xs at HR HT HLN
      by_cases q1 : nm r a0 = true
      · have N1 := Aside0.mk ((nm_eq r a0).trans (congrArg some q1))
        have HU := Aside0.mk (show bsUp a0 r = [wrap32 (a0 + r.far)] by unfold bsUp; rw [q1]; rfl)
        clear q1
        by_cases q2 : a0 ≥ r.far
        · by_cases q3 : nm r (wrap32 (a0 - r.far)) = true
          · have N2 := Aside0.mk ((nm_eq r (wrap32 (a0 - r.far))).trans (congrArg some q3))
            have HD := Aside0.mk (show bsDown a0 r = [wrap32 (a0 - r.far)] by unfold bsDown; rw [if_pos q2, q3]; rfl)
            have d2 : decide (r.far ≤ a0) = true := decide_eq_true q2
            clear q3 q2
            go_wp2_with fail
            refine (fold_rule_names.calls r.lo r.hi r.st r.far a0 true _ N1.out).mono ?_
            rintro e w3 ⟨rfl, hb⟩
            have BK3 := Aside0.mk (blk_below (heap_alloc_new wr _) hb)
            have HB3 := Aside0.mk (below_step (below_alloc HB.out _) hb)
            have HR3 := Aside0.mk (Kd.R_below (by apply Kd.R_alloc; exact HR.out) hb)
            clear hb HB HR
            have c0 := (blk_cell BK3.out 0).trans (show _ = some (Value.int .i32 r.lo) from rfl)
            have c1 := (blk_cell BK3.out 1).trans (show _ = some (Value.int .i32 r.hi) from rfl)
            have c2 := (blk_cell BK3.out 2).trans (show _ = some (Value.int .i32 r.st) from rfl)
            have c3 := (blk_cell BK3.out 3).trans (show _ = some (Value.int .i32 r.far) from rfl)
            go_wp2_with ((with_reducible refine gate_builtin (b := .append) (xs := #[.tmp 13, .tmp 18]) rfl ?_); at_builtin; refine Kd.R_append (Kd.int .i32) (w0 := w) w.heap.size rfl (.tmp 13) (.tmp 18) 32 21 (.int .i32 0) 4 rfl Tryd.underlying32 info21 rfl (by decide) (by omega) _ xs (wrap32 (a0 + r.far)) [.int .i32 (wrap32 (a0 + r.far))] (fun _ => True) (fun _ => False) rfl rfl rfl (fun _ hk => hk.elim) (fun _ _ => trivial) HR3.out HB3.out HB3.out.size (by have := HLN.out; (try simp only [List.length_append, List.length_cons, List.length_nil]); omega) ?_; intro v5 w5 ho hb hg hat; have HR5 := Aside0.mk ho; have HB5 := Aside0.mk hb; have BK5 := Aside0.mk (blk_grown BK3.out hg (Kd.R_ne HR3.out BK3.out (by decide))); clear HR3 HB3 BK3 c0 c1 c2 c3; have c0 := (blk_cell BK5.out 0).trans (show _ = some (Value.int .i32 r.lo) from rfl); have c1 := (blk_cell BK5.out 1).trans (show _ = some (Value.int .i32 r.hi) from rfl); have c2 := (blk_cell BK5.out 2).trans (show _ = some (Value.int .i32 r.st) from rfl); have c3 := (blk_cell BK5.out 3).trans (show _ = some (Value.int .i32 r.far) from rfl); clear ho hb hg hat)
            refine (fold_rule_names.calls r.lo r.hi r.st r.far (wrap32 (a0 - r.far)) true _ N2.out).mono ?_
            rintro e w6 ⟨rfl, hb⟩
            have BK6 := Aside0.mk (blk_below BK5.out hb)
            have HB6 := Aside0.mk (below_step HB5.out hb)
            have HR6 := Aside0.mk (Kd.R_below HR5.out hb)
            clear hb HR5 HB5 BK5 c0 c1 c2 c3
            have c0 := (blk_cell BK6.out 0).trans (show _ = some (Value.int .i32 r.lo) from rfl)
            have c1 := (blk_cell BK6.out 1).trans (show _ = some (Value.int .i32 r.hi) from rfl)
            have c2 := (blk_cell BK6.out 2).trans (show _ = some (Value.int .i32 r.st) from rfl)
            have c3 := (blk_cell BK6.out 3).trans (show _ = some (Value.int .i32 r.far) from rfl)
            go_wp2_with ((with_reducible refine gate_builtin (b := .append) (xs := #[.tmp 32, .tmp 37]) rfl ?_); at_builtin; refine Kd.R_append (Kd.int .i32) (w0 := w) w.heap.size rfl (.tmp 32) (.tmp 37) 32 21 (.int .i32 0) 4 rfl Tryd.underlying32 info21 rfl (by decide) (by omega) _ (xs ++ [wrap32 (a0 + r.far)]) (wrap32 (a0 - r.far)) [.int .i32 (wrap32 (a0 - r.far))] (fun _ => True) (fun _ => False) rfl rfl rfl (fun _ hk => hk.elim) (fun _ _ => trivial) HR6.out HB6.out HB6.out.size (by have := HLN.out; (try simp only [List.length_append, List.length_cons, List.length_nil]); omega) ?_; intro v8 w8 ho hb hg hat; have HR8 := Aside0.mk ho; have HB8 := Aside0.mk hb; have BK8 := Aside0.mk (blk_grown BK6.out hg (Kd.R_ne HR6.out BK6.out (by decide))); clear HR6 HB6 BK6 c0 c1 c2 c3; have c0 := (blk_cell BK8.out 0).trans (show _ = some (Value.int .i32 r.lo) from rfl); have c1 := (blk_cell BK8.out 1).trans (show _ = some (Value.int .i32 r.hi) from rfl); have c2 := (blk_cell BK8.out 2).trans (show _ = some (Value.int .i32 r.st) from rfl); have c3 := (blk_cell BK8.out 3).trans (show _ = some (Value.int .i32 r.far) from rfl); clear ho hb hg hat)
            go_roundw
            case rel => exact ⟨k + 1, by omega, by go_num, ⟨by rw [HT.out, HU.out, HD.out]; simpa using HR8.out⟩, HB8⟩
            case measure => simp [intOf]; omega
          · have q3 : nm r (wrap32 (a0 - r.far)) = false := by simpa using q3
            have N2 := Aside0.mk ((nm_eq r (wrap32 (a0 - r.far))).trans (congrArg some q3))
            have HD := Aside0.mk (show bsDown a0 r = [] by unfold bsDown; rw [if_pos q2, q3]; rfl)
            have d2 : decide (r.far ≤ a0) = true := decide_eq_true q2
            clear q3 q2
            go_wp2_with fail
            refine (fold_rule_names.calls r.lo r.hi r.st r.far a0 true _ N1.out).mono ?_
            rintro e w3 ⟨rfl, hb⟩
            have BK3 := Aside0.mk (blk_below (heap_alloc_new wr _) hb)
            have HB3 := Aside0.mk (below_step (below_alloc HB.out _) hb)
            have HR3 := Aside0.mk (Kd.R_below (by apply Kd.R_alloc; exact HR.out) hb)
            clear hb HB HR
            have c0 := (blk_cell BK3.out 0).trans (show _ = some (Value.int .i32 r.lo) from rfl)
            have c1 := (blk_cell BK3.out 1).trans (show _ = some (Value.int .i32 r.hi) from rfl)
            have c2 := (blk_cell BK3.out 2).trans (show _ = some (Value.int .i32 r.st) from rfl)
            have c3 := (blk_cell BK3.out 3).trans (show _ = some (Value.int .i32 r.far) from rfl)
            go_wp2_with ((with_reducible refine gate_builtin (b := .append) (xs := #[.tmp 13, .tmp 18]) rfl ?_); at_builtin; refine Kd.R_append (Kd.int .i32) (w0 := w) w.heap.size rfl (.tmp 13) (.tmp 18) 32 21 (.int .i32 0) 4 rfl Tryd.underlying32 info21 rfl (by decide) (by omega) _ xs (wrap32 (a0 + r.far)) [.int .i32 (wrap32 (a0 + r.far))] (fun _ => True) (fun _ => False) rfl rfl rfl (fun _ hk => hk.elim) (fun _ _ => trivial) HR3.out HB3.out HB3.out.size (by have := HLN.out; (try simp only [List.length_append, List.length_cons, List.length_nil]); omega) ?_; intro v5 w5 ho hb hg hat; have HR5 := Aside0.mk ho; have HB5 := Aside0.mk hb; have BK5 := Aside0.mk (blk_grown BK3.out hg (Kd.R_ne HR3.out BK3.out (by decide))); clear HR3 HB3 BK3 c0 c1 c2 c3; have c0 := (blk_cell BK5.out 0).trans (show _ = some (Value.int .i32 r.lo) from rfl); have c1 := (blk_cell BK5.out 1).trans (show _ = some (Value.int .i32 r.hi) from rfl); have c2 := (blk_cell BK5.out 2).trans (show _ = some (Value.int .i32 r.st) from rfl); have c3 := (blk_cell BK5.out 3).trans (show _ = some (Value.int .i32 r.far) from rfl); clear ho hb hg hat)
            refine (fold_rule_names.calls r.lo r.hi r.st r.far (wrap32 (a0 - r.far)) false _ N2.out).mono ?_
            rintro e w6 ⟨rfl, hb⟩
            have BK6 := Aside0.mk (blk_below BK5.out hb)
            have HB6 := Aside0.mk (below_step HB5.out hb)
            have HR6 := Aside0.mk (Kd.R_below HR5.out hb)
            clear hb HR5 HB5 BK5 c0 c1 c2 c3
            have c0 := (blk_cell BK6.out 0).trans (show _ = some (Value.int .i32 r.lo) from rfl)
            have c1 := (blk_cell BK6.out 1).trans (show _ = some (Value.int .i32 r.hi) from rfl)
            have c2 := (blk_cell BK6.out 2).trans (show _ = some (Value.int .i32 r.st) from rfl)
            have c3 := (blk_cell BK6.out 3).trans (show _ = some (Value.int .i32 r.far) from rfl)
            go_wp2_with fail
            go_roundw
            case rel => exact ⟨k + 1, by omega, by go_num, ⟨by rw [HT.out, HU.out, HD.out]; simpa using HR6.out⟩, HB6⟩
            case measure => simp [intOf]; omega
        · have HD := Aside0.mk (show bsDown a0 r = [] by unfold bsDown; rw [if_neg q2])
          have d2 : decide (r.far ≤ a0) = false := decide_eq_false q2
          clear q2
          go_wp2_with fail
          refine (fold_rule_names.calls r.lo r.hi r.st r.far a0 true _ N1.out).mono ?_
          rintro e w3 ⟨rfl, hb⟩
          have BK3 := Aside0.mk (blk_below (heap_alloc_new wr _) hb)
          have HB3 := Aside0.mk (below_step (below_alloc HB.out _) hb)
          have HR3 := Aside0.mk (Kd.R_below (by apply Kd.R_alloc; exact HR.out) hb)
          clear hb HB HR
          have c0 := (blk_cell BK3.out 0).trans (show _ = some (Value.int .i32 r.lo) from rfl)
          have c1 := (blk_cell BK3.out 1).trans (show _ = some (Value.int .i32 r.hi) from rfl)
          have c2 := (blk_cell BK3.out 2).trans (show _ = some (Value.int .i32 r.st) from rfl)
          have c3 := (blk_cell BK3.out 3).trans (show _ = some (Value.int .i32 r.far) from rfl)
          go_wp2_with ((with_reducible refine gate_builtin (b := .append) (xs := #[.tmp 13, .tmp 18]) rfl ?_); at_builtin; refine Kd.R_append (Kd.int .i32) (w0 := w) w.heap.size rfl (.tmp 13) (.tmp 18) 32 21 (.int .i32 0) 4 rfl Tryd.underlying32 info21 rfl (by decide) (by omega) _ xs (wrap32 (a0 + r.far)) [.int .i32 (wrap32 (a0 + r.far))] (fun _ => True) (fun _ => False) rfl rfl rfl (fun _ hk => hk.elim) (fun _ _ => trivial) HR3.out HB3.out HB3.out.size (by have := HLN.out; (try simp only [List.length_append, List.length_cons, List.length_nil]); omega) ?_; intro v5 w5 ho hb hg hat; have HR5 := Aside0.mk ho; have HB5 := Aside0.mk hb; have BK5 := Aside0.mk (blk_grown BK3.out hg (Kd.R_ne HR3.out BK3.out (by decide))); clear HR3 HB3 BK3 c0 c1 c2 c3; have c0 := (blk_cell BK5.out 0).trans (show _ = some (Value.int .i32 r.lo) from rfl); have c1 := (blk_cell BK5.out 1).trans (show _ = some (Value.int .i32 r.hi) from rfl); have c2 := (blk_cell BK5.out 2).trans (show _ = some (Value.int .i32 r.st) from rfl); have c3 := (blk_cell BK5.out 3).trans (show _ = some (Value.int .i32 r.far) from rfl); clear ho hb hg hat)
          go_roundw
          case rel => exact ⟨k + 1, by omega, by go_num, ⟨by rw [HT.out, HU.out, HD.out]; simpa using HR5.out⟩, HB5⟩
          case measure => simp [intOf]; omega
      · have q1 : nm r a0 = false := by simpa using q1
        have N1 := Aside0.mk ((nm_eq r a0).trans (congrArg some q1))
        have HU := Aside0.mk (show bsUp a0 r = [] by unfold bsUp; rw [q1]; rfl)
        clear q1
        by_cases q2 : a0 ≥ r.far
        · by_cases q3 : nm r (wrap32 (a0 - r.far)) = true
          · have N2 := Aside0.mk ((nm_eq r (wrap32 (a0 - r.far))).trans (congrArg some q3))
            have HD := Aside0.mk (show bsDown a0 r = [wrap32 (a0 - r.far)] by unfold bsDown; rw [if_pos q2, q3]; rfl)
            have d2 : decide (r.far ≤ a0) = true := decide_eq_true q2
            clear q3 q2
            go_wp2_with fail
            refine (fold_rule_names.calls r.lo r.hi r.st r.far a0 false _ N1.out).mono ?_
            rintro e w3 ⟨rfl, hb⟩
            have BK3 := Aside0.mk (blk_below (heap_alloc_new wr _) hb)
            have HB3 := Aside0.mk (below_step (below_alloc HB.out _) hb)
            have HR3 := Aside0.mk (Kd.R_below (by apply Kd.R_alloc; exact HR.out) hb)
            clear hb HB HR
            have c0 := (blk_cell BK3.out 0).trans (show _ = some (Value.int .i32 r.lo) from rfl)
            have c1 := (blk_cell BK3.out 1).trans (show _ = some (Value.int .i32 r.hi) from rfl)
            have c2 := (blk_cell BK3.out 2).trans (show _ = some (Value.int .i32 r.st) from rfl)
            have c3 := (blk_cell BK3.out 3).trans (show _ = some (Value.int .i32 r.far) from rfl)
            go_wp2_with fail
            refine (fold_rule_names.calls r.lo r.hi r.st r.far (wrap32 (a0 - r.far)) true _ N2.out).mono ?_
            rintro e w6 ⟨rfl, hb⟩
            have BK6 := Aside0.mk (blk_below BK3.out hb)
            have HB6 := Aside0.mk (below_step HB3.out hb)
            have HR6 := Aside0.mk (Kd.R_below HR3.out hb)
            clear hb HR3 HB3 BK3 c0 c1 c2 c3
            have c0 := (blk_cell BK6.out 0).trans (show _ = some (Value.int .i32 r.lo) from rfl)
            have c1 := (blk_cell BK6.out 1).trans (show _ = some (Value.int .i32 r.hi) from rfl)
            have c2 := (blk_cell BK6.out 2).trans (show _ = some (Value.int .i32 r.st) from rfl)
            have c3 := (blk_cell BK6.out 3).trans (show _ = some (Value.int .i32 r.far) from rfl)
            go_wp2_with ((with_reducible refine gate_builtin (b := .append) (xs := #[.tmp 32, .tmp 37]) rfl ?_); at_builtin; refine Kd.R_append (Kd.int .i32) (w0 := w) w.heap.size rfl (.tmp 32) (.tmp 37) 32 21 (.int .i32 0) 4 rfl Tryd.underlying32 info21 rfl (by decide) (by omega) _ xs (wrap32 (a0 - r.far)) [.int .i32 (wrap32 (a0 - r.far))] (fun _ => True) (fun _ => False) rfl rfl rfl (fun _ hk => hk.elim) (fun _ _ => trivial) HR6.out HB6.out HB6.out.size (by have := HLN.out; (try simp only [List.length_append, List.length_cons, List.length_nil]); omega) ?_; intro v8 w8 ho hb hg hat; have HR8 := Aside0.mk ho; have HB8 := Aside0.mk hb; have BK8 := Aside0.mk (blk_grown BK6.out hg (Kd.R_ne HR6.out BK6.out (by decide))); clear HR6 HB6 BK6 c0 c1 c2 c3; have c0 := (blk_cell BK8.out 0).trans (show _ = some (Value.int .i32 r.lo) from rfl); have c1 := (blk_cell BK8.out 1).trans (show _ = some (Value.int .i32 r.hi) from rfl); have c2 := (blk_cell BK8.out 2).trans (show _ = some (Value.int .i32 r.st) from rfl); have c3 := (blk_cell BK8.out 3).trans (show _ = some (Value.int .i32 r.far) from rfl); clear ho hb hg hat)
            go_roundw
            case rel => exact ⟨k + 1, by omega, by go_num, ⟨by rw [HT.out, HU.out, HD.out]; simpa using HR8.out⟩, HB8⟩
            case measure => simp [intOf]; omega
          · have q3 : nm r (wrap32 (a0 - r.far)) = false := by simpa using q3
            have N2 := Aside0.mk ((nm_eq r (wrap32 (a0 - r.far))).trans (congrArg some q3))
            have HD := Aside0.mk (show bsDown a0 r = [] by unfold bsDown; rw [if_pos q2, q3]; rfl)
            have d2 : decide (r.far ≤ a0) = true := decide_eq_true q2
            clear q3 q2
            go_wp2_with fail
            refine (fold_rule_names.calls r.lo r.hi r.st r.far a0 false _ N1.out).mono ?_
            rintro e w3 ⟨rfl, hb⟩
            have BK3 := Aside0.mk (blk_below (heap_alloc_new wr _) hb)
            have HB3 := Aside0.mk (below_step (below_alloc HB.out _) hb)
            have HR3 := Aside0.mk (Kd.R_below (by apply Kd.R_alloc; exact HR.out) hb)
            clear hb HB HR
            have c0 := (blk_cell BK3.out 0).trans (show _ = some (Value.int .i32 r.lo) from rfl)
            have c1 := (blk_cell BK3.out 1).trans (show _ = some (Value.int .i32 r.hi) from rfl)
            have c2 := (blk_cell BK3.out 2).trans (show _ = some (Value.int .i32 r.st) from rfl)
            have c3 := (blk_cell BK3.out 3).trans (show _ = some (Value.int .i32 r.far) from rfl)
            go_wp2_with fail
            refine (fold_rule_names.calls r.lo r.hi r.st r.far (wrap32 (a0 - r.far)) false _ N2.out).mono ?_
            rintro e w6 ⟨rfl, hb⟩
            have BK6 := Aside0.mk (blk_below BK3.out hb)
            have HB6 := Aside0.mk (below_step HB3.out hb)
            have HR6 := Aside0.mk (Kd.R_below HR3.out hb)
            clear hb HR3 HB3 BK3 c0 c1 c2 c3
            have c0 := (blk_cell BK6.out 0).trans (show _ = some (Value.int .i32 r.lo) from rfl)
            have c1 := (blk_cell BK6.out 1).trans (show _ = some (Value.int .i32 r.hi) from rfl)
            have c2 := (blk_cell BK6.out 2).trans (show _ = some (Value.int .i32 r.st) from rfl)
            have c3 := (blk_cell BK6.out 3).trans (show _ = some (Value.int .i32 r.far) from rfl)
            go_wp2_with fail
            go_roundw
            case rel => exact ⟨k + 1, by omega, by go_num, ⟨by rw [HT.out, HU.out, HD.out]; simpa using HR6.out⟩, HB6⟩
            case measure => simp [intOf]; omega
        · have HD := Aside0.mk (show bsDown a0 r = [] by unfold bsDown; rw [if_neg q2])
          have d2 : decide (r.far ≤ a0) = false := decide_eq_false q2
          clear q2
          go_wp2_with fail
          refine (fold_rule_names.calls r.lo r.hi r.st r.far a0 false _ N1.out).mono ?_
          rintro e w3 ⟨rfl, hb⟩
          have BK3 := Aside0.mk (blk_below (heap_alloc_new wr _) hb)
          have HB3 := Aside0.mk (below_step (below_alloc HB.out _) hb)
          have HR3 := Aside0.mk (Kd.R_below (by apply Kd.R_alloc; exact HR.out) hb)
          clear hb HB HR
          have c0 := (blk_cell BK3.out 0).trans (show _ = some (Value.int .i32 r.lo) from rfl)
          have c1 := (blk_cell BK3.out 1).trans (show _ = some (Value.int .i32 r.hi) from rfl)
          have c2 := (blk_cell BK3.out 2).trans (show _ = some (Value.int .i32 r.st) from rfl)
          have c3 := (blk_cell BK3.out 3).trans (show _ = some (Value.int .i32 r.far) from rfl)
          go_wp2_with fail
          go_roundw
          case rel => exact ⟨k + 1, by omega, by go_num, ⟨by rw [HT.out, HU.out, HD.out]; simpa using HR3.out⟩, HB3⟩
          case measure => simp [intOf]; omega
    · have hkk : k = 22 := by omega
      subst hkk
      have HR2 := Aside0.mk (show Kd.R (Kd.int .i32) 21 wr w.heap.size (fun _ => True) _ (bsL a0 ruleL) from HR.out)
      clear HR
      go_wp2_with fail
      go_ret
      exact ⟨_, rfl, HR2.out, HB.out⟩


/-! ### slices_Index_rune_rune: function 49 -/
def slices_Index_rune_rune.l0 : Nat → List Int → Int → Int → Int → Option (Int)
  | 0, _, _, _, _ => none
  | k + 1, x0, x1, x7, x8 => if x8 < x7 then (if 0 ≤ x8 then (if x8 < (x0.length : Int) then (if x1 = (rd x0 x8) then (some x8) else (slices_Index_rune_rune.l0 k x0 x1 x7 (wrap64 (x8 + 1)))) else (none)) else (none)) else (some (-1))
def slices_Index_rune_rune.f (k : Nat) (l0 : List Int) (a1 : Int) : Option (Int) := slices_Index_rune_rune.l0 k l0 a1 (l0.length : Int) 0
theorem slices_Index_rune_rune.mono_l : ∀ k, (∀ y0 y1 y2 y3, LeO (slices_Index_rune_rune.l0 k y0 y1 y2 y3) (slices_Index_rune_rune.l0 (k + 1) y0 y1 y2 y3))
  | 0 => fun _ _ _ _ r h => by simp [slices_Index_rune_rune.l0] at h
  | k + 1 => by
    have ih0 := slices_Index_rune_rune.mono_l k
    · intro y0 y1 y2 y3
      unfold slices_Index_rune_rune.l0
      repeat' first
      | (with_reducible exact ih0 _ _ _ _)
      | (with_reducible exact LeO.refl _)
      | (with_reducible exact LeO.none _)
      | (with_reducible refine LeO.ite ?_ ?_)
      | (with_reducible refine LeO.bind ?_ (fun _ => ?_))
      | exact ih0 _ _ _ _
      | exact LeO.none _
      | refine LeO.ite ?_ ?_
      | refine LeO.bind ?_ (fun _ => ?_)
theorem slices_Index_rune_rune.mono : ∀ a0 a1 k, LeO (slices_Index_rune_rune.f k a0 a1) (slices_Index_rune_rune.f (k + 1) a0 a1) := by
  intro a0 a1 k
  have ih0 := slices_Index_rune_rune.mono_l k
  unfold slices_Index_rune_rune.f
  repeat' first
      | (with_reducible exact ih0 _ _ _ _)
      | (with_reducible exact LeO.refl _)
      | (with_reducible exact LeO.none _)
      | (with_reducible refine LeO.ite ?_ ?_)
      | (with_reducible refine LeO.bind ?_ (fun _ => ?_))
      | exact ih0 _ _ _ _
      | exact LeO.none _
      | refine LeO.ite ?_ ?_
      | refine LeO.bind ?_ (fun _ => ?_)
set_option maxHeartbeats 8000000 in
set_option maxRecDepth 100000 in
theorem slices_Index_rune_rune.calls (k : Nat) (A0 : Option Addr) (c0 : Nat) (l0 : List Int) (a1 : Int) (r : Int) (w : World) (hr0 : Kd.C (Kd.int .i32) w A0 l0.length l0) (hc0 : l0.length ≤ c0) (h : slices_Index_rune_rune.f k l0 a1 = some r) :
    Calls Tryd.prog 49 #[.slice A0 l0.length c0, .int .i32 a1] w fun e w' => e = .returned (.int .i64 r) ∧ Drawn0 w w' := by
  have HR0 := Aside0.mk hr0
  have HC0 := Aside0.mk hc0
  clear hr0 hc0
  have H : (slices_Index_rune_rune.l0 k l0 a1 (l0.length : Int) 0) = some r := h
  clear h
  have H' := Aside0.mk H
  clear H
  go_enter Tryd.func49, Tryd.ntmps49
  go_wp2
  go_loopg [8] k (fun kq v8 w' => ∃ (x8_1 : Int), v8 = .int .i64 x8_1 ∧ Aside0 (slices_Index_rune_rune.l0 kq l0 a1 (l0.length : Int) x8_1 = some r) ∧ Aside0 (kq ≤ k) ∧ Drawn0 w w')
  case atStart => exact ⟨(0), (by first | rfl | (simp; done) | (simp [*]; done)), H', ⟨Nat.le_refl _⟩, by repeat (first | exact Drawn0.refl _ | apply Drawn0.step)⟩
  case round =>
    clear H'
    try clear p2
    obtain ⟨x8_1, rfl, HA, HK1, ⟨m1, rfl⟩⟩ := hrel
    cases gk with
    | zero => exact absurd HA.out (by simp [slices_Index_rune_rune.l0])
    | succ k1 =>
      have H := HA.out
      clear HA
      simp only [slices_Index_rune_rune.l0] at H
      by_cases c3 : x8_1 < (l0.length : Int)
      · rw [if_pos c3] at H
        have c3b0 : decide (x8_1 < (l0.length : Int)) = true := decide_eq_true c3
        clear c3
        by_cases c4 : 0 ≤ x8_1
        · rw [if_pos c4] at H
          have c4b0 : decide (0 ≤ x8_1) = true := decide_eq_true c4
          clear c4
          by_cases c5 : x8_1 < (l0.length : Int)
          · rw [if_pos c5] at H
            have c5b0 : decide (x8_1 < (l0.length : Int)) = true := decide_eq_true c5
            clear c5
            by_cases c6 : a1 = (rd l0 x8_1)
            · rw [if_pos c6] at H
              have c6b0 : (a1 == (rd l0 x8_1)) = true := beq_iff_eq.mpr c6
              have c6b1 : (a1 != (rd l0 x8_1)) = false := bne_eq_false_iff_eq.mpr c6
              clear c6
              obtain rfl := Option.some.inj H
              have p102 : 0 ≤ (x8_1 : Int) := of_decide_eq_true (by first | (with_reducible assumption) | assumption)
              have q102 : x8_1 < (l0.length : Int) := of_decide_eq_true (by first | (with_reducible assumption) | assumption)
              obtain ⟨ad102, e102, hx102_0⟩ := Kd.at_int HR0.out x8_1 p102 q102
              cases e102
              replace p102 := eq_true p102
              replace q102 := eq_true q102
              go_wp2
              go_ret
              exact ⟨by first | rfl | (simp; done) | (simp [*]; done), by repeat (first | exact Drawn0.refl _ | apply Drawn0.step)⟩
            · rw [if_neg c6] at H
              have c6b0 : (a1 == (rd l0 x8_1)) = false := beq_eq_false_iff_ne.mpr c6
              have c6b1 : (a1 != (rd l0 x8_1)) = true := bne_iff_ne.mpr c6
              have H' := Aside0.mk H
              clear H
              have p102 : 0 ≤ (x8_1 : Int) := of_decide_eq_true (by first | (with_reducible assumption) | assumption)
              have q102 : x8_1 < (l0.length : Int) := of_decide_eq_true (by first | (with_reducible assumption) | assumption)
              obtain ⟨ad102, e102, hx102_0⟩ := Kd.at_int HR0.out x8_1 p102 q102
              cases e102
              replace p102 := eq_true p102
              replace q102 := eq_true q102
              go_wp2
              go_roundg k1
              case measure => have := HK1.out; omega
              case rel => exact ⟨(wrap64 (x8_1 + 1)), (by first | rfl | (simp; done) | (simp [*]; done)), H', ⟨by have := HK1.out; omega⟩, by repeat (first | exact Drawn0.refl _ | apply Drawn0.step)⟩
          · rw [if_neg c5] at H
            exact absurd H (by simp)
        · rw [if_neg c4] at H
          exact absurd H (by simp)
      · rw [if_neg c3] at H
        have c3b0 : decide (x8_1 < (l0.length : Int)) = false := decide_eq_false c3
        clear c3
        obtain rfl := Option.some.inj H
        go_wp2
        go_ret
        exact ⟨by first | rfl | (simp; done) | (simp [*]; done), by repeat (first | exact Drawn0.refl _ | apply Drawn0.step)⟩

/-! ### slices_Contains_rune_rune: function 28 -/
def slices_Contains_rune_rune.f (k : Nat) (l0 : List Int) (a1 : Int) : Option (Bool) := (slices_Index_rune_rune.f k l0 a1).bind fun t103 => (some (decide (t103 ≥ 0)))
theorem slices_Contains_rune_rune.mono : ∀ a0 a1 k, LeO (slices_Contains_rune_rune.f k a0 a1) (slices_Contains_rune_rune.f (k + 1) a0 a1) := by
  intro a0 a1 k
  unfold slices_Contains_rune_rune.f
  repeat' first
      | (with_reducible exact slices_Index_rune_rune.mono _ _ _)
      | (with_reducible exact LeO.refl _)
      | (with_reducible exact LeO.none _)
      | (with_reducible refine LeO.ite ?_ ?_)
      | (with_reducible refine LeO.bind ?_ (fun _ => ?_))
      | exact slices_Index_rune_rune.mono _ _ _
      | exact LeO.none _
      | refine LeO.ite ?_ ?_
      | refine LeO.bind ?_ (fun _ => ?_)
set_option maxHeartbeats 8000000 in
set_option maxRecDepth 100000 in
theorem slices_Contains_rune_rune.calls (k : Nat) (A0 : Option Addr) (c0 : Nat) (l0 : List Int) (a1 : Int) (r : Bool) (w : World) (hr0 : Kd.C (Kd.int .i32) w A0 l0.length l0) (hc0 : l0.length ≤ c0) (h : slices_Contains_rune_rune.f k l0 a1 = some r) :
    Calls Tryd.prog 28 #[.slice A0 l0.length c0, .int .i32 a1] w fun e w' => e = .returned (.bool r) ∧ Drawn0 w w' := by
  have HR0 := Aside0.mk hr0
  have HC0 := Aside0.mk hc0
  clear hr0 hc0
  have H : ((slices_Index_rune_rune.f k l0 a1).bind fun t103 => (some (decide (t103 ≥ 0)))) = some r := h
  clear h
  replace H := Option.bind_eq_some_iff.mp H
  obtain ⟨t103, A30, H⟩ := H
  replace H : (some (decide (t103 ≥ 0))) = some r := H
  have A3 := Aside0.mk A30
  clear A30
  obtain rfl := Option.some.inj H
  go_enter Tryd.func28, Tryd.ntmps28
  go_wp2_with (first | ((with_reducible refine gate_callee (f := 49) rfl ?_); refine goesL_ (some 7) rfl rfl Tryd.func49 (by kernel_rfl) rfl #[.slice A0 l0.length c0, .int .i32 a1] rfl (by (try simp only [List.map_toArray, List.map_cons, List.map_nil]); first | done | rfl | (simp only [List.length_drop, List.length_take]; rfl)) ?_; (with_reducible refine (slices_Index_rune_rune.calls k _ _ l0 a1 t103 _ ?side1 ?side2 A3.out).mono ?_); (case side1 => repeat (first | exact HR0.out | (with_reducible refine Kd.C_alloc ?_ _) | (with_reducible refine Kd.C_drewN ?_ _) | (with_reducible refine Kd.C_drew ?_))); (case side2 => exact HC0.out); rintro e w' ⟨rfl, ⟨nd, rfl⟩⟩; refine ⟨_, rfl, ?_⟩))
  go_ret
  exact ⟨by first | rfl | (simp; done) | (simp [*]; done), by repeat (first | exact Drawn0.refl _ | apply Drawn0.step)⟩

/-! ### cmp_isNaN_rune: function 79 -/
def cmp_isNaN_rune.f (a0 : Int) : Option (Bool) := some (a0 != a0)
set_option maxHeartbeats 8000000 in
set_option maxRecDepth 100000 in
theorem cmp_isNaN_rune.calls (a0 : Int) (r : Bool) (w : World) (h : cmp_isNaN_rune.f a0 = some r) :
    Calls Tryd.prog 79 #[.int .i32 a0] w fun e w' => e = .returned (.bool r) ∧ Drawn0 w w' := by
  have H : (some (a0 != a0)) = some r := h
  clear h
  obtain rfl := Option.some.inj H
  go_enter Tryd.func79, Tryd.ntmps79
  go_wp2
  go_ret
  exact ⟨by first | rfl | (simp; done) | (simp [*]; done), by repeat (first | exact Drawn0.refl _ | apply Drawn0.step)⟩

/-! ### cmp_Less_rune: function 73 -/
def cmp_Less_rune.f (a0 : Int) (a1 : Int) : Option (Bool) := (cmp_isNaN_rune.f a0).bind fun t104 => (if t104 = true then ((cmp_isNaN_rune.f a1).bind fun t105 => (if t105 = true then (some (decide (a0 < a1))) else (some true))) else (some (decide (a0 < a1))))
set_option maxHeartbeats 8000000 in
set_option maxRecDepth 100000 in
theorem cmp_Less_rune.calls (a0 : Int) (a1 : Int) (r : Bool) (w : World) (h : cmp_Less_rune.f a0 a1 = some r) :
    Calls Tryd.prog 73 #[.int .i32 a0, .int .i32 a1] w fun e w' => e = .returned (.bool r) ∧ Drawn0 w w' := by
  have H : ((cmp_isNaN_rune.f a0).bind fun t104 => (if t104 = true then ((cmp_isNaN_rune.f a1).bind fun t105 => (if t105 = true then (some (decide (a0 < a1))) else (some true))) else (some (decide (a0 < a1))))) = some r := h
  clear h
  replace H := Option.bind_eq_some_iff.mp H
  obtain ⟨t104, A30, H⟩ := H
  replace H : (if t104 = true then ((cmp_isNaN_rune.f a1).bind fun t105 => (if t105 = true then (some (decide (a0 < a1))) else (some true))) else (some (decide (a0 < a1)))) = some r := H
  have A3 := Aside0.mk A30
  clear A30
  by_cases c4 : t104 = true
  · subst c4
    have H1 : ((cmp_isNaN_rune.f a1).bind fun t105 => (if t105 = true then (some (decide (a0 < a1))) else (some true))) = some r := by rw [if_pos rfl] at H; exact H
    clear H
    have H := H1
    clear H1
    replace H := Option.bind_eq_some_iff.mp H
    obtain ⟨t105, A50, H⟩ := H
    replace H : (if t105 = true then (some (decide (a0 < a1))) else (some true)) = some r := H
    have A5 := Aside0.mk A50
    clear A50
    by_cases c6 : t105 = true
    · subst c6
      have H1 : (some (decide (a0 < a1))) = some r := by rw [if_pos rfl] at H; exact H
      clear H
      have H := H1
      clear H1
      obtain rfl := Option.some.inj H
      go_enter Tryd.func73, Tryd.ntmps73
      go_wp2_with (first | ((with_reducible refine gate_callee (f := 79) rfl ?_); refine goesL_ (some 6) rfl rfl Tryd.func79 (by kernel_rfl) rfl #[.int .i32 a0] rfl (by (try simp only [List.map_toArray, List.map_cons, List.map_nil]); first | done | rfl | (simp only [List.length_drop, List.length_take]; rfl)) ?_; (with_reducible refine (cmp_isNaN_rune.calls a0 true _ A3.out).mono ?_); rintro e w' ⟨rfl, ⟨nd, rfl⟩⟩; refine ⟨_, rfl, ?_⟩) | (go_at_call 79; (with_reducible refine (cmp_isNaN_rune.calls a1 true _ A5.out).mono ?_); rintro e w' ⟨rfl, ⟨nd, rfl⟩⟩))
      go_ret
      exact ⟨by first | rfl | (simp; done) | (simp [*]; done), by repeat (first | exact Drawn0.refl _ | apply Drawn0.step)⟩
    · replace c6 := Bool.eq_false_iff.mpr c6
      subst c6
      have H1 : (some true) = some r := by rw [if_neg (show ¬ (false = true) by decide)] at H; exact H
      clear H
      have H := H1
      clear H1
      obtain rfl := Option.some.inj H
      go_enter Tryd.func73, Tryd.ntmps73
      go_wp2_with (first | ((with_reducible refine gate_callee (f := 79) rfl ?_); refine goesL_ (some 6) rfl rfl Tryd.func79 (by kernel_rfl) rfl #[.int .i32 a0] rfl (by (try simp only [List.map_toArray, List.map_cons, List.map_nil]); first | done | rfl | (simp only [List.length_drop, List.length_take]; rfl)) ?_; (with_reducible refine (cmp_isNaN_rune.calls a0 true _ A3.out).mono ?_); rintro e w' ⟨rfl, ⟨nd, rfl⟩⟩; refine ⟨_, rfl, ?_⟩) | (go_at_call 79; (with_reducible refine (cmp_isNaN_rune.calls a1 false _ A5.out).mono ?_); rintro e w' ⟨rfl, ⟨nd, rfl⟩⟩))
      go_ret
      exact ⟨by first | rfl | (simp; done) | (simp [*]; done), by repeat (first | exact Drawn0.refl _ | apply Drawn0.step)⟩
  · replace c4 := Bool.eq_false_iff.mpr c4
    subst c4
    have H1 : (some (decide (a0 < a1))) = some r := by rw [if_neg (show ¬ (false = true) by decide)] at H; exact H
    clear H
    have H := H1
    clear H1
    obtain rfl := Option.some.inj H
    go_enter Tryd.func73, Tryd.ntmps73
    go_wp2_with (first | ((with_reducible refine gate_callee (f := 79) rfl ?_); refine goesL_ (some 6) rfl rfl Tryd.func79 (by kernel_rfl) rfl #[.int .i32 a0] rfl (by (try simp only [List.map_toArray, List.map_cons, List.map_nil]); first | done | rfl | (simp only [List.length_drop, List.length_take]; rfl)) ?_; (with_reducible refine (cmp_isNaN_rune.calls a0 false _ A3.out).mono ?_); rintro e w' ⟨rfl, ⟨nd, rfl⟩⟩; refine ⟨_, rfl, ?_⟩))
    go_ret
    exact ⟨by first | rfl | (simp; done) | (simp [*]; done), by repeat (first | exact Drawn0.refl _ | apply Drawn0.step)⟩

end Go.Proofs.YtcpjflgiimjfmaaDoor.XC
