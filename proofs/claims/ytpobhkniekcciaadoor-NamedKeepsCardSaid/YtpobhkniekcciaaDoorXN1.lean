/- WRITTEN BY A PROGRAM OF THIS SESSION (wip/tools/xprint.py, over the kit's printer): contracts of the functions that the seat's laws reach. -/
import Derived.Test.YtpobhkniekcciaaDoorXN0
namespace Go.Proofs.YtpobhkniekcciaaDoor.XN
open Go.RowKit Go.Proofs.YtpobhkniekcciaaDoorW.PrintWords Go.Proofs.YtpobhkniekcciaaDoorW.PrintLast Go.Proofs.YtpobhkniekcciaaDoorW.PrintMore
attribute [local go_sem] max2_int min2_int max_two min_two max_three min_three max_four min_four   -- for this text's walks alone
set_option linter.unusedVariables false
set_option linter.unusedSimpArgs false

/-! ### named_ranges: function 130 -/
def named_ranges.l0 : Nat → List Int → List (S78) → Int → Option ((List (S78)))
  | 0, _, _, _ => none
  | k + 1, x0, x3, x4 => if (wrap64 (x4 + 1)) < (x0.length : Int) then (if 0 ≤ x4 then (if x4 < (x0.length : Int) then (if 0 ≤ (wrap64 (x4 + 1)) then (if x3.length < 17592186044416 then (named_ranges.l0 k x0 (x3 ++ [(⟨rd x0 x4, rd x0 (wrap64 (x4 + 1))⟩ : S78)]) (wrap64 (x4 + 2))) else (none)) else (none)) else (none)) else (none)) else (some x3)
def named_ranges.f (k : Nat) (l0 : List Int) : Option ((List (S78))) := named_ranges.l0 k l0 ([] : List (S78)) 0
theorem named_ranges.mono_l : ∀ k, (∀ y0 y1 y2, LeO (named_ranges.l0 k y0 y1 y2) (named_ranges.l0 (k + 1) y0 y1 y2))
  | 0 => fun _ _ _ r h => by simp [named_ranges.l0] at h
  | k + 1 => by
    have ih0 := named_ranges.mono_l k
    · intro y0 y1 y2
      unfold named_ranges.l0
      repeat' first
      | (with_reducible exact ih0 _ _ _)
      | (with_reducible exact LeO.refl _)
      | (with_reducible exact LeO.none _)
      | (with_reducible refine LeO.ite ?_ ?_)
      | (with_reducible refine LeO.bind ?_ (fun _ => ?_))
      | exact ih0 _ _ _
      | exact LeO.none _
      | refine LeO.ite ?_ ?_
      | refine LeO.bind ?_ (fun _ => ?_)
theorem named_ranges.mono : ∀ a0 k, LeO (named_ranges.f k a0) (named_ranges.f (k + 1) a0) := by
  intro a0 k
  have ih0 := named_ranges.mono_l k
  unfold named_ranges.f
  repeat' first
      | (with_reducible exact ih0 _ _ _)
      | (with_reducible exact LeO.refl _)
      | (with_reducible exact LeO.none _)
      | (with_reducible refine LeO.ite ?_ ?_)
      | (with_reducible refine LeO.bind ?_ (fun _ => ?_))
      | exact ih0 _ _ _
      | exact LeO.none _
      | refine LeO.ite ?_ ?_
      | refine LeO.bind ?_ (fun _ => ?_)
def named_ranges.T5 : Bool × List (List Nat × List Nat) := (true, [([], []), ([], []), ([], []), ([1, 2], [1, 2]), ([3], [3]), ([], []), ([], []), ([6], [6]), ([5, 7], [5, 7]), ([8], [8]), ([4, 9], [4, 9]), ([10], [10]), ([0, 11], [0, 11]), ([12, 12, 0, 1, 2, 3, 4, 5, 6, 7, 8, 9, 10, 11, 12], [0, 12])])
def named_ranges.B5 : List Nat := [0, 0, 0, 6, 14, 0, 0, 64, 224, 480, 1022, 2046, 4095, 8191]
theorem named_ranges.tab5 : rtab .any (opsOf Tryd.f130 5) = named_ranges.T5 := by kernel_rfl
theorem named_ranges.bits5 : waitsOk named_ranges.T5.2 named_ranges.B5 = true := by kernel_rfl
set_option maxHeartbeats 8000000 in
set_option maxRecDepth 100000 in
theorem named_ranges.calls (k : Nat) (A0 : Option Addr) (c0 : Nat) (l0 : List Int) (r : List (S78)) (w : World) (hr0 : Kd.C (Kd.int .i32) w A0 l0.length l0) (hc0 : l0.length ≤ c0) (h : named_ranges.f k l0 = some r) (hG : GOK w := by first | (with_reducible exact HG_.out) | exact GOK.below HG_.out (by repeat (first | (with_reducible exact Below.refl _ _) | (with_reducible first | exact HB.out | apply below_alloc | apply pw_below_drewN | apply below_drew1 | refine below_set ?_ (Aside0.out (by assumption))) | exact HB.out)) | exact GOK.drewN HG_.out _ | exact GOK.drewN (GOK.drewN HG_.out _) _ | exact GOK.drew HG_.out) :
    Calls Tryd.prog 130 #[.slice A0 l0.length c0] w fun e w' => ∃ v0_ : Value, e = .returned (v0_) ∧ Kd.R k78 78 w' w.heap.size (fun _ => True) v0_ r ∧ Below w.heap.size w w' := by
  have HG_ := Aside0.mk hG
  clear hG
  have hu78 := Tryd.underlying78
  have HR0 := Aside0.mk hr0
  have HC0 := Aside0.mk hc0
  clear hr0 hc0
  have HB := Aside0.mk (Below.refl w.heap.size w)
  have H : (named_ranges.l0 k l0 ([] : List (S78)) 0) = some r := h
  clear h
  have H' := Aside0.mk H
  clear H
  go_enter Tryd.func130, Tryd.ntmps130
  go_wp2
  go_loopg [3, 4] k (fun kq v3 v4 w' => ∃ (x3_1 : List (S78)) (x4_1 : Int), v4 = .int .i64 x4_1 ∧ Aside0 (named_ranges.l0 kq l0 x3_1 x4_1 = some r) ∧ Aside0 (kq ≤ k) ∧ Aside0 (Kd.R k78 78 w' w.heap.size (fun _ => True) v3 x3_1) ∧ Aside0 (Below w.heap.size w w'))
  case atStart => exact ⟨(([] : List (S78))), (0), (by first | rfl | (simp; done) | (simp [*]; done)), H', ⟨Nat.le_refl _⟩, ⟨by first | exact Kd.R_nil _ _ _ _ _ | exact Kd.N_nil _ _ _ _ _ | exact Kd.V_nil _ _ _ _ _ | exact Kd.Q_nil _ _ _ _ _ | exact Kd.S_nil _ _ _ _ _⟩, ⟨by repeat (first | (with_reducible first | exact HB.out | apply below_alloc | apply pw_below_drewN | apply below_drew1) | exact HB.out)⟩⟩
  case round =>
    clear H'
    try clear c1
    obtain ⟨x3_1, x4_1, rfl, HA, HK1, HO_3, HB⟩ := hrel
    cases gk with
    | zero => exact absurd HA.out (by simp [named_ranges.l0])
    | succ k1 =>
      have H := HA.out
      clear HA
      simp only [named_ranges.l0] at H
      by_cases c2 : (wrap64 (x4_1 + 1)) < (l0.length : Int)
      · rw [if_pos c2] at H
        have c2b0 : decide ((wrap64 (x4_1 + 1)) < (l0.length : Int)) = true := decide_eq_true c2
        clear c2
        by_cases c3 : 0 ≤ x4_1
        · rw [if_pos c3] at H
          have c3b0 : decide (0 ≤ x4_1) = true := decide_eq_true c3
          clear c3
          by_cases c4 : x4_1 < (l0.length : Int)
          · rw [if_pos c4] at H
            have c4b0 : decide (x4_1 < (l0.length : Int)) = true := decide_eq_true c4
            clear c4
            obtain ⟨ji5, hji5⟩ : ∃ j_ : Int, (wrap64 (x4_1 + 1)) = j_ := ⟨_, rfl⟩
            replace H : (if 0 ≤ (ji5) then (if x3_1.length < 17592186044416 then (named_ranges.l0 k1 l0 (x3_1 ++ [(⟨rd l0 x4_1, rd l0 (ji5)⟩ : S78)]) (wrap64 (x4_1 + 2))) else (none)) else (none)) = some r := by first | (rw [hji5] at H; exact H) | (simp only [hji5] at H ⊢; exact H)
            (try rw [hji5] at c2b0)
            have hji5w : (IntKind.i64.wrap (x4_1 + 1)) = ji5 := (i64_w _).trans hji5
            by_cases c6 : 0 ≤ (ji5)
            · rw [if_pos c6] at H
              have c6b0 : decide (0 ≤ (ji5)) = true := decide_eq_true c6
              clear c6
              by_cases c7 : x3_1.length < 17592186044416
              · rw [if_pos c7] at H
                have LMc7 := Aside0.mk c7
                clear c7
                obtain ⟨y103, hy103⟩ : ∃ y_ : List (S78), y_ = (x3_1 ++ [(⟨rd l0 x4_1, rd l0 (ji5)⟩ : S78)]) := ⟨_, rfl⟩
                replace H : (named_ranges.l0 k1 l0 y103 (wrap64 (x4_1 + 2))) = some r := by first | (rw [hy103]; with_reducible exact H) | (have H2_ := (Option.bind_some _ _).symm.trans H; rw [hy103]; with_reducible exact H2_) | (have H2_ := (Option.bind_some _ _).symm.trans H; with_reducible exact H2_) | with_reducible exact H | (rw [hy103]; exact H) | exact H
                have Ny103 := Aside0.mk hy103
                clear hy103
                have H' := Aside0.mk H
                clear H
                try go_wp2
                have n0_ := Aside0.mk (Kd.R_drew HO_3.out)
                have n1_ := Aside0.mk (below_drew1 HB.out)
                clear HO_3
                clear HB
                have HO_3 := n0_
                have HB := n1_
                clear n0_ n1_
                have p101 : 0 ≤ (x4_1 : Int) := of_decide_eq_true (by first | (with_reducible assumption) | assumption)
                have q101 : x4_1 < (l0.length : Int) := of_decide_eq_true (by first | (with_reducible assumption) | assumption)
                obtain ⟨ad101, e101, hx101_0⟩ := Kd.at_int HR0.out x4_1 p101 q101
                have hw101_0 := hx101_0
                cases e101
                replace hx101_0 := (HB.out.cell (World.block_lt_of_cell? w _ hx101_0)).trans hx101_0
                replace p101 := eq_true p101
                replace q101 := eq_true q101
                have p102 : 0 ≤ ((ji5) : Int) := of_decide_eq_true (by first | (with_reducible assumption) | assumption)
                have q102 : (ji5) < (l0.length : Int) := of_decide_eq_true (by first | (with_reducible assumption) | assumption)
                obtain ⟨ad102, e102, hx102_0⟩ := Kd.at_int HR0.out (ji5) p102 q102
                have hw102_0 := hx102_0
                obtain rfl : ad101 = ad102 := (by injection e102)
                replace hx102_0 := (HB.out.cell (World.block_lt_of_cell? w _ hx102_0)).trans hx102_0
                replace p102 := eq_true p102
                replace q102 := eq_true q102
                refine start_ (n := 14) (S := fun w' => w'.cell? (ad101.add (x4_1).toNat) = some (.int .i32 (rd l0 x4_1)) ∧ w'.cell? (ad101.add ((ji5)).toNat) = some (.int .i32 (rd l0 (ji5)))) (ds := []) #[false, false, false, false, false, false, false, false, false, false, false, false, false, false] (by kernel_rfl) rfl rfl ⟨((HB.out.cell (World.block_lt_of_cell? w _ hw101_0)).trans hw101_0), ((HB.out.cell (World.block_lt_of_cell? w _ hw102_0)).trans hw102_0)⟩ (fun hHeld => ?_); refine with_tabW named_ranges.tab5 named_ranges.bits5 (fun HT_ HW_ => ?_)
                generalize wr.drew = w8 at HO_3 HB hx101_0 hx102_0 hHeld ⊢
                refine pure_ (i := 0) (N := some 12) (v := ?_) (a' := ?_) #[true, false, false, false, false, false, false, false, false, false, false, false, false, false] rfl rfl (any_of HT_.out (by kernel_rfl)) (fun _ _ _ h => h) (Or.inl ⟨by rfl, ?_⟩) ?_ ?_
                rotate_left
                · intro w'
                  go_simp
                  with_reducible rfl
                rotate_left
                · simp only [Act.put, List.setIfInBounds_toArray, List.set_cons_zero, List.set_cons_succ, i64_w, i32_w]
                  rfl
                refine pure_ (i := 1) (N := some 13) (v := ?_) (a' := ?_) #[true, true, false, false, false, false, false, false, false, false, false, false, false, false] rfl rfl (any_of HT_.out (by kernel_rfl)) (fun _ _ _ h => h) (Or.inl ⟨by rfl, ?_⟩) ?_ ?_
                rotate_left
                · intro w'
                  go_simp
                  with_reducible rfl
                rotate_left
                · simp only [Act.put, List.setIfInBounds_toArray, List.set_cons_zero, List.set_cons_succ, i64_w, i32_w]
                  rfl
                refine pure_ (i := 2) (N := some 14) (v := ?_) (a' := ?_) #[true, true, true, false, false, false, false, false, false, false, false, false, false, false] rfl rfl (any_of HT_.out (by kernel_rfl)) (fun _ _ _ h => h) (Or.inl ⟨by rfl, ?_⟩) ?_ ?_
                rotate_left
                · intro w'
                  go_simp
                  with_reducible rfl
                rotate_left
                · simp only [Act.put, List.setIfInBounds_toArray, List.set_cons_zero, List.set_cons_succ, i64_w, i32_w]
                  rfl
                refine pure_ (i := 3) (N := some 15) (v := ?_) (a' := ?_) #[true, true, true, true, false, false, false, false, false, false, false, false, false, false] rfl rfl (any_of HT_.out (by kernel_rfl)) (fun _ _ _ h => h) (Or.inl ⟨by rfl, ?_⟩) ?_ ?_
                rotate_left
                · intro w'
                  go_simp
                  with_reducible rfl
                rotate_left
                · simp only [Act.put, List.setIfInBounds_toArray, List.set_cons_zero, List.set_cons_succ, i64_w, i32_w]
                  rfl
                refine pure_ (i := 5) (N := some 17) (v := ?_) (a' := ?_) #[true, true, true, true, false, true, false, false, false, false, false, false, false, false] rfl rfl (any_of HT_.out (by kernel_rfl)) (fun _ _ _ h => h) (Or.inl ⟨by rfl, ?_⟩) ?_ ?_
                rotate_left
                · intro w'
                  go_simp
                  with_reducible rfl
                rotate_left
                · simp only [Act.put, List.setIfInBounds_toArray, List.set_cons_zero, List.set_cons_succ, i64_w, i32_w]
                  rfl
                refine pure_ (i := 6) (N := some 18) (v := ?_) (a' := ?_) #[true, true, true, true, false, true, true, false, false, false, false, false, false, false] rfl rfl (any_of HT_.out (by kernel_rfl)) (fun _ _ _ h => h) (Or.inl ⟨by rfl, ?_⟩) ?_ ?_
                rotate_left
                · intro w'
                  go_simp
                  with_reducible rfl
                rotate_left
                · simp only [Act.put, List.setIfInBounds_toArray, List.set_cons_zero, List.set_cons_succ, i64_w, i32_w]
                  rfl
                refine pure_ (i := 7) (N := some 19) (v := ?_) (a' := ?_) #[true, true, true, true, false, true, true, true, false, false, false, false, false, false] rfl rfl (any_of HT_.out (by kernel_rfl)) (fun _ _ _ h => h) (Or.inl ⟨by rfl, ?_⟩) ?_ ?_
                rotate_left
                · intro w'
                  go_simp
                  with_reducible rfl
                rotate_left
                · simp only [Act.put, List.setIfInBounds_toArray, List.set_cons_zero, List.set_cons_succ, i64_w, i32_w]
                  rfl
                refine pure_ (i := 8) (N := some 20) (v := ?_) (a' := ?_) #[true, true, true, true, false, true, true, true, true, false, false, false, false, false] rfl rfl (any_of HT_.out (by kernel_rfl)) (fun _ _ _ h => h) (Or.inl ⟨by rfl, ?_⟩) ?_ ?_
                rotate_left
                · intro w'
                  go_simp
                  with_reducible rfl
                rotate_left
                · simp only [Act.put, List.setIfInBounds_toArray, List.set_cons_zero, List.set_cons_succ, i64_w, i32_w]
                  rfl
                refine take_ (i := 4) (N := some 16) (v := ?_) (a' := ?_) #[true, true, true, true, true, true, true, true, true, false, false, false, false, false] rfl rfl (take_ofW HT_.out HW_.out (by kernel_rfl)) (fun _ _ _ h => h) (Or.inl ⟨by rfl, ?_⟩) hHeld ?_ ?_
                rotate_left
                · rintro w' ⟨s0, s1⟩
                  go_simp
                  with_reducible rfl
                rotate_left
                · simp only [Act.put, List.setIfInBounds_toArray, List.set_cons_zero, List.set_cons_succ, i64_w, i32_w]
                  rfl
                refine take_ (i := 9) (N := some 21) (v := ?_) (a' := ?_) #[true, true, true, true, true, true, true, true, true, true, false, false, false, false] rfl rfl (take_ofW HT_.out HW_.out (by kernel_rfl)) (fun _ _ _ h => h) (Or.inl ⟨by rfl, ?_⟩) hHeld ?_ ?_
                rotate_left
                · rintro w' ⟨s0, s1⟩
                  go_simp
                  with_reducible rfl
                rotate_left
                · simp only [Act.put, List.setIfInBounds_toArray, List.set_cons_zero, List.set_cons_succ, i64_w, i32_w]
                  rfl
                refine pure_ (i := 10) (N := some 22) (v := ?_) (a' := ?_) #[true, true, true, true, true, true, true, true, true, true, true, false, false, false] rfl rfl (any_of HT_.out (by kernel_rfl)) (fun _ _ _ h => h) (Or.inl ⟨by rfl, ?_⟩) ?_ ?_
                rotate_left
                · intro w'
                  go_simp
                  with_reducible rfl
                rotate_left
                · simp only [Act.put, List.setIfInBounds_toArray, List.set_cons_zero, List.set_cons_succ, i64_w, i32_w]
                  rfl
                refine one_ (i := 11) (N := some 23) #[true, true, true, true, true, true, true, true, true, true, true, true, false, false] rfl rfl (one_of HT_.out (by kernel_rfl)) (by decide) (fun K hK => ?_)
                refine value_ (w1 := ?_) (v := ?_) (by rfl) rfl ?_ ?_
                rotate_left 2
                · go_simp
                  constructor
                  · rfl
                  · rfl
                refine hK.out _ _ ⟨(World.cell?_alloc_lt _ _ _ (World.block_lt_of_cell? _ _ (((HB.out.cell (World.block_lt_of_cell? w _ hw101_0)).trans hw101_0)))).trans (((HB.out.cell (World.block_lt_of_cell? w _ hw101_0)).trans hw101_0)), (World.cell?_alloc_lt _ _ _ (World.block_lt_of_cell? _ _ (((HB.out.cell (World.block_lt_of_cell? w _ hw102_0)).trans hw102_0)))).trans (((HB.out.cell (World.block_lt_of_cell? w _ hw102_0)).trans hw102_0))⟩ (fun hHeld => ?_)
                clear hK K
                refine norm_ (a' := ?_) ?_ ?_
                rotate_left
                · show Act.put _ (some 23) _ = _
                  simp only [Act.put, List.setIfInBounds_toArray, List.set_cons_zero, List.set_cons_succ, i64_w, i32_w]
                  rfl
                refine one_ (i := 12) (N := some 24) #[true, true, true, true, true, true, true, true, true, true, true, true, true, false] rfl rfl (one_of HT_.out (by kernel_rfl)) (by decide) (fun K hK => ?_)
                refine Kd.R_append_step k78 (w0 := w) w.heap.size (by rfl) (.tmp 12) (.tmp 23) 42 78 (.agg #[(.int .i32 0), (.int .i32 0)]) 8 rfl Tryd.underlying42 info78 rfl (by decide) (by omega) u3 x3_1 (⟨rd l0 x4_1, rd l0 (ji5)⟩ : S78) [.int .i32 (rd l0 x4_1), .int .i32 (rd l0 (ji5))] (fun _ => True) (fun _ => False) rfl rfl ?aP (fun _ hk => hk.elim) ?aF ?aO ?aB ?aS ?aL ?_
                (case aP => exact k78_mkM _ _ _ (⟨rd l0 x4_1, rd l0 (ji5)⟩ : S78))
                (case aB => exact (by repeat (first | (with_reducible first | exact HB.out | apply below_alloc | apply pw_below_drewN | apply below_drew1) | exact HB.out)))
                (case aF => exact (fun _ _ => trivial))
                (case aO => exact (by (with_reducible repeat (first | apply Kd.R_alloc | apply Kd.R_drewN | apply Kd.R_drew)); exact HO_3.out))
                (case aS => exact (below_size (by repeat (first | (with_reducible first | exact HB.out | apply below_alloc | apply pw_below_drewN | apply below_drew1) | exact HB.out))))
                (case aL => have := LMc7.out; omega)
                intro v104 w9 ho hb hg hat
                rw [← Ny103.out] at ho
                have n0_ := Aside0.mk (hb)
                have n1_ := Aside0.mk (ho)
                clear HB
                clear HO_3
                have HB := n0_
                have HO105 := n1_
                clear n0_ n1_
                clear ho hb hg hat
                refine hK.out _ _ ⟨((HB.out.cell (World.block_lt_of_cell? w _ hw101_0)).trans hw101_0), ((HB.out.cell (World.block_lt_of_cell? w _ hw102_0)).trans hw102_0)⟩ (fun hHeld => ?_)
                clear hK K
                refine norm_ (a' := ?_) ?_ ?_
                rotate_left
                · show Act.put _ (some 24) _ = _
                  simp only [Act.put, List.setIfInBounds_toArray, List.set_cons_zero, List.set_cons_succ, i64_w, i32_w]
                  rfl
                refine pure_ (i := 13) (N := some 3) (v := ?_) (a' := ?_) #[true, true, true, true, true, true, true, true, true, true, true, true, true, true] rfl rfl (any_of HT_.out (by kernel_rfl)) (fun _ _ _ h => h) (Or.inl ⟨by rfl, ?_⟩) ?_ ?_
                rotate_left
                · intro w'
                  go_simp
                  with_reducible rfl
                rotate_left
                · simp only [Act.put, List.setIfInBounds_toArray, List.set_cons_zero, List.set_cons_succ, i64_w, i32_w]
                  rfl
                refine done_ (done_of HT_.out (by kernel_rfl)) ?_
                try go_wp2
                go_roundg k1
                case measure => have := HK1.out; omega
                case rel => exact ⟨(y103), (wrap64 (x4_1 + 2)), (by first | rfl | (simp; done) | (simp [*]; done)), H', ⟨by have := HK1.out; omega⟩, ⟨by (with_reducible repeat (first | apply Kd.R_alloc | apply Kd.R_drewN | apply Kd.R_drew)); exact HO105.out⟩, ⟨by repeat (first | (with_reducible first | exact HB.out | apply below_alloc | apply pw_below_drewN | apply below_drew1) | exact HB.out)⟩⟩
              · rw [if_neg c7] at H
                exact absurd H (by simp)
            · rw [if_neg c6] at H
              exact absurd H (by simp)
          · rw [if_neg c4] at H
            exact absurd H (by simp)
        · rw [if_neg c3] at H
          exact absurd H (by simp)
      · rw [if_neg c2] at H
        have c2b0 : decide ((wrap64 (x4_1 + 1)) < (l0.length : Int)) = false := decide_eq_false c2
        clear c2
        obtain rfl := Option.some.inj H
        go_wp2
        go_ret
        exact ⟨_, by first | rfl | (simp [errW_none, errW_some] <;> rfl) | (simp [*, errW_none, errW_some] <;> rfl), by (with_reducible repeat (first | apply Kd.R_alloc | apply Kd.R_drewN | apply Kd.R_drew)); exact HO_3.out, by repeat (first | (with_reducible first | exact HB.out | apply below_alloc | apply pw_below_drewN | apply below_drew1) | exact HB.out)⟩

-- NOT PRINTED: function 75 (named_classes)

/-! ### named_Class: function 30 -/
def classTab : List (ByteArray × List S78) :=
  [((⟨#[97, 108, 110, 117, 109]⟩ : ByteArray), [⟨48, 57⟩, ⟨65, 90⟩, ⟨97, 122⟩, ⟨192, 214⟩, ⟨216, 246⟩, ⟨248, 591⟩, ⟨913, 929⟩, ⟨931, 937⟩, ⟨945, 969⟩, ⟨1024, 1119⟩]),
   ((⟨#[97, 108, 112, 104, 97]⟩ : ByteArray), [⟨65, 90⟩, ⟨97, 122⟩, ⟨192, 214⟩, ⟨216, 246⟩, ⟨248, 591⟩, ⟨913, 929⟩, ⟨931, 937⟩, ⟨945, 969⟩, ⟨1024, 1119⟩]),
   ((⟨#[97, 110, 121]⟩ : ByteArray), [⟨0, 55295⟩, ⟨57344, 1114111⟩, ⟨1114240, 1114367⟩]),
   ((⟨#[97, 115, 99, 105, 105]⟩ : ByteArray), [⟨0, 127⟩]),
   ((⟨#[98, 97, 100]⟩ : ByteArray), [⟨1114240, 1114367⟩]),
   ((⟨#[98, 108, 97, 110, 107]⟩ : ByteArray), [⟨9, 9⟩, ⟨32, 32⟩]),
   ((⟨#[99, 110, 116, 114, 108]⟩ : ByteArray), [⟨0, 31⟩, ⟨127, 127⟩]),
   ((⟨#[99, 121, 114, 105, 108, 108, 105, 99]⟩ : ByteArray), [⟨1024, 1327⟩]),
   ((⟨#[100, 105, 103, 105, 116]⟩ : ByteArray), [⟨48, 57⟩]),
   ((⟨#[103, 114, 97, 112, 104]⟩ : ByteArray), [⟨33, 126⟩]),
   ((⟨#[103, 114, 101, 101, 107]⟩ : ByteArray), [⟨880, 1023⟩]),
   ((⟨#[108, 97, 116, 105, 110]⟩ : ByteArray), [⟨65, 90⟩, ⟨97, 122⟩, ⟨170, 170⟩, ⟨186, 186⟩, ⟨192, 214⟩, ⟨216, 246⟩, ⟨248, 591⟩]),
   ((⟨#[108, 111, 119, 101, 114]⟩ : ByteArray), [⟨97, 122⟩, ⟨223, 246⟩, ⟨248, 255⟩, ⟨945, 969⟩, ⟨1072, 1119⟩]),
   ((⟨#[112, 114, 105, 110, 116]⟩ : ByteArray), [⟨32, 126⟩]),
   ((⟨#[112, 117, 110, 99, 116]⟩ : ByteArray), [⟨33, 47⟩, ⟨58, 64⟩, ⟨91, 96⟩, ⟨123, 126⟩]),
   ((⟨#[114, 117, 110, 101]⟩ : ByteArray), [⟨0, 55295⟩, ⟨57344, 1114111⟩]),
   ((⟨#[115, 112, 97, 99, 101]⟩ : ByteArray), [⟨9, 13⟩, ⟨32, 32⟩]),
   ((⟨#[117, 112, 112, 101, 114]⟩ : ByteArray), [⟨65, 90⟩, ⟨192, 214⟩, ⟨216, 222⟩, ⟨913, 929⟩, ⟨931, 937⟩, ⟨1024, 1071⟩]),
   ((⟨#[119, 111, 114, 100]⟩ : ByteArray), [⟨48, 57⟩, ⟨65, 90⟩, ⟨95, 95⟩, ⟨97, 122⟩]),
   ((⟨#[120, 100, 105, 103, 105, 116]⟩ : ByteArray), [⟨48, 57⟩, ⟨65, 70⟩, ⟨97, 102⟩])]
theorem ranges_lit (W : World) (b : Nat) (hbw : b = W.heap.size) (zs : List Int) (r : List S78) (cs : Array Value) (n : Nat) (h1 : cs = (zs.map fun z => Value.int .i32 z).toArray) (h2 : n = zs.length) (h3 : zs.length ≤ 9223372036854775807) (h : named_ranges.f 30 zs = some r) (hG : GOK W) :
    Calls Tryd.prog 130 #[.slice (some ⟨b, 0, none⟩) n n] (W.alloc (.cells cs 21)) fun e w' => ∃ v0_ : Value, e = .returned (v0_) ∧ Kd.R k78 78 w' W.heap.size (fun _ => True) v0_ r ∧ Below W.heap.size W w' := by
  have hb := below_alloc (Below.refl W.heap.size W) (.cells cs 21)
  have hl := XLib.lits_reads W .i32 21 cs zs n h1 h2 h3
  subst h2 hbw
  refine (named_ranges.calls 30 _ _ zs r _ hl (Nat.le_refl _) h (hG.below hb)).mono ?_
  rintro e w' ⟨v, he, hv, hb2⟩
  exact ⟨v, he, Kd.R_lower hv hb.size, below_step hb hb2⟩
set_option maxHeartbeats 8000000 in
set_option maxRecDepth 100000 in
theorem named_classes.calls (w : World) (hG : GOK w) :
    Calls Tryd.prog 75 #[] w fun e w' => ∃ B, e = .returned (.map (some B)) ∧ XLib.MapOwn k78 78 w' w.heap.size B classTab ∧ Below w.heap.size w w' := by
  have hmm := @run_makeMap Tryd.prog
  have HG_ := Aside0.mk hG
  clear hG
  have HM := Aside0.mk (XLib.MapOwn.new k78 78 w w.heap.size (Nat.le_refl _))
  have HB := Aside0.mk (below_alloc (Below.refl w.heap.size w) (.map #[] 0))
  go_enter Tryd.func75, Tryd.ntmps75
  go_wp2_with fail
  refine (ranges_lit _ _ (by first | rfl | (simp; done)) [48, 57, 65, 90, 97, 122, 192, 214, 216, 246, 248, 591, 913, 929, 931, 937, 945, 969, 1024, 1119] [⟨48, 57⟩, ⟨65, 90⟩, ⟨97, 122⟩, ⟨192, 214⟩, ⟨216, 246⟩, ⟨248, 591⟩, ⟨913, 929⟩, ⟨931, 937⟩, ⟨945, 969⟩, ⟨1024, 1119⟩] _ _ rfl rfl (by decide) (by kernel_rfl) (HG_.out.below HB.out)).mono ?_
  rintro e w1 ⟨v1, rfl, hv, hb⟩
  have HM2 := Aside0.mk (HM.out.below hb)
  have HV := Aside0.mk (Kd.R_lower hv HB.out.size)
  have HB2 := Aside0.mk (below_step HB.out hb)
  clear HM HB hv hb
  go_wp2_with ((with_reducible refine XLib.wpList_insert_new rfl _ _ _ _ _ _ rfl rfl Tryd.underlying128 Tryd.underlying9 w.heap.size _ _ rfl (⟨#[97, 108, 110, 117, 109]⟩ : ByteArray) rfl v1 rfl HM2.out (by kernel_rfl) ?_); (have HM := Aside0.mk (HM2.out.insert (⟨#[97, 108, 110, 117, 109]⟩ : ByteArray) _ _ HV.out)); (have HB := Aside0.mk (XLib.putEntry_below (s := (⟨#[97, 108, 110, 117, 109]⟩ : ByteArray)) (v := v1) HB2.out HM2.out.base_le)); clear HM2 HB2 HV)
  refine (ranges_lit _ _ (by first | rfl | (simp; done)) [65, 90, 97, 122, 192, 214, 216, 246, 248, 591, 913, 929, 931, 937, 945, 969, 1024, 1119] [⟨65, 90⟩, ⟨97, 122⟩, ⟨192, 214⟩, ⟨216, 246⟩, ⟨248, 591⟩, ⟨913, 929⟩, ⟨931, 937⟩, ⟨945, 969⟩, ⟨1024, 1119⟩] _ _ rfl rfl (by decide) (by kernel_rfl) (HG_.out.below HB.out)).mono ?_
  rintro e w2 ⟨v2, rfl, hv, hb⟩
  have HM2 := Aside0.mk (HM.out.below hb)
  have HV := Aside0.mk (Kd.R_lower hv HB.out.size)
  have HB2 := Aside0.mk (below_step HB.out hb)
  clear HM HB hv hb
  go_wp2_with ((with_reducible refine XLib.wpList_insert_new rfl _ _ _ _ _ _ rfl rfl Tryd.underlying128 Tryd.underlying9 w.heap.size _ _ rfl (⟨#[97, 108, 112, 104, 97]⟩ : ByteArray) rfl v2 rfl HM2.out (by kernel_rfl) ?_); (have HM := Aside0.mk (HM2.out.insert (⟨#[97, 108, 112, 104, 97]⟩ : ByteArray) _ _ HV.out)); (have HB := Aside0.mk (XLib.putEntry_below (s := (⟨#[97, 108, 112, 104, 97]⟩ : ByteArray)) (v := v2) HB2.out HM2.out.base_le)); clear HM2 HB2 HV)
  refine (ranges_lit _ _ (by first | rfl | (simp; done)) [0, 55295, 57344, 1114111, 1114240, 1114367] [⟨0, 55295⟩, ⟨57344, 1114111⟩, ⟨1114240, 1114367⟩] _ _ rfl rfl (by decide) (by kernel_rfl) (HG_.out.below HB.out)).mono ?_
  rintro e w3 ⟨v3, rfl, hv, hb⟩
  have HM2 := Aside0.mk (HM.out.below hb)
  have HV := Aside0.mk (Kd.R_lower hv HB.out.size)
  have HB2 := Aside0.mk (below_step HB.out hb)
  clear HM HB hv hb
  go_wp2_with ((with_reducible refine XLib.wpList_insert_new rfl _ _ _ _ _ _ rfl rfl Tryd.underlying128 Tryd.underlying9 w.heap.size _ _ rfl (⟨#[97, 110, 121]⟩ : ByteArray) rfl v3 rfl HM2.out (by kernel_rfl) ?_); (have HM := Aside0.mk (HM2.out.insert (⟨#[97, 110, 121]⟩ : ByteArray) _ _ HV.out)); (have HB := Aside0.mk (XLib.putEntry_below (s := (⟨#[97, 110, 121]⟩ : ByteArray)) (v := v3) HB2.out HM2.out.base_le)); clear HM2 HB2 HV)
  refine (ranges_lit _ _ (by first | rfl | (simp; done)) [0, 127] [⟨0, 127⟩] _ _ rfl rfl (by decide) (by kernel_rfl) (HG_.out.below HB.out)).mono ?_
  rintro e w4 ⟨v4, rfl, hv, hb⟩
  have HM2 := Aside0.mk (HM.out.below hb)
  have HV := Aside0.mk (Kd.R_lower hv HB.out.size)
  have HB2 := Aside0.mk (below_step HB.out hb)
  clear HM HB hv hb
  go_wp2_with ((with_reducible refine XLib.wpList_insert_new rfl _ _ _ _ _ _ rfl rfl Tryd.underlying128 Tryd.underlying9 w.heap.size _ _ rfl (⟨#[97, 115, 99, 105, 105]⟩ : ByteArray) rfl v4 rfl HM2.out (by kernel_rfl) ?_); (have HM := Aside0.mk (HM2.out.insert (⟨#[97, 115, 99, 105, 105]⟩ : ByteArray) _ _ HV.out)); (have HB := Aside0.mk (XLib.putEntry_below (s := (⟨#[97, 115, 99, 105, 105]⟩ : ByteArray)) (v := v4) HB2.out HM2.out.base_le)); clear HM2 HB2 HV)
  refine (ranges_lit _ _ (by first | rfl | (simp; done)) [1114240, 1114367] [⟨1114240, 1114367⟩] _ _ rfl rfl (by decide) (by kernel_rfl) (HG_.out.below HB.out)).mono ?_
  rintro e w5 ⟨v5, rfl, hv, hb⟩
  have HM2 := Aside0.mk (HM.out.below hb)
  have HV := Aside0.mk (Kd.R_lower hv HB.out.size)
  have HB2 := Aside0.mk (below_step HB.out hb)
  clear HM HB hv hb
  go_wp2_with ((with_reducible refine XLib.wpList_insert_new rfl _ _ _ _ _ _ rfl rfl Tryd.underlying128 Tryd.underlying9 w.heap.size _ _ rfl (⟨#[98, 97, 100]⟩ : ByteArray) rfl v5 rfl HM2.out (by kernel_rfl) ?_); (have HM := Aside0.mk (HM2.out.insert (⟨#[98, 97, 100]⟩ : ByteArray) _ _ HV.out)); (have HB := Aside0.mk (XLib.putEntry_below (s := (⟨#[98, 97, 100]⟩ : ByteArray)) (v := v5) HB2.out HM2.out.base_le)); clear HM2 HB2 HV)
  refine (ranges_lit _ _ (by first | rfl | (simp; done)) [9, 9, 32, 32] [⟨9, 9⟩, ⟨32, 32⟩] _ _ rfl rfl (by decide) (by kernel_rfl) (HG_.out.below HB.out)).mono ?_
  rintro e w6 ⟨v6, rfl, hv, hb⟩
  have HM2 := Aside0.mk (HM.out.below hb)
  have HV := Aside0.mk (Kd.R_lower hv HB.out.size)
  have HB2 := Aside0.mk (below_step HB.out hb)
  clear HM HB hv hb
  go_wp2_with ((with_reducible refine XLib.wpList_insert_new rfl _ _ _ _ _ _ rfl rfl Tryd.underlying128 Tryd.underlying9 w.heap.size _ _ rfl (⟨#[98, 108, 97, 110, 107]⟩ : ByteArray) rfl v6 rfl HM2.out (by kernel_rfl) ?_); (have HM := Aside0.mk (HM2.out.insert (⟨#[98, 108, 97, 110, 107]⟩ : ByteArray) _ _ HV.out)); (have HB := Aside0.mk (XLib.putEntry_below (s := (⟨#[98, 108, 97, 110, 107]⟩ : ByteArray)) (v := v6) HB2.out HM2.out.base_le)); clear HM2 HB2 HV)
  refine (ranges_lit _ _ (by first | rfl | (simp; done)) [0, 31, 127, 127] [⟨0, 31⟩, ⟨127, 127⟩] _ _ rfl rfl (by decide) (by kernel_rfl) (HG_.out.below HB.out)).mono ?_
  rintro e w7 ⟨v7, rfl, hv, hb⟩
  have HM2 := Aside0.mk (HM.out.below hb)
  have HV := Aside0.mk (Kd.R_lower hv HB.out.size)
  have HB2 := Aside0.mk (below_step HB.out hb)
  clear HM HB hv hb
  go_wp2_with ((with_reducible refine XLib.wpList_insert_new rfl _ _ _ _ _ _ rfl rfl Tryd.underlying128 Tryd.underlying9 w.heap.size _ _ rfl (⟨#[99, 110, 116, 114, 108]⟩ : ByteArray) rfl v7 rfl HM2.out (by kernel_rfl) ?_); (have HM := Aside0.mk (HM2.out.insert (⟨#[99, 110, 116, 114, 108]⟩ : ByteArray) _ _ HV.out)); (have HB := Aside0.mk (XLib.putEntry_below (s := (⟨#[99, 110, 116, 114, 108]⟩ : ByteArray)) (v := v7) HB2.out HM2.out.base_le)); clear HM2 HB2 HV)
  refine (ranges_lit _ _ (by first | rfl | (simp; done)) [1024, 1327] [⟨1024, 1327⟩] _ _ rfl rfl (by decide) (by kernel_rfl) (HG_.out.below HB.out)).mono ?_
  rintro e w8 ⟨v8, rfl, hv, hb⟩
  have HM2 := Aside0.mk (HM.out.below hb)
  have HV := Aside0.mk (Kd.R_lower hv HB.out.size)
  have HB2 := Aside0.mk (below_step HB.out hb)
  clear HM HB hv hb
  go_wp2_with ((with_reducible refine XLib.wpList_insert_new rfl _ _ _ _ _ _ rfl rfl Tryd.underlying128 Tryd.underlying9 w.heap.size _ _ rfl (⟨#[99, 121, 114, 105, 108, 108, 105, 99]⟩ : ByteArray) rfl v8 rfl HM2.out (by kernel_rfl) ?_); (have HM := Aside0.mk (HM2.out.insert (⟨#[99, 121, 114, 105, 108, 108, 105, 99]⟩ : ByteArray) _ _ HV.out)); (have HB := Aside0.mk (XLib.putEntry_below (s := (⟨#[99, 121, 114, 105, 108, 108, 105, 99]⟩ : ByteArray)) (v := v8) HB2.out HM2.out.base_le)); clear HM2 HB2 HV)
  refine (ranges_lit _ _ (by first | rfl | (simp; done)) [48, 57] [⟨48, 57⟩] _ _ rfl rfl (by decide) (by kernel_rfl) (HG_.out.below HB.out)).mono ?_
  rintro e w9 ⟨v9, rfl, hv, hb⟩
  have HM2 := Aside0.mk (HM.out.below hb)
  have HV := Aside0.mk (Kd.R_lower hv HB.out.size)
  have HB2 := Aside0.mk (below_step HB.out hb)
  clear HM HB hv hb
  go_wp2_with ((with_reducible refine XLib.wpList_insert_new rfl _ _ _ _ _ _ rfl rfl Tryd.underlying128 Tryd.underlying9 w.heap.size _ _ rfl (⟨#[100, 105, 103, 105, 116]⟩ : ByteArray) rfl v9 rfl HM2.out (by kernel_rfl) ?_); (have HM := Aside0.mk (HM2.out.insert (⟨#[100, 105, 103, 105, 116]⟩ : ByteArray) _ _ HV.out)); (have HB := Aside0.mk (XLib.putEntry_below (s := (⟨#[100, 105, 103, 105, 116]⟩ : ByteArray)) (v := v9) HB2.out HM2.out.base_le)); clear HM2 HB2 HV)
  refine (ranges_lit _ _ (by first | rfl | (simp; done)) [33, 126] [⟨33, 126⟩] _ _ rfl rfl (by decide) (by kernel_rfl) (HG_.out.below HB.out)).mono ?_
  rintro e w10 ⟨v10, rfl, hv, hb⟩
  have HM2 := Aside0.mk (HM.out.below hb)
  have HV := Aside0.mk (Kd.R_lower hv HB.out.size)
  have HB2 := Aside0.mk (below_step HB.out hb)
  clear HM HB hv hb
  go_wp2_with ((with_reducible refine XLib.wpList_insert_new rfl _ _ _ _ _ _ rfl rfl Tryd.underlying128 Tryd.underlying9 w.heap.size _ _ rfl (⟨#[103, 114, 97, 112, 104]⟩ : ByteArray) rfl v10 rfl HM2.out (by kernel_rfl) ?_); (have HM := Aside0.mk (HM2.out.insert (⟨#[103, 114, 97, 112, 104]⟩ : ByteArray) _ _ HV.out)); (have HB := Aside0.mk (XLib.putEntry_below (s := (⟨#[103, 114, 97, 112, 104]⟩ : ByteArray)) (v := v10) HB2.out HM2.out.base_le)); clear HM2 HB2 HV)
  refine (ranges_lit _ _ (by first | rfl | (simp; done)) [880, 1023] [⟨880, 1023⟩] _ _ rfl rfl (by decide) (by kernel_rfl) (HG_.out.below HB.out)).mono ?_
  rintro e w11 ⟨v11, rfl, hv, hb⟩
  have HM2 := Aside0.mk (HM.out.below hb)
  have HV := Aside0.mk (Kd.R_lower hv HB.out.size)
  have HB2 := Aside0.mk (below_step HB.out hb)
  clear HM HB hv hb
  go_wp2_with ((with_reducible refine XLib.wpList_insert_new rfl _ _ _ _ _ _ rfl rfl Tryd.underlying128 Tryd.underlying9 w.heap.size _ _ rfl (⟨#[103, 114, 101, 101, 107]⟩ : ByteArray) rfl v11 rfl HM2.out (by kernel_rfl) ?_); (have HM := Aside0.mk (HM2.out.insert (⟨#[103, 114, 101, 101, 107]⟩ : ByteArray) _ _ HV.out)); (have HB := Aside0.mk (XLib.putEntry_below (s := (⟨#[103, 114, 101, 101, 107]⟩ : ByteArray)) (v := v11) HB2.out HM2.out.base_le)); clear HM2 HB2 HV)
  refine (ranges_lit _ _ (by first | rfl | (simp; done)) [65, 90, 97, 122, 170, 170, 186, 186, 192, 214, 216, 246, 248, 591] [⟨65, 90⟩, ⟨97, 122⟩, ⟨170, 170⟩, ⟨186, 186⟩, ⟨192, 214⟩, ⟨216, 246⟩, ⟨248, 591⟩] _ _ rfl rfl (by decide) (by kernel_rfl) (HG_.out.below HB.out)).mono ?_
  rintro e w12 ⟨v12, rfl, hv, hb⟩
  have HM2 := Aside0.mk (HM.out.below hb)
  have HV := Aside0.mk (Kd.R_lower hv HB.out.size)
  have HB2 := Aside0.mk (below_step HB.out hb)
  clear HM HB hv hb
  go_wp2_with ((with_reducible refine XLib.wpList_insert_new rfl _ _ _ _ _ _ rfl rfl Tryd.underlying128 Tryd.underlying9 w.heap.size _ _ rfl (⟨#[108, 97, 116, 105, 110]⟩ : ByteArray) rfl v12 rfl HM2.out (by kernel_rfl) ?_); (have HM := Aside0.mk (HM2.out.insert (⟨#[108, 97, 116, 105, 110]⟩ : ByteArray) _ _ HV.out)); (have HB := Aside0.mk (XLib.putEntry_below (s := (⟨#[108, 97, 116, 105, 110]⟩ : ByteArray)) (v := v12) HB2.out HM2.out.base_le)); clear HM2 HB2 HV)
  refine (ranges_lit _ _ (by first | rfl | (simp; done)) [97, 122, 223, 246, 248, 255, 945, 969, 1072, 1119] [⟨97, 122⟩, ⟨223, 246⟩, ⟨248, 255⟩, ⟨945, 969⟩, ⟨1072, 1119⟩] _ _ rfl rfl (by decide) (by kernel_rfl) (HG_.out.below HB.out)).mono ?_
  rintro e w13 ⟨v13, rfl, hv, hb⟩
  have HM2 := Aside0.mk (HM.out.below hb)
  have HV := Aside0.mk (Kd.R_lower hv HB.out.size)
  have HB2 := Aside0.mk (below_step HB.out hb)
  clear HM HB hv hb
  go_wp2_with ((with_reducible refine XLib.wpList_insert_new rfl _ _ _ _ _ _ rfl rfl Tryd.underlying128 Tryd.underlying9 w.heap.size _ _ rfl (⟨#[108, 111, 119, 101, 114]⟩ : ByteArray) rfl v13 rfl HM2.out (by kernel_rfl) ?_); (have HM := Aside0.mk (HM2.out.insert (⟨#[108, 111, 119, 101, 114]⟩ : ByteArray) _ _ HV.out)); (have HB := Aside0.mk (XLib.putEntry_below (s := (⟨#[108, 111, 119, 101, 114]⟩ : ByteArray)) (v := v13) HB2.out HM2.out.base_le)); clear HM2 HB2 HV)
  refine (ranges_lit _ _ (by first | rfl | (simp; done)) [32, 126] [⟨32, 126⟩] _ _ rfl rfl (by decide) (by kernel_rfl) (HG_.out.below HB.out)).mono ?_
  rintro e w14 ⟨v14, rfl, hv, hb⟩
  have HM2 := Aside0.mk (HM.out.below hb)
  have HV := Aside0.mk (Kd.R_lower hv HB.out.size)
  have HB2 := Aside0.mk (below_step HB.out hb)
  clear HM HB hv hb
  go_wp2_with ((with_reducible refine XLib.wpList_insert_new rfl _ _ _ _ _ _ rfl rfl Tryd.underlying128 Tryd.underlying9 w.heap.size _ _ rfl (⟨#[112, 114, 105, 110, 116]⟩ : ByteArray) rfl v14 rfl HM2.out (by kernel_rfl) ?_); (have HM := Aside0.mk (HM2.out.insert (⟨#[112, 114, 105, 110, 116]⟩ : ByteArray) _ _ HV.out)); (have HB := Aside0.mk (XLib.putEntry_below (s := (⟨#[112, 114, 105, 110, 116]⟩ : ByteArray)) (v := v14) HB2.out HM2.out.base_le)); clear HM2 HB2 HV)
  refine (ranges_lit _ _ (by first | rfl | (simp; done)) [33, 47, 58, 64, 91, 96, 123, 126] [⟨33, 47⟩, ⟨58, 64⟩, ⟨91, 96⟩, ⟨123, 126⟩] _ _ rfl rfl (by decide) (by kernel_rfl) (HG_.out.below HB.out)).mono ?_
  rintro e w15 ⟨v15, rfl, hv, hb⟩
  have HM2 := Aside0.mk (HM.out.below hb)
  have HV := Aside0.mk (Kd.R_lower hv HB.out.size)
  have HB2 := Aside0.mk (below_step HB.out hb)
  clear HM HB hv hb
  go_wp2_with ((with_reducible refine XLib.wpList_insert_new rfl _ _ _ _ _ _ rfl rfl Tryd.underlying128 Tryd.underlying9 w.heap.size _ _ rfl (⟨#[112, 117, 110, 99, 116]⟩ : ByteArray) rfl v15 rfl HM2.out (by kernel_rfl) ?_); (have HM := Aside0.mk (HM2.out.insert (⟨#[112, 117, 110, 99, 116]⟩ : ByteArray) _ _ HV.out)); (have HB := Aside0.mk (XLib.putEntry_below (s := (⟨#[112, 117, 110, 99, 116]⟩ : ByteArray)) (v := v15) HB2.out HM2.out.base_le)); clear HM2 HB2 HV)
  refine (ranges_lit _ _ (by first | rfl | (simp; done)) [0, 55295, 57344, 1114111] [⟨0, 55295⟩, ⟨57344, 1114111⟩] _ _ rfl rfl (by decide) (by kernel_rfl) (HG_.out.below HB.out)).mono ?_
  rintro e w16 ⟨v16, rfl, hv, hb⟩
  have HM2 := Aside0.mk (HM.out.below hb)
  have HV := Aside0.mk (Kd.R_lower hv HB.out.size)
  have HB2 := Aside0.mk (below_step HB.out hb)
  clear HM HB hv hb
  go_wp2_with ((with_reducible refine XLib.wpList_insert_new rfl _ _ _ _ _ _ rfl rfl Tryd.underlying128 Tryd.underlying9 w.heap.size _ _ rfl (⟨#[114, 117, 110, 101]⟩ : ByteArray) rfl v16 rfl HM2.out (by kernel_rfl) ?_); (have HM := Aside0.mk (HM2.out.insert (⟨#[114, 117, 110, 101]⟩ : ByteArray) _ _ HV.out)); (have HB := Aside0.mk (XLib.putEntry_below (s := (⟨#[114, 117, 110, 101]⟩ : ByteArray)) (v := v16) HB2.out HM2.out.base_le)); clear HM2 HB2 HV)
  refine (ranges_lit _ _ (by first | rfl | (simp; done)) [9, 13, 32, 32] [⟨9, 13⟩, ⟨32, 32⟩] _ _ rfl rfl (by decide) (by kernel_rfl) (HG_.out.below HB.out)).mono ?_
  rintro e w17 ⟨v17, rfl, hv, hb⟩
  have HM2 := Aside0.mk (HM.out.below hb)
  have HV := Aside0.mk (Kd.R_lower hv HB.out.size)
  have HB2 := Aside0.mk (below_step HB.out hb)
  clear HM HB hv hb
  go_wp2_with ((with_reducible refine XLib.wpList_insert_new rfl _ _ _ _ _ _ rfl rfl Tryd.underlying128 Tryd.underlying9 w.heap.size _ _ rfl (⟨#[115, 112, 97, 99, 101]⟩ : ByteArray) rfl v17 rfl HM2.out (by kernel_rfl) ?_); (have HM := Aside0.mk (HM2.out.insert (⟨#[115, 112, 97, 99, 101]⟩ : ByteArray) _ _ HV.out)); (have HB := Aside0.mk (XLib.putEntry_below (s := (⟨#[115, 112, 97, 99, 101]⟩ : ByteArray)) (v := v17) HB2.out HM2.out.base_le)); clear HM2 HB2 HV)
  refine (ranges_lit _ _ (by first | rfl | (simp; done)) [65, 90, 192, 214, 216, 222, 913, 929, 931, 937, 1024, 1071] [⟨65, 90⟩, ⟨192, 214⟩, ⟨216, 222⟩, ⟨913, 929⟩, ⟨931, 937⟩, ⟨1024, 1071⟩] _ _ rfl rfl (by decide) (by kernel_rfl) (HG_.out.below HB.out)).mono ?_
  rintro e w18 ⟨v18, rfl, hv, hb⟩
  have HM2 := Aside0.mk (HM.out.below hb)
  have HV := Aside0.mk (Kd.R_lower hv HB.out.size)
  have HB2 := Aside0.mk (below_step HB.out hb)
  clear HM HB hv hb
  go_wp2_with ((with_reducible refine XLib.wpList_insert_new rfl _ _ _ _ _ _ rfl rfl Tryd.underlying128 Tryd.underlying9 w.heap.size _ _ rfl (⟨#[117, 112, 112, 101, 114]⟩ : ByteArray) rfl v18 rfl HM2.out (by kernel_rfl) ?_); (have HM := Aside0.mk (HM2.out.insert (⟨#[117, 112, 112, 101, 114]⟩ : ByteArray) _ _ HV.out)); (have HB := Aside0.mk (XLib.putEntry_below (s := (⟨#[117, 112, 112, 101, 114]⟩ : ByteArray)) (v := v18) HB2.out HM2.out.base_le)); clear HM2 HB2 HV)
  refine (ranges_lit _ _ (by first | rfl | (simp; done)) [48, 57, 65, 90, 95, 95, 97, 122] [⟨48, 57⟩, ⟨65, 90⟩, ⟨95, 95⟩, ⟨97, 122⟩] _ _ rfl rfl (by decide) (by kernel_rfl) (HG_.out.below HB.out)).mono ?_
  rintro e w19 ⟨v19, rfl, hv, hb⟩
  have HM2 := Aside0.mk (HM.out.below hb)
  have HV := Aside0.mk (Kd.R_lower hv HB.out.size)
  have HB2 := Aside0.mk (below_step HB.out hb)
  clear HM HB hv hb
  go_wp2_with ((with_reducible refine XLib.wpList_insert_new rfl _ _ _ _ _ _ rfl rfl Tryd.underlying128 Tryd.underlying9 w.heap.size _ _ rfl (⟨#[119, 111, 114, 100]⟩ : ByteArray) rfl v19 rfl HM2.out (by kernel_rfl) ?_); (have HM := Aside0.mk (HM2.out.insert (⟨#[119, 111, 114, 100]⟩ : ByteArray) _ _ HV.out)); (have HB := Aside0.mk (XLib.putEntry_below (s := (⟨#[119, 111, 114, 100]⟩ : ByteArray)) (v := v19) HB2.out HM2.out.base_le)); clear HM2 HB2 HV)
  refine (ranges_lit _ _ (by first | rfl | (simp; done)) [48, 57, 65, 70, 97, 102] [⟨48, 57⟩, ⟨65, 70⟩, ⟨97, 102⟩] _ _ rfl rfl (by decide) (by kernel_rfl) (HG_.out.below HB.out)).mono ?_
  rintro e w20 ⟨v20, rfl, hv, hb⟩
  have HM2 := Aside0.mk (HM.out.below hb)
  have HV := Aside0.mk (Kd.R_lower hv HB.out.size)
  have HB2 := Aside0.mk (below_step HB.out hb)
  clear HM HB hv hb
  go_wp2_with ((with_reducible refine XLib.wpList_insert_new rfl _ _ _ _ _ _ rfl rfl Tryd.underlying128 Tryd.underlying9 w.heap.size _ _ rfl (⟨#[120, 100, 105, 103, 105, 116]⟩ : ByteArray) rfl v20 rfl HM2.out (by kernel_rfl) ?_); (have HM := Aside0.mk (HM2.out.insert (⟨#[120, 100, 105, 103, 105, 116]⟩ : ByteArray) _ _ HV.out)); (have HB := Aside0.mk (XLib.putEntry_below (s := (⟨#[120, 100, 105, 103, 105, 116]⟩ : ByteArray)) (v := v20) HB2.out HM2.out.base_le)); clear HM2 HB2 HV)
  go_ret
  exact ⟨_, rfl, HM.out, HB.out⟩
/-- the class of a name -/
def named_Class.f (a0 : ByteArray) : Option (List S78 × Int) := match XLib.findIn a0 classTab 0 with | some (_, l) => some (l, 0) | none => some ([], 9)
set_option maxHeartbeats 800000 in
set_option maxRecDepth 100000 in
theorem named_Class.calls (a0 : ByteArray) (r1 : List S78) (r2 : Int) (w : World) (h : named_Class.f a0 = some (r1, r2)) (hG : GOK w := by first | (with_reducible exact HG_.out) | exact GOK.below HG_.out (by repeat (first | (with_reducible exact Below.refl _ _) | (with_reducible first | exact HB.out | apply below_alloc | apply pw_below_drewN | apply below_drew1 | refine below_set ?_ (Aside0.out (by assumption))) | exact HB.out)) | exact GOK.drewN HG_.out _ | exact GOK.drewN (GOK.drewN HG_.out _) _ | exact GOK.drew HG_.out) :
    Calls Tryd.prog 30 #[.string a0] w fun e w' => ∃ v0_ : Value, e = .returned (.tuple #[v0_, .int .i64 r2]) ∧ Kd.R k78 78 w' w.heap.size (fun _ => True) v0_ r1 ∧ Below w.heap.size w w' := by
  have HG_ := Aside0.mk hG
  clear hG
  have HH := Aside0.mk h
  clear h
  go_enter Tryd.func30, Tryd.ntmps30
  go_wp2_with fail
  refine (named_classes.calls w HG_.out).mono ?_
  rintro e w' ⟨B, rfl, hm, hb⟩
  have HM := Aside0.mk hm
  have HB := Aside0.mk hb
  clear hm hb
  go_wp2_with ((with_reducible refine XLib.wpList_lookup_ok rfl _ _ _ _ _ rfl Tryd.underlying128 Tryd.underlying9 w.heap.size B classTab rfl a0 rfl HM.out (by kernel_rfl) ?_ ?_); (intro v j l hf hr; have HF := Aside0.mk hf; have HR := Aside0.mk hr; clear hf hr); rotate_left; (intro hf; have HF := Aside0.mk hf; clear hf))
  · go_ret2
    have h := HH.out
    simp only [named_Class.f, HF.out, Option.some.injEq, Prod.mk.injEq] at h
    obtain ⟨rfl, rfl⟩ := h
    exact ⟨_, rfl, Kd.R_nil _ _ _ _ _, HB.out⟩
  · go_ret2
    have h := HH.out
    simp only [named_Class.f, HF.out, Option.some.injEq, Prod.mk.injEq] at h
    obtain ⟨rfl, rfl⟩ := h
    exact ⟨v, rfl, HR.out, HB.out⟩

/-! ### thistlelaw04_awake: function 29 -/
def thistlelaw04_awake.f  : Option (Bool) := (named_Class.f (⟨#[100, 105, 103, 105, 116]⟩ : ByteArray)).bind fun bt106 => (if bt106.2 = 0 then (if (bt106.1.length : Int) = 1 then (if 0 < (bt106.1.length : Int) then (if ((rd_T78 bt106.1 0).f0) = 48 then (some (((rd_T78 bt106.1 0).f1) == 57)) else (some false)) else (none)) else (some false)) else (some false))
set_option maxHeartbeats 8000000 in
set_option maxRecDepth 100000 in
theorem thistlelaw04_awake.calls  (r : Bool) (w : World) (h : thistlelaw04_awake.f  = some r) (hG : GOK w := by first | (with_reducible exact HG_.out) | exact GOK.below HG_.out (by repeat (first | (with_reducible exact Below.refl _ _) | (with_reducible first | exact HB.out | apply below_alloc | apply pw_below_drewN | apply below_drew1 | refine below_set ?_ (Aside0.out (by assumption))) | exact HB.out)) | exact GOK.drewN HG_.out _ | exact GOK.drewN (GOK.drewN HG_.out _) _ | exact GOK.drew HG_.out) :
    Calls Tryd.prog 29 #[] w fun e w' => e = .returned (.bool r) ∧ Below w.heap.size w w' := by
  have HG_ := Aside0.mk hG
  clear hG
  have HB := Aside0.mk (Below.refl w.heap.size w)
  have H : ((named_Class.f (⟨#[100, 105, 103, 105, 116]⟩ : ByteArray)).bind fun bt106 => (if bt106.2 = 0 then (if (bt106.1.length : Int) = 1 then (if 0 < (bt106.1.length : Int) then (if ((rd_T78 bt106.1 0).f0) = 48 then (some (((rd_T78 bt106.1 0).f1) == 57)) else (some false)) else (none)) else (some false)) else (some false))) = some r := h
  clear h
  replace H := Option.bind_eq_some_iff.mp H
  obtain ⟨⟨t106, t107⟩, A10, H⟩ := H
  replace H : (if t107 = 0 then (if (t106.length : Int) = 1 then (if 0 < (t106.length : Int) then (if ((rd_T78 t106 0).f0) = 48 then (some (((rd_T78 t106 0).f1) == 57)) else (some false)) else (none)) else (some false)) else (some false)) = some r := H
  have A1 := Aside0.mk A10
  clear A10
  by_cases c2 : t107 = 0
  · rw [if_pos c2] at H
    have c2b0 : (t107 == 0) = true := beq_iff_eq.mpr c2
    have c2b1 : (t107 != 0) = false := bne_eq_false_iff_eq.mpr c2
    clear c2
    by_cases c3 : (t106.length : Int) = 1
    · rw [if_pos c3] at H
      have c3b0 : ((t106.length : Int) == 1) = true := beq_iff_eq.mpr c3
      have c3b1 : ((t106.length : Int) != 1) = false := bne_eq_false_iff_eq.mpr c3
      clear c3
      by_cases c4 : 0 < (t106.length : Int)
      · rw [if_pos c4] at H
        have c4b0 : decide (0 < (t106.length : Int)) = true := decide_eq_true c4
        have c4b1 : decide (0 < t106.length) = true := decide_eq_true (by omega)
        clear c4
        by_cases c5 : ((rd_T78 t106 0).f0) = 48
        · rw [if_pos c5] at H
          have c5b0 : (((rd_T78 t106 0).f0) == 48) = true := beq_iff_eq.mpr c5
          have c5b1 : (((rd_T78 t106 0).f0) != 48) = false := bne_eq_false_iff_eq.mpr c5
          clear c5
          obtain rfl := Option.some.inj H
          go_enter Tryd.func29, Tryd.ntmps29
          go_wp2_with (first | ((with_reducible refine gate_callee (f := 30) rfl ?_); refine goesL_ (some 4) rfl rfl Tryd.func30 (by kernel_rfl) rfl #[.string (⟨#[100, 105, 103, 105, 116]⟩ : ByteArray)] rfl (by (try simp only [List.map_toArray, List.map_cons, List.map_nil]); first | done | rfl | (simp only [List.length_drop, List.length_take]; rfl)) ?_; (with_reducible refine (named_Class.calls (⟨#[100, 105, 103, 105, 116]⟩ : ByteArray) t106 t107 _ A1.out).mono ?_); rintro e w6 ⟨v108, rfl, ho0, hb⟩; refine ⟨_, rfl, ?_⟩; have n0_ := Aside0.mk (Kd.R_lower ho0 (below_size (by repeat (first | (with_reducible first | exact HB.out | apply below_alloc | apply pw_below_drewN | apply below_drew1) | exact HB.out)))); have n1_ := Aside0.mk (below_step (by repeat (first | (with_reducible first | exact HB.out | apply below_alloc | apply pw_below_drewN | apply below_drew1) | exact HB.out)) hb); clear HB; have HO109 := n0_; have HB := n1_; clear n0_ n1_; (try clear hb); (try clear hb2); (try clear hk); (try clear hi); (try clear ho0); obtain ⟨Ao7, co7, eo7⟩ := Kd.R_slice HO109.out; subst eo7; have p110 : 0 ≤ (0 : Int) := (by omega); have q110 : 0 < (t106.length : Int) := of_decide_eq_true (by first | (with_reducible assumption) | assumption); obtain ⟨ad110, e110, hx110_0, hx110_1⟩ := at_T78 (Kd.R_reads' HO109.out).2.2 0 p110 q110; cases e110; have qi110 : (0 < t106.length) = True := eq_true (by omega); (try rw [show ((0 : Int)).toNat = 0 from rfl] at hx110_0); (try rw [show 0 * 2 = 0 from rfl] at hx110_0); (try rw [Addr.add_zero'] at hx110_0); (try rw [show ((0 : Int)).toNat = 0 from rfl] at hx110_1); (try rw [show 0 * 2 = 0 from rfl] at hx110_1); (try rw [Addr.add_zero'] at hx110_1); replace p110 := eq_true p110; replace q110 := eq_true q110; have p111 : 0 ≤ (0 : Int) := (by omega); have q111 : 0 < (t106.length : Int) := of_decide_eq_true (by first | (with_reducible assumption) | assumption); obtain ⟨ad111, e111, hx111_0, hx111_1⟩ := at_T78 (Kd.R_reads' HO109.out).2.2 0 p111 q111; obtain rfl : ad110 = ad111 := (by injection e111); have qi111 : (0 < t106.length) = True := eq_true (by omega); (try rw [show ((0 : Int)).toNat = 0 from rfl] at hx111_0); (try rw [show 0 * 2 = 0 from rfl] at hx111_0); (try rw [Addr.add_zero'] at hx111_0); (try rw [show ((0 : Int)).toNat = 0 from rfl] at hx111_1); (try rw [show 0 * 2 = 0 from rfl] at hx111_1); (try rw [Addr.add_zero'] at hx111_1); replace p111 := eq_true p111; replace q111 := eq_true q111))
          go_ret
          exact ⟨by first | rfl | (simp [errW_none, errW_some] <;> rfl) | (simp [*, errW_none, errW_some] <;> rfl), by repeat (first | (with_reducible first | exact HB.out | apply below_alloc | apply pw_below_drewN | apply below_drew1) | exact HB.out)⟩
        · rw [if_neg c5] at H
          have c5b0 : (((rd_T78 t106 0).f0) == 48) = false := beq_eq_false_iff_ne.mpr c5
          have c5b1 : (((rd_T78 t106 0).f0) != 48) = true := bne_iff_ne.mpr c5
          obtain rfl := Option.some.inj H
          go_enter Tryd.func29, Tryd.ntmps29
          go_wp2_with (first | ((with_reducible refine gate_callee (f := 30) rfl ?_); refine goesL_ (some 4) rfl rfl Tryd.func30 (by kernel_rfl) rfl #[.string (⟨#[100, 105, 103, 105, 116]⟩ : ByteArray)] rfl (by (try simp only [List.map_toArray, List.map_cons, List.map_nil]); first | done | rfl | (simp only [List.length_drop, List.length_take]; rfl)) ?_; (with_reducible refine (named_Class.calls (⟨#[100, 105, 103, 105, 116]⟩ : ByteArray) t106 t107 _ A1.out).mono ?_); rintro e w8 ⟨v108, rfl, ho0, hb⟩; refine ⟨_, rfl, ?_⟩; have n0_ := Aside0.mk (Kd.R_lower ho0 (below_size (by repeat (first | (with_reducible first | exact HB.out | apply below_alloc | apply pw_below_drewN | apply below_drew1) | exact HB.out)))); have n1_ := Aside0.mk (below_step (by repeat (first | (with_reducible first | exact HB.out | apply below_alloc | apply pw_below_drewN | apply below_drew1) | exact HB.out)) hb); clear HB; have HO109 := n0_; have HB := n1_; clear n0_ n1_; (try clear hb); (try clear hb2); (try clear hk); (try clear hi); (try clear ho0); obtain ⟨Ao9, co9, eo9⟩ := Kd.R_slice HO109.out; subst eo9; have p110 : 0 ≤ (0 : Int) := (by omega); have q110 : 0 < (t106.length : Int) := of_decide_eq_true (by first | (with_reducible assumption) | assumption); obtain ⟨ad110, e110, hx110_0, hx110_1⟩ := at_T78 (Kd.R_reads' HO109.out).2.2 0 p110 q110; cases e110; have qi110 : (0 < t106.length) = True := eq_true (by omega); (try rw [show ((0 : Int)).toNat = 0 from rfl] at hx110_0); (try rw [show 0 * 2 = 0 from rfl] at hx110_0); (try rw [Addr.add_zero'] at hx110_0); (try rw [show ((0 : Int)).toNat = 0 from rfl] at hx110_1); (try rw [show 0 * 2 = 0 from rfl] at hx110_1); (try rw [Addr.add_zero'] at hx110_1); replace p110 := eq_true p110; replace q110 := eq_true q110))
          go_ret
          exact ⟨by first | rfl | (simp [errW_none, errW_some] <;> rfl) | (simp [*, errW_none, errW_some] <;> rfl), by repeat (first | (with_reducible first | exact HB.out | apply below_alloc | apply pw_below_drewN | apply below_drew1) | exact HB.out)⟩
      · rw [if_neg c4] at H
        exact absurd H (by simp)
    · rw [if_neg c3] at H
      have c3b0 : ((t106.length : Int) == 1) = false := beq_eq_false_iff_ne.mpr c3
      have c3b1 : ((t106.length : Int) != 1) = true := bne_iff_ne.mpr c3
      obtain rfl := Option.some.inj H
      go_enter Tryd.func29, Tryd.ntmps29
      go_wp2_with (first | ((with_reducible refine gate_callee (f := 30) rfl ?_); refine goesL_ (some 4) rfl rfl Tryd.func30 (by kernel_rfl) rfl #[.string (⟨#[100, 105, 103, 105, 116]⟩ : ByteArray)] rfl (by (try simp only [List.map_toArray, List.map_cons, List.map_nil]); first | done | rfl | (simp only [List.length_drop, List.length_take]; rfl)) ?_; (with_reducible refine (named_Class.calls (⟨#[100, 105, 103, 105, 116]⟩ : ByteArray) t106 t107 _ A1.out).mono ?_); rintro e w10 ⟨v108, rfl, ho0, hb⟩; refine ⟨_, rfl, ?_⟩; have n0_ := Aside0.mk (Kd.R_lower ho0 (below_size (by repeat (first | (with_reducible first | exact HB.out | apply below_alloc | apply pw_below_drewN | apply below_drew1) | exact HB.out)))); have n1_ := Aside0.mk (below_step (by repeat (first | (with_reducible first | exact HB.out | apply below_alloc | apply pw_below_drewN | apply below_drew1) | exact HB.out)) hb); clear HB; have HO109 := n0_; have HB := n1_; clear n0_ n1_; (try clear hb); (try clear hb2); (try clear hk); (try clear hi); (try clear ho0); obtain ⟨Ao11, co11, eo11⟩ := Kd.R_slice HO109.out; subst eo11))
      go_ret
      exact ⟨by first | rfl | (simp [errW_none, errW_some] <;> rfl) | (simp [*, errW_none, errW_some] <;> rfl), by repeat (first | (with_reducible first | exact HB.out | apply below_alloc | apply pw_below_drewN | apply below_drew1) | exact HB.out)⟩
  · rw [if_neg c2] at H
    have c2b0 : (t107 == 0) = false := beq_eq_false_iff_ne.mpr c2
    have c2b1 : (t107 != 0) = true := bne_iff_ne.mpr c2
    obtain rfl := Option.some.inj H
    go_enter Tryd.func29, Tryd.ntmps29
    go_wp2_with (first | ((with_reducible refine gate_callee (f := 30) rfl ?_); refine goesL_ (some 4) rfl rfl Tryd.func30 (by kernel_rfl) rfl #[.string (⟨#[100, 105, 103, 105, 116]⟩ : ByteArray)] rfl (by (try simp only [List.map_toArray, List.map_cons, List.map_nil]); first | done | rfl | (simp only [List.length_drop, List.length_take]; rfl)) ?_; (with_reducible refine (named_Class.calls (⟨#[100, 105, 103, 105, 116]⟩ : ByteArray) t106 t107 _ A1.out).mono ?_); rintro e w12 ⟨v108, rfl, ho0, hb⟩; refine ⟨_, rfl, ?_⟩; have n0_ := Aside0.mk (Kd.R_lower ho0 (below_size (by repeat (first | (with_reducible first | exact HB.out | apply below_alloc | apply pw_below_drewN | apply below_drew1) | exact HB.out)))); have n1_ := Aside0.mk (below_step (by repeat (first | (with_reducible first | exact HB.out | apply below_alloc | apply pw_below_drewN | apply below_drew1) | exact HB.out)) hb); clear HB; have HO109 := n0_; have HB := n1_; clear n0_ n1_; (try clear hb); (try clear hb2); (try clear hk); (try clear hi); (try clear ho0)))
    go_ret
    exact ⟨by first | rfl | (simp [errW_none, errW_some] <;> rfl) | (simp [*, errW_none, errW_some] <;> rfl), by repeat (first | (with_reducible first | exact HB.out | apply below_alloc | apply pw_below_drewN | apply below_drew1) | exact HB.out)⟩

-- NOT PRINTED: function 190 (api_Range_190)

/-! ### sets_band: function 167 -/
def bandsL : List S78 := [⟨0, 55295⟩, ⟨57344, 1114111⟩, ⟨1114240, 1114367⟩]
theorem bands_reads {w : World} (hG : GOK w) : Kd.C k78 w (some ⟨0, 0, none⟩) 3 bandsL := by
  refine ⟨rfl, by omega, fun _ => ⟨_, rfl, ?_⟩⟩
  intro j p hj
  refine ⟨_, ?_, k78_mk w p, ?_⟩
  · rfl
  intro i u hu
  rcases j with _ | _ | _ | j
  · obtain rfl : p = ⟨0, 55295⟩ := by simpa [bandsL] using hj.symm
    rcases i with _ | _ | i
    · obtain rfl := Option.some.inj hu
      exact hG.sets_bands 0 _ rfl
    · obtain rfl := Option.some.inj hu
      exact hG.sets_bands 1 _ rfl
    · exact absurd hu (by simp)
  · obtain rfl : p = ⟨57344, 1114111⟩ := by simpa [bandsL] using hj.symm
    rcases i with _ | _ | i
    · obtain rfl := Option.some.inj hu
      exact hG.sets_bands 2 _ rfl
    · obtain rfl := Option.some.inj hu
      exact hG.sets_bands 3 _ rfl
    · exact absurd hu (by simp)
  · obtain rfl : p = ⟨1114240, 1114367⟩ := by simpa [bandsL] using hj.symm
    rcases i with _ | _ | i
    · obtain rfl := Option.some.inj hu
      exact hG.sets_bands 4 _ rfl
    · obtain rfl := Option.some.inj hu
      exact hG.sets_bands 5 _ rfl
    · exact absurd hu (by simp)
  · exact absurd hj (by simp [bandsL])
set_option maxHeartbeats 800000 in
theorem band_lit (x y u : Int) (g : Nat) (W : World) (hcap : W.cell? ⟨g, 0, none⟩ = some (.int .i32 u)) (hg : g < W.heap.size) :
    Calls Tryd.prog 191 #[.agg #[.int .i32 x, .int .i32 y], .pointer (some ⟨g, 0, none⟩)] W fun e w' => e = .returned (.bool (decide (x ≤ u) && decide (u ≤ y))) ∧ Below W.heap.size W w' := by
  have hu31 := Tryd.underlying78
  by_cases h1 : x ≤ u
  · have d1 : decide (x ≤ u) = true := decide_eq_true h1
    rw [d1]; simp only [Bool.true_and]
    go_enter Tryd.func191, Tryd.ntmps191
    go_wp2
    go_ret
    exact ⟨rfl, by repeat (first | exact Below.refl _ _ | apply below_alloc | apply pw_below_drewN | apply below_drew1)⟩
  · have d1 : decide (x ≤ u) = false := decide_eq_false h1
    rw [d1]; simp only [Bool.false_and]
    go_enter Tryd.func191, Tryd.ntmps191
    go_wp2
    go_ret
    exact ⟨rfl, by repeat (first | exact Below.refl _ _ | apply below_alloc | apply pw_below_drewN | apply below_drew1)⟩
def bandIdx (u : Int) : List S78 → Int → Int
  | [], _ => -1
  | x :: xs, i => if x.f0 ≤ u ∧ u ≤ x.f1 then i else bandIdx u xs (i + 1)
set_option maxHeartbeats 800000 in
set_option maxRecDepth 100000 in
theorem band_idx (u : Int) (g : Nat) (A : Option Addr) (c : Nat) (l : List S78) (w : World) (hr : Kd.C k78 w A l.length l) (hc : l.length ≤ c) (hcap : w.cell? ⟨g, 0, none⟩ = some (.int .i32 u)) (hg : g < w.heap.size) :
    Calls Tryd.prog 190 #[.slice A l.length c, .func (.func 191) #[] #[.pointer (some ⟨g, 0, none⟩)]] w fun e w' => e = .returned (.int .i64 (bandIdx u l 0)) ∧ Below w.heap.size w w' := by
  have hu31 := Tryd.underlying78
  have hm : l.length ≤ 9223372036854775807 := hr.2.1
  have HR := Aside0.mk hr
  clear hr
  have HG := Aside0.mk hcap
  clear hcap
  go_enter Tryd.func190, Tryd.ntmps190
  go_wp2
  go_loopw [8] (fun v wr => ∃ k : Nat, k ≤ l.length ∧ v = .int .i64 k ∧ Aside0 (bandIdx u (l.drop k) k = bandIdx u l 0) ∧ Aside0 (Below w.heap.size w wr)) (fun v _ => l.length - (intOf v).toNat)
  case atStart => exact ⟨0, Nat.zero_le _, rfl, ⟨rfl⟩, ⟨Below.refl _ _⟩⟩
  case round =>
    obtain ⟨k, hk, rfl, HI, HB⟩ := hrel
    by_cases hlt : k < l.length
    · have hc1 := at_T78 (Kd.C_below HR.out HB.out) k (by omega) (by omega)
      obtain ⟨ad, rfl, h0, h1⟩ := hc1
      have hI := HI.out
      rw [List.drop_eq_getElem_cons hlt, bandIdx] at hI
      have hx : rd_T78 l (k : Int) = l[k] := by simp [rd_T78, hlt]
      simp only [Int.toNat_natCast] at h0 h1
      have hcw : wr.cell? ⟨g, 0, none⟩ = some (.int .i32 u) := (HB.out.cell (p := ⟨g, 0, none⟩) hg).trans HG.out
      have hgw : g < wr.heap.size := Nat.lt_of_lt_of_le hg HB.out.size
      have HC := Aside0.mk (band_lit (rd_T78 l (k : Int)).f0 (rd_T78 l (k : Int)).f1 u g wr hcw hgw)
      clear hcw
      by_cases hp : l[k].f0 ≤ u ∧ u ≤ l[k].f1
      · rw [if_pos hp] at hI
        have HI2 := Aside0.mk hI
        have hd : (decide ((rd_T78 l (k : Int)).f0 ≤ u) && decide (u ≤ (rd_T78 l (k : Int)).f1)) = true := by rw [hx]; simp [hp]
        rw [hd] at HC
        clear hI HI hd hx hp
        go_wp2_with (refine HC.out.mono ?_; rintro e w' ⟨rfl, hb⟩; have HB2 := Aside0.mk (below_step HB.out hb); clear hb)
        go_ret
        exact ⟨by rw [← HI2.out]; rfl, HB2.out⟩
      · rw [if_neg hp] at hI
        have HI2 := Aside0.mk hI
        have hd : (decide ((rd_T78 l (k : Int)).f0 ≤ u) && decide (u ≤ (rd_T78 l (k : Int)).f1)) = false := by rw [hx]; simp; omega
        rw [hd] at HC
        clear hI HI hd hx hp
        go_wp2_with (refine HC.out.mono ?_; rintro e w' ⟨rfl, hb⟩; have HB2 := Aside0.mk (below_step HB.out hb); clear hb)
        go_roundw
        case rel => exact ⟨k + 1, by omega, by go_num, ⟨by have := HI2.out; simpa using this⟩, HB2⟩
        case measure => simp [intOf]; omega
    · have hkl : k = l.length := by omega
      have hI := HI.out
      rw [List.drop_eq_nil_of_le (by omega), bandIdx] at hI
      have HI2 := Aside0.mk hI
      clear hI HI hkl
      go_wp2
      go_ret
      exact ⟨by rw [← HI2.out]; rfl, HB.out⟩
/-- the number of the band that u lies in; -1: none -/
def sets_band.f (a0 : Int) : Option Int := some (bandIdx a0 bandsL 0)
set_option maxHeartbeats 800000 in
set_option maxRecDepth 100000 in
theorem sets_band.calls (a0 : Int) (r : Int) (w : World) (h : sets_band.f a0 = some r) (hG : GOK w := by first | (with_reducible exact HG_.out) | exact GOK.below HG_.out (by repeat (first | (with_reducible exact Below.refl _ _) | (with_reducible first | exact HB.out | apply below_alloc | apply pw_below_drewN | apply below_drew1 | refine below_set ?_ (Aside0.out (by assumption))) | exact HB.out)) | exact GOK.drewN HG_.out _ | exact GOK.drewN (GOK.drewN HG_.out _) _ | exact GOK.drew HG_.out) :
    Calls Tryd.prog 167 #[.int .i32 a0] w fun e w' => e = .returned (.int .i64 r) ∧ Below w.heap.size w w' := by
  have hu31 := Tryd.underlying78
  obtain rfl := Option.some.inj h
  have hA : Below w.heap.size w (w.alloc (.cells #[.int .i32 a0] 21)) := below_alloc (Below.refl _ _) _
  have HA := Aside0.mk hA
  have HC := Aside0.mk (band_idx a0 w.heap.size (some ⟨0, 0, none⟩) 3 bandsL (w.alloc (.cells #[.int .i32 a0] 21)) (bands_reads (hG.below hA)) (Nat.le_refl _) ((blk_cell (heap_alloc_new _ _) 0).trans rfl) (by simp))
  clear hA h
  have HGG := Aside0.mk hG
  clear hG
  go_enter Tryd.func167, Tryd.ntmps167
  go_wp2_with (refine HC.out.mono ?_; rintro e w' ⟨rfl, hb⟩; have HB := Aside0.mk (below_step HA.out hb); clear hb)
  go_ret
  exact ⟨rfl, HB.out⟩

end Go.Proofs.YtpobhkniekcciaaDoor.XN
