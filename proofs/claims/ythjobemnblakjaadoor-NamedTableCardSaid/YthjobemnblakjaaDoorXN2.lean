/- WRITTEN BY A PROGRAM OF THIS SESSION (wip/tools/xprint.py, over the kit's printer): contracts of the functions that the seat's laws reach. -/
import Derived.Test.YthjobemnblakjaaDoorXN0
import Derived.Test.YthjobemnblakjaaDoorXN1
namespace Go.Proofs.YthjobemnblakjaaDoor.XN
open Go.RowKit Go.Proofs.YthjobemnblakjaaDoorW.PrintWords Go.Proofs.YthjobemnblakjaaDoorW.PrintLast Go.Proofs.YthjobemnblakjaaDoorW.PrintMore
attribute [local go_sem] max2_int min2_int max_two min_two max_three min_three max_four min_four   -- for this text's walks alone
set_option linter.unusedVariables false
set_option linter.unusedSimpArgs false

/-! ### thistleref04_set: function 41 -/
def thistleref04_set.l0 : Nat → List Int → List (S31) → Int → Option ((List (S31)))
  | 0, _, _, _ => none
  | k + 1, x0, x3, x4 => if (wrap64 (x4 + 1)) < (x0.length : Int) then (if 0 ≤ x4 then (if x4 < (x0.length : Int) then (if 0 ≤ (wrap64 (x4 + 1)) then (if x3.length < 17592186044416 then (thistleref04_set.l0 k x0 (x3 ++ [(⟨rd x0 x4, rd x0 (wrap64 (x4 + 1))⟩ : S31)]) (wrap64 (x4 + 2))) else (none)) else (none)) else (none)) else (none)) else (some x3)
def thistleref04_set.f (k : Nat) (l0 : List Int) : Option ((List (S31))) := thistleref04_set.l0 k l0 ([] : List (S31)) 0
theorem thistleref04_set.mono_l : ∀ k, (∀ y0 y1 y2, LeO (thistleref04_set.l0 k y0 y1 y2) (thistleref04_set.l0 (k + 1) y0 y1 y2))
  | 0 => fun _ _ _ r h => by simp [thistleref04_set.l0] at h
  | k + 1 => by
    have ih0 := thistleref04_set.mono_l k
    · intro y0 y1 y2
      unfold thistleref04_set.l0
      repeat' first
      | (with_reducible exact ih0 _ _ _)
      | (with_reducible exact LeO.refl _)
      | (with_reducible exact LeO.none _)
      | (with_reducible refine LeO.ite ?_ ?_)
      | (with_reducible refine LeO.bind ?_ (fun _ => ?_))
      | exact ih0 _ _ _
      | exact LeO.none _
      | refine LeO.ite ?_ ?_
      | refine LeO.bind ?_ (fun _ => ?_)
theorem thistleref04_set.mono : ∀ a0 k, LeO (thistleref04_set.f k a0) (thistleref04_set.f (k + 1) a0) := by
  intro a0 k
  have ih0 := thistleref04_set.mono_l k
  unfold thistleref04_set.f
  repeat' first
      | (with_reducible exact ih0 _ _ _)
      | (with_reducible exact LeO.refl _)
      | (with_reducible exact LeO.none _)
      | (with_reducible refine LeO.ite ?_ ?_)
      | (with_reducible refine LeO.bind ?_ (fun _ => ?_))
      | exact ih0 _ _ _
      | exact LeO.none _
      | refine LeO.ite ?_ ?_
      | refine LeO.bind ?_ (fun _ => ?_)
def thistleref04_set.T5 : Bool × List (List Nat × List Nat) := (true, [([], []), ([], []), ([], []), ([1, 2], [1, 2]), ([3], [3]), ([], []), ([], []), ([6], [6]), ([5, 7], [5, 7]), ([8], [8]), ([4, 9], [4, 9]), ([10], [10]), ([0, 11], [0, 11]), ([12, 12, 0, 1, 2, 3, 4, 5, 6, 7, 8, 9, 10, 11, 12], [0, 12])])
def thistleref04_set.B5 : List Nat := [0, 0, 0, 6, 14, 0, 0, 64, 224, 480, 1022, 2046, 4095, 8191]
theorem thistleref04_set.tab5 : rtab .any (opsOf Tryd.f41 5) = thistleref04_set.T5 := by kernel_rfl
theorem thistleref04_set.bits5 : waitsOk thistleref04_set.T5.2 thistleref04_set.B5 = true := by kernel_rfl
set_option maxHeartbeats 8000000 in
set_option maxRecDepth 100000 in
theorem thistleref04_set.calls (k : Nat) (A0 : Option Addr) (c0 : Nat) (l0 : List Int) (r : List (S31)) (w : World) (hr0 : Kd.C (Kd.int .i32) w A0 l0.length l0) (hc0 : l0.length ≤ c0) (h : thistleref04_set.f k l0 = some r) (hG : GOK w := by first | (with_reducible exact HG_.out) | exact GOK.below HG_.out (by repeat (first | (with_reducible first | exact HB.out | apply below_alloc | apply pw_below_drewN | apply below_drew1 | refine below_set ?_ (Aside0.out (by assumption))) | exact HB.out)) | exact GOK.drewN HG_.out _ | exact GOK.drewN (GOK.drewN HG_.out _) _ | exact GOK.drew HG_.out) :
    Calls Tryd.prog 41 #[.slice A0 l0.length c0] w fun e w' => ∃ v0_ : Value, e = .returned (v0_) ∧ Kd.R k31 31 w' w.heap.size (fun _ => True) v0_ r ∧ Below w.heap.size w w' := by
  have HG_ := Aside0.mk hG
  clear hG
  have hu31 := Tryd.underlying31
  have HR0 := Aside0.mk hr0
  have HC0 := Aside0.mk hc0
  clear hr0 hc0
  have HB := Aside0.mk (Below.refl w.heap.size w)
  have H : (thistleref04_set.l0 k l0 ([] : List (S31)) 0) = some r := h
  clear h
  have H' := Aside0.mk H
  clear H
  go_enter Tryd.func41, Tryd.ntmps41
  go_wp2
  go_loopg [3, 4] k (fun kq v3 v4 w' => ∃ (x3_1 : List (S31)) (x4_1 : Int), v4 = .int .i64 x4_1 ∧ Aside0 (thistleref04_set.l0 kq l0 x3_1 x4_1 = some r) ∧ Aside0 (kq ≤ k) ∧ Aside0 (Kd.R k31 31 w' w.heap.size (fun _ => True) v3 x3_1) ∧ Aside0 (Below w.heap.size w w'))
  case atStart => exact ⟨(([] : List (S31))), (0), (by first | rfl | (simp; done) | (simp [*]; done)), H', ⟨Nat.le_refl _⟩, ⟨by first | exact Kd.R_nil _ _ _ _ _ | exact Kd.N_nil _ _ _ _ _ | exact Kd.V_nil _ _ _ _ _ | exact Kd.Q_nil _ _ _ _ _ | exact Kd.S_nil _ _ _ _ _⟩, ⟨by repeat (first | (with_reducible first | exact HB.out | apply below_alloc | apply pw_below_drewN | apply below_drew1) | exact HB.out)⟩⟩
  case round =>
    clear H'
    obtain ⟨x3_1, x4_1, rfl, HA, HK1, HO_3, HB⟩ := hrel
    cases gk with
    | zero => exact absurd HA.out (by simp [thistleref04_set.l0])
    | succ k1 =>
      have H := HA.out
      clear HA
      simp only [thistleref04_set.l0] at H
      by_cases c2 : (wrap64 (x4_1 + 1)) < (l0.length : Int)
      · rw [if_pos c2] at H
        have c2b0 : decide ((wrap64 (x4_1 + 1)) < (l0.length : Int)) = true := decide_eq_true c2
        clear c2
        by_cases c3 : 0 ≤ x4_1
        · rw [if_pos c3] at H
          have c3b0 : decide (0 ≤ x4_1) = true := decide_eq_true c3
          clear c3
          by_cases c4 : x4_1 < (l0.length : Int)
          · rw [if_pos c4] at H
            have c4b0 : decide (x4_1 < (l0.length : Int)) = true := decide_eq_true c4
            clear c4
            obtain ⟨ji5, hji5⟩ : ∃ j_ : Int, (wrap64 (x4_1 + 1)) = j_ := ⟨_, rfl⟩
            replace H : (if 0 ≤ (ji5) then (if x3_1.length < 17592186044416 then (thistleref04_set.l0 k1 l0 (x3_1 ++ [(⟨rd l0 x4_1, rd l0 (ji5)⟩ : S31)]) (wrap64 (x4_1 + 2))) else (none)) else (none)) = some r := by first | (rw [hji5] at H; exact H) | (simp only [hji5] at H ⊢; exact H)
            (try rw [hji5] at c2b0)
            have hji5w : (IntKind.i64.wrap (x4_1 + 1)) = ji5 := (i64_w _).trans hji5
            by_cases c6 : 0 ≤ (ji5)
            · rw [if_pos c6] at H
              have c6b0 : decide (0 ≤ (ji5)) = true := decide_eq_true c6
              clear c6
              by_cases c7 : x3_1.length < 17592186044416
              · rw [if_pos c7] at H
                have LMc7 := Aside0.mk c7
                clear c7
                obtain ⟨y184, hy184⟩ : ∃ y_ : List (S31), y_ = (x3_1 ++ [(⟨rd l0 x4_1, rd l0 (ji5)⟩ : S31)]) := ⟨_, rfl⟩
                replace H : (thistleref04_set.l0 k1 l0 y184 (wrap64 (x4_1 + 2))) = some r := by first | (rw [hy184]; with_reducible exact H) | (have H2_ := (Option.bind_some _ _).symm.trans H; rw [hy184]; with_reducible exact H2_) | (have H2_ := (Option.bind_some _ _).symm.trans H; with_reducible exact H2_) | with_reducible exact H | (rw [hy184]; exact H) | exact H
                have Ny184 := Aside0.mk hy184
                clear hy184
                have H' := Aside0.mk H
                clear H
                try go_wp2
                have n0_ := Aside0.mk (Kd.R_drew HO_3.out)
                have n1_ := Aside0.mk (below_drew1 HB.out)
                clear HO_3
                clear HB
                have HO_3 := n0_
                have HB := n1_
                clear n0_ n1_
                have p182 : 0 ≤ (x4_1 : Int) := of_decide_eq_true (by first | (with_reducible assumption) | assumption)
                have q182 : x4_1 < (l0.length : Int) := of_decide_eq_true (by first | (with_reducible assumption) | assumption)
                obtain ⟨ad182, e182, hx182_0⟩ := Kd.at_int HR0.out x4_1 p182 q182
                have hw182_0 := hx182_0
                cases e182
                replace hx182_0 := (HB.out.cell (World.block_lt_of_cell? w _ hx182_0)).trans hx182_0
                replace p182 := eq_true p182
                replace q182 := eq_true q182
                have p183 : 0 ≤ ((ji5) : Int) := of_decide_eq_true (by first | (with_reducible assumption) | assumption)
                have q183 : (ji5) < (l0.length : Int) := of_decide_eq_true (by first | (with_reducible assumption) | assumption)
                obtain ⟨ad183, e183, hx183_0⟩ := Kd.at_int HR0.out (ji5) p183 q183
                have hw183_0 := hx183_0
                obtain rfl : ad182 = ad183 := (by injection e183)
                replace hx183_0 := (HB.out.cell (World.block_lt_of_cell? w _ hx183_0)).trans hx183_0
                replace p183 := eq_true p183
                replace q183 := eq_true q183
                refine start_ (n := 14) (S := fun w' => w'.cell? (ad182.add (x4_1).toNat) = some (.int .i32 (rd l0 x4_1)) ∧ w'.cell? (ad182.add ((ji5)).toNat) = some (.int .i32 (rd l0 (ji5)))) (ds := []) #[false, false, false, false, false, false, false, false, false, false, false, false, false, false] (by kernel_rfl) rfl rfl ⟨((HB.out.cell (World.block_lt_of_cell? w _ hw182_0)).trans hw182_0), ((HB.out.cell (World.block_lt_of_cell? w _ hw183_0)).trans hw183_0)⟩ (fun hHeld => ?_); refine with_tabW thistleref04_set.tab5 thistleref04_set.bits5 (fun HT_ HW_ => ?_)
                generalize wr.drew = w8 at HO_3 HB hx182_0 hx183_0 hHeld ⊢
                refine pure_ (i := 0) (N := some 12) (v := ?_) (a' := ?_) #[true, false, false, false, false, false, false, false, false, false, false, false, false, false] rfl rfl (any_of HT_.out (by kernel_rfl)) (fun _ _ _ h => h) (Or.inl ⟨by rfl, ?_⟩) ?_ ?_
                rotate_left
                · intro w'
                  go_simp
                  with_reducible rfl
                rotate_left
                · simp only [Act.put, List.setIfInBounds_toArray, List.set_cons_zero, List.set_cons_succ, i64_w, i32_w]
                  rfl
                refine pure_ (i := 1) (N := some 13) (v := ?_) (a' := ?_) #[true, true, false, false, false, false, false, false, false, false, false, false, false, false] rfl rfl (any_of HT_.out (by kernel_rfl)) (fun _ _ _ h => h) (Or.inl ⟨by rfl, ?_⟩) ?_ ?_
                rotate_left
                · intro w'
                  go_simp
                  with_reducible rfl
                rotate_left
                · simp only [Act.put, List.setIfInBounds_toArray, List.set_cons_zero, List.set_cons_succ, i64_w, i32_w]
                  rfl
                refine pure_ (i := 2) (N := some 14) (v := ?_) (a' := ?_) #[true, true, true, false, false, false, false, false, false, false, false, false, false, false] rfl rfl (any_of HT_.out (by kernel_rfl)) (fun _ _ _ h => h) (Or.inl ⟨by rfl, ?_⟩) ?_ ?_
                rotate_left
                · intro w'
                  go_simp
                  with_reducible rfl
                rotate_left
                · simp only [Act.put, List.setIfInBounds_toArray, List.set_cons_zero, List.set_cons_succ, i64_w, i32_w]
                  rfl
                refine pure_ (i := 3) (N := some 15) (v := ?_) (a' := ?_) #[true, true, true, true, false, false, false, false, false, false, false, false, false, false] rfl rfl (any_of HT_.out (by kernel_rfl)) (fun _ _ _ h => h) (Or.inl ⟨by rfl, ?_⟩) ?_ ?_
                rotate_left
                · intro w'
                  go_simp
                  with_reducible rfl
                rotate_left
                · simp only [Act.put, List.setIfInBounds_toArray, List.set_cons_zero, List.set_cons_succ, i64_w, i32_w]
                  rfl
                refine pure_ (i := 5) (N := some 17) (v := ?_) (a' := ?_) #[true, true, true, true, false, true, false, false, false, false, false, false, false, false] rfl rfl (any_of HT_.out (by kernel_rfl)) (fun _ _ _ h => h) (Or.inl ⟨by rfl, ?_⟩) ?_ ?_
                rotate_left
                · intro w'
                  go_simp
                  with_reducible rfl
                rotate_left
                · simp only [Act.put, List.setIfInBounds_toArray, List.set_cons_zero, List.set_cons_succ, i64_w, i32_w]
                  rfl
                refine pure_ (i := 6) (N := some 18) (v := ?_) (a' := ?_) #[true, true, true, true, false, true, true, false, false, false, false, false, false, false] rfl rfl (any_of HT_.out (by kernel_rfl)) (fun _ _ _ h => h) (Or.inl ⟨by rfl, ?_⟩) ?_ ?_
                rotate_left
                · intro w'
                  go_simp
                  with_reducible rfl
                rotate_left
                · simp only [Act.put, List.setIfInBounds_toArray, List.set_cons_zero, List.set_cons_succ, i64_w, i32_w]
                  rfl
                refine pure_ (i := 7) (N := some 19) (v := ?_) (a' := ?_) #[true, true, true, true, false, true, true, true, false, false, false, false, false, false] rfl rfl (any_of HT_.out (by kernel_rfl)) (fun _ _ _ h => h) (Or.inl ⟨by rfl, ?_⟩) ?_ ?_
                rotate_left
                · intro w'
                  go_simp
                  with_reducible rfl
                rotate_left
                · simp only [Act.put, List.setIfInBounds_toArray, List.set_cons_zero, List.set_cons_succ, i64_w, i32_w]
                  rfl
                refine pure_ (i := 8) (N := some 20) (v := ?_) (a' := ?_) #[true, true, true, true, false, true, true, true, true, false, false, false, false, false] rfl rfl (any_of HT_.out (by kernel_rfl)) (fun _ _ _ h => h) (Or.inl ⟨by rfl, ?_⟩) ?_ ?_
                rotate_left
                · intro w'
                  go_simp
                  with_reducible rfl
                rotate_left
                · simp only [Act.put, List.setIfInBounds_toArray, List.set_cons_zero, List.set_cons_succ, i64_w, i32_w]
                  rfl
                refine take_ (i := 4) (N := some 16) (v := ?_) (a' := ?_) #[true, true, true, true, true, true, true, true, true, false, false, false, false, false] rfl rfl (take_ofW HT_.out HW_.out (by kernel_rfl)) (fun _ _ _ h => h) (Or.inl ⟨by rfl, ?_⟩) hHeld ?_ ?_
                rotate_left
                · rintro w' ⟨s0, s1⟩
                  go_simp
                  with_reducible rfl
                rotate_left
                · simp only [Act.put, List.setIfInBounds_toArray, List.set_cons_zero, List.set_cons_succ, i64_w, i32_w]
                  rfl
                refine take_ (i := 9) (N := some 21) (v := ?_) (a' := ?_) #[true, true, true, true, true, true, true, true, true, true, false, false, false, false] rfl rfl (take_ofW HT_.out HW_.out (by kernel_rfl)) (fun _ _ _ h => h) (Or.inl ⟨by rfl, ?_⟩) hHeld ?_ ?_
                rotate_left
                · rintro w' ⟨s0, s1⟩
                  go_simp
                  with_reducible rfl
                rotate_left
                · simp only [Act.put, List.setIfInBounds_toArray, List.set_cons_zero, List.set_cons_succ, i64_w, i32_w]
                  rfl
                refine pure_ (i := 10) (N := some 22) (v := ?_) (a' := ?_) #[true, true, true, true, true, true, true, true, true, true, true, false, false, false] rfl rfl (any_of HT_.out (by kernel_rfl)) (fun _ _ _ h => h) (Or.inl ⟨by rfl, ?_⟩) ?_ ?_
                rotate_left
                · intro w'
                  go_simp
                  with_reducible rfl
                rotate_left
                · simp only [Act.put, List.setIfInBounds_toArray, List.set_cons_zero, List.set_cons_succ, i64_w, i32_w]
                  rfl
                refine one_ (i := 11) (N := some 23) #[true, true, true, true, true, true, true, true, true, true, true, true, false, false] rfl rfl (one_of HT_.out (by kernel_rfl)) (by decide) (fun K hK => ?_)
                refine value_ (w1 := ?_) (v := ?_) (by rfl) rfl ?_ ?_
                rotate_left 2
                · go_simp
                  constructor
                  · rfl
                  · rfl
                refine hK.out _ _ ⟨(World.cell?_alloc_lt _ _ _ (World.block_lt_of_cell? _ _ (((HB.out.cell (World.block_lt_of_cell? w _ hw182_0)).trans hw182_0)))).trans (((HB.out.cell (World.block_lt_of_cell? w _ hw182_0)).trans hw182_0)), (World.cell?_alloc_lt _ _ _ (World.block_lt_of_cell? _ _ (((HB.out.cell (World.block_lt_of_cell? w _ hw183_0)).trans hw183_0)))).trans (((HB.out.cell (World.block_lt_of_cell? w _ hw183_0)).trans hw183_0))⟩ (fun hHeld => ?_)
                clear hK K
                refine norm_ (a' := ?_) ?_ ?_
                rotate_left
                · show Act.put _ (some 23) _ = _
                  simp only [Act.put, List.setIfInBounds_toArray, List.set_cons_zero, List.set_cons_succ, i64_w, i32_w]
                  rfl
                refine one_ (i := 12) (N := some 24) #[true, true, true, true, true, true, true, true, true, true, true, true, true, false] rfl rfl (one_of HT_.out (by kernel_rfl)) (by decide) (fun K hK => ?_)
                refine Kd.R_append_step k31 (w0 := w) w.heap.size (by rfl) (.tmp 12) (.tmp 23) 22 31 (.agg #[(.int .i32 0), (.int .i32 0)]) 8 rfl Tryd.underlying22 info31 rfl (by decide) (by omega) u3 x3_1 (⟨rd l0 x4_1, rd l0 (ji5)⟩ : S31) [.int .i32 (rd l0 x4_1), .int .i32 (rd l0 (ji5))] (fun _ => True) (fun _ => False) rfl rfl ?aP (fun _ hk => hk.elim) ?aF ?aO ?aB ?aS ?aL ?_
                (case aP => exact k31_mkM _ _ _ (⟨rd l0 x4_1, rd l0 (ji5)⟩ : S31))
                (case aB => exact (by repeat (first | (with_reducible first | exact HB.out | apply below_alloc | apply pw_below_drewN | apply below_drew1) | exact HB.out)))
                (case aF => exact (fun _ _ => trivial))
                (case aO => exact (by (with_reducible repeat (first | apply Kd.R_alloc | apply Kd.R_drewN | apply Kd.R_drew)); exact HO_3.out))
                (case aS => exact (below_size (by repeat (first | (with_reducible first | exact HB.out | apply below_alloc | apply pw_below_drewN | apply below_drew1) | exact HB.out))))
                (case aL => have := LMc7.out; omega)
                intro v185 w9 ho hb hg hat
                rw [← Ny184.out] at ho
                have n0_ := Aside0.mk (hb)
                have n1_ := Aside0.mk (ho)
                clear HB
                clear HO_3
                have HB := n0_
                have HO186 := n1_
                clear n0_ n1_
                clear ho hb hg hat
                refine hK.out _ _ ⟨((HB.out.cell (World.block_lt_of_cell? w _ hw182_0)).trans hw182_0), ((HB.out.cell (World.block_lt_of_cell? w _ hw183_0)).trans hw183_0)⟩ (fun hHeld => ?_)
                clear hK K
                refine norm_ (a' := ?_) ?_ ?_
                rotate_left
                · show Act.put _ (some 24) _ = _
                  simp only [Act.put, List.setIfInBounds_toArray, List.set_cons_zero, List.set_cons_succ, i64_w, i32_w]
                  rfl
                refine pure_ (i := 13) (N := some 3) (v := ?_) (a' := ?_) #[true, true, true, true, true, true, true, true, true, true, true, true, true, true] rfl rfl (any_of HT_.out (by kernel_rfl)) (fun _ _ _ h => h) (Or.inl ⟨by rfl, ?_⟩) ?_ ?_
                rotate_left
                · intro w'
                  go_simp
                  with_reducible rfl
                rotate_left
                · simp only [Act.put, List.setIfInBounds_toArray, List.set_cons_zero, List.set_cons_succ, i64_w, i32_w]
                  rfl
                refine done_ (done_of HT_.out (by kernel_rfl)) ?_
                try go_wp2
                go_roundg k1
                case measure => have := HK1.out; omega
                case rel => exact ⟨(y184), (wrap64 (x4_1 + 2)), (by first | rfl | (simp; done) | (simp [*]; done)), H', ⟨by have := HK1.out; omega⟩, ⟨by (with_reducible repeat (first | apply Kd.R_alloc | apply Kd.R_drewN | apply Kd.R_drew)); exact HO186.out⟩, ⟨by repeat (first | (with_reducible first | exact HB.out | apply below_alloc | apply pw_below_drewN | apply below_drew1) | exact HB.out)⟩⟩
              · rw [if_neg c7] at H
                exact absurd H (by simp)
            · rw [if_neg c6] at H
              exact absurd H (by simp)
          · rw [if_neg c4] at H
            exact absurd H (by simp)
        · rw [if_neg c3] at H
          exact absurd H (by simp)
      · rw [if_neg c2] at H
        have c2b0 : decide ((wrap64 (x4_1 + 1)) < (l0.length : Int)) = false := decide_eq_false c2
        clear c2
        obtain rfl := Option.some.inj H
        go_wp2
        go_ret
        exact ⟨_, by first | rfl | (simp [errW_none, errW_some] <;> rfl) | (simp [*, errW_none, errW_some] <;> rfl), by (with_reducible repeat (first | apply Kd.R_alloc | apply Kd.R_drewN | apply Kd.R_drew)); exact HO_3.out, by repeat (first | (with_reducible first | exact HB.out | apply below_alloc | apply pw_below_drewN | apply below_drew1) | exact HB.out)⟩

/-! ### thistleref04_Class: function 17 -/
def thistleref04_Class.l0 : Nat → ByteArray → List (S83) → Int → Option ((List (S31)) × Int)
  | 0, _, _, _ => none
  | k + 1, x0, x4, x5 => if x5 < (x4.length : Int) then (if 0 ≤ x5 then (if ((rd_T83 x4 x5).f0).toList = x0.toList then ((thistleref04_set.f k ((rd_T83 x4 x5).f1)).bind fun t192 => (some (t192, 0))) else (thistleref04_Class.l0 k x0 x4 (wrap64 (x5 + 1)))) else (none)) else (some (([] : List (S31)), 9))
def thistleref04_Class.f (k : Nat) (a0 : ByteArray) : Option ((List (S31)) × Int) := (thistleref04_table.f).bind fun t187 => (thistleref04_Class.l0 k a0 t187 0)
theorem thistleref04_Class.mono_l : ∀ k, (∀ y0 y1 y2, LeO (thistleref04_Class.l0 k y0 y1 y2) (thistleref04_Class.l0 (k + 1) y0 y1 y2))
  | 0 => fun _ _ _ r h => by simp [thistleref04_Class.l0] at h
  | k + 1 => by
    have ih0 := thistleref04_Class.mono_l k
    · intro y0 y1 y2
      unfold thistleref04_Class.l0
      repeat' first
      | (with_reducible exact ih0 _ _ _)
      | (with_reducible exact thistleref04_set.mono _ _)
      | (with_reducible exact LeO.refl _)
      | (with_reducible exact LeO.none _)
      | (with_reducible refine LeO.ite ?_ ?_)
      | (with_reducible refine LeO.bind ?_ (fun _ => ?_))
      | exact ih0 _ _ _
      | exact thistleref04_set.mono _ _
      | exact LeO.none _
      | refine LeO.ite ?_ ?_
      | refine LeO.bind ?_ (fun _ => ?_)
theorem thistleref04_Class.mono : ∀ a0 k, LeO (thistleref04_Class.f k a0) (thistleref04_Class.f (k + 1) a0) := by
  intro a0 k
  have ih0 := thistleref04_Class.mono_l k
  unfold thistleref04_Class.f
  repeat' first
      | (with_reducible exact ih0 _ _ _)
      | (with_reducible exact thistleref04_set.mono _ _)
      | (with_reducible exact LeO.refl _)
      | (with_reducible exact LeO.none _)
      | (with_reducible refine LeO.ite ?_ ?_)
      | (with_reducible refine LeO.bind ?_ (fun _ => ?_))
      | exact ih0 _ _ _
      | exact thistleref04_set.mono _ _
      | exact LeO.none _
      | refine LeO.ite ?_ ?_
      | refine LeO.bind ?_ (fun _ => ?_)
set_option maxHeartbeats 8000000 in
set_option maxRecDepth 100000 in
theorem thistleref04_Class.calls (k : Nat) (a0 : ByteArray) (r1 : List (S31)) (r2 : Int) (w : World) (h : thistleref04_Class.f k a0 = some (r1, r2)) (hG : GOK w := by first | (with_reducible exact HG_.out) | exact GOK.below HG_.out (by repeat (first | (with_reducible first | exact HB.out | apply below_alloc | apply pw_below_drewN | apply below_drew1 | refine below_set ?_ (Aside0.out (by assumption))) | exact HB.out)) | exact GOK.drewN HG_.out _ | exact GOK.drewN (GOK.drewN HG_.out _) _ | exact GOK.drew HG_.out) :
    Calls Tryd.prog 17 #[.string a0] w fun e w' => ∃ v0_ : Value, e = .returned (.tuple #[v0_, .int .i64 r2]) ∧ Kd.R k31 31 w' w.heap.size (fun _ => True) v0_ r1 ∧ Below w.heap.size w w' := by
  have HG_ := Aside0.mk hG
  clear hG
  have HB := Aside0.mk (Below.refl w.heap.size w)
  have H : ((thistleref04_table.f).bind fun t187 => (thistleref04_Class.l0 k a0 t187 0)) = some (r1, r2) := h
  clear h
  replace H := Option.bind_eq_some_iff.mp H
  obtain ⟨t187, A20, H⟩ := H
  replace H : (thistleref04_Class.l0 k a0 t187 0) = some (r1, r2) := H
  have A2 := Aside0.mk A20
  clear A20
  have H' := Aside0.mk H
  clear H
  go_enter Tryd.func17, Tryd.ntmps17
  go_wp2_with (first | ((with_reducible refine gate_callee (f := 39) rfl ?_); refine goesL_ (some 6) rfl rfl Tryd.func39 (by kernel_rfl) rfl #[] rfl (by (try simp only [List.map_toArray, List.map_cons, List.map_nil]); first | done | rfl | (simp only [List.length_drop, List.length_take]; rfl)) ?_; (with_reducible refine (thistleref04_table.calls  t187 _ A2.out).mono ?_); rintro e w3 ⟨v188, rfl, ho0, hb⟩; refine ⟨_, rfl, ?_⟩; have n0_ := Aside0.mk (Kd.N_lower (Kd.N_mono (ok' := fun k_ => True) ho0 (fun k_ hk_ => trivial)) (below_size (by repeat (first | (with_reducible first | exact HB.out | apply below_alloc | apply pw_below_drewN | apply below_drew1) | exact HB.out)))); have n1_ := Aside0.mk (below_step (by repeat (first | (with_reducible first | exact HB.out | apply below_alloc | apply pw_below_drewN | apply below_drew1) | exact HB.out)) hb); clear HB; have HO189 := n0_; have HB := n1_; clear n0_ n1_; (try clear hb); (try clear hb2); (try clear hk); (try clear hi); (try clear ho0)))
  go_loopg [5] k (fun kq v5 w' => ∃ (x5_1 : Int), v5 = .int .i64 x5_1 ∧ Aside0 (thistleref04_Class.l0 kq a0 t187 x5_1 = some (r1, r2)) ∧ Aside0 (kq ≤ k) ∧ Aside0 (Kd.N k83 83 w' w.heap.size (fun _ => True) v188 t187) ∧ Aside0 (Below w.heap.size w w'))
  case atStart => exact ⟨(0), (by first | rfl | (simp; done) | (simp [*]; done)), H', ⟨Nat.le_refl _⟩, ⟨by (with_reducible repeat (first | apply Kd.N_alloc | apply Kd.N_drewN | apply Kd.N_drew)); exact HO189.out⟩, ⟨by repeat (first | (with_reducible first | exact HB.out | apply below_alloc | apply pw_below_drewN | apply below_drew1) | exact HB.out)⟩⟩
  case round =>
    clear H'
    try clear c1
    try clear p2
    try clear c3
    obtain ⟨x5_1, rfl, HA, HK1, HO_4, HB⟩ := hrel
    cases gk with
    | zero => exact absurd HA.out (by simp [thistleref04_Class.l0])
    | succ k1 =>
      have H := HA.out
      clear HA
      simp only [thistleref04_Class.l0] at H
      by_cases c4 : x5_1 < (t187.length : Int)
      · rw [if_pos c4] at H
        have c4b0 : decide (x5_1 < (t187.length : Int)) = true := decide_eq_true c4
        clear c4
        by_cases c5 : 0 ≤ x5_1
        · rw [if_pos c5] at H
          have c5b0 : decide (0 ≤ x5_1) = true := decide_eq_true c5
          clear c5
          by_cases c6 : ((rd_T83 t187 x5_1).f0).toList = a0.toList
          · rw [if_pos c6] at H
            have c6b0 : (((rd_T83 t187 x5_1).f0).toList == a0.toList) = true := beq_iff_eq.mpr c6
            have c6b1 : (((rd_T83 t187 x5_1).f0).toList != a0.toList) = false := bne_eq_false_iff_eq.mpr c6
            clear c6
            replace H := Option.bind_eq_some_iff.mp H
            obtain ⟨t192, A70, H⟩ := H
            replace H : (some (t192, 0)) = some (r1, r2) := H
            have A7 := Aside0.mk A70
            clear A70
            simp only [Option.some.injEq, Prod.mk.injEq] at H
            obtain ⟨rfl, rfl⟩ := H
            obtain ⟨Ao8, co8, eo8⟩ := Kd.N_slice HO_4.out
            subst eo8
            have p190 : 0 ≤ (x5_1 : Int) := of_decide_eq_true (by first | (with_reducible assumption) | assumption)
            have q190 : x5_1 < (t187.length : Int) := of_decide_eq_true (by first | (with_reducible assumption) | assumption)
            obtain ⟨ad190, A190_1, c190_1, e190, hx190_0, hx190_1, hl190_1, hi190_1⟩ := at_T83 (Kd.N_reads' HO_4.out).2.2 x5_1 p190 q190
            cases e190
            obtain ⟨ce190, hce190, hMe190, hcc190⟩ := Kd.N_get HO_4.out z83 x5_1 p190 (by first | exact q190 | exact of_decide_eq_true (by first | (with_reducible assumption) | assumption) | (have e_ := (Kd.N_reads' HO_4.out).1; omega))
            obtain ⟨ua190_1, uc190_1, rfl, ul190_1, ge190_1⟩ := k83_openF hMe190
            have hv190_1 := hcc190 1 _ rfl
            rw [add_field _ _ 1 (by omega)] at hv190_1
            replace hv190_1 := Option.some.inj (hv190_1.symm.trans hx190_1)
            injection hv190_1 with hva_ hvn_ hvc_
            rw [hva_] at ge190_1
            rw [hvc_] at ul190_1
            have HL190_1 := Aside0.mk (show Kd.V (Kd.int .i32) 21 _ w.heap.size _ _ ((rd_T83 t187 x5_1).f1) from Kd.V_mk ul190_1 ge190_1)
            clear hva_ hvn_ hvc_ ge190_1 ul190_1
            clear hcc190 hce190
            have HR190_1 := Aside0.mk hi190_1
            have HC190_1 := Aside0.mk hl190_1
            clear hi190_1 hl190_1
            replace p190 := eq_true p190
            replace q190 := eq_true q190
            have p191 : 0 ≤ (x5_1 : Int) := of_decide_eq_true (by first | (with_reducible assumption) | assumption)
            have q191 : x5_1 < (t187.length : Int) := of_decide_eq_true (by first | (with_reducible assumption) | assumption)
            obtain ⟨ad191, A191_1, c191_1, e191, hx191_0, hx191_1, hl191_1, hi191_1⟩ := at_T83 (Kd.N_reads' HO_4.out).2.2 x5_1 p191 q191
            obtain rfl : ad190 = ad191 := (by injection e191)
            obtain ⟨ce191, hce191, hMe191, hcc191⟩ := Kd.N_get HO_4.out z83 x5_1 p191 (by first | exact q191 | exact of_decide_eq_true (by first | (with_reducible assumption) | assumption) | (have e_ := (Kd.N_reads' HO_4.out).1; omega))
            obtain ⟨ua191_1, uc191_1, rfl, ul191_1, ge191_1⟩ := k83_openF hMe191
            have hv191_1 := hcc191 1 _ rfl
            rw [add_field _ _ 1 (by omega)] at hv191_1
            replace hv191_1 := Option.some.inj (hv191_1.symm.trans hx191_1)
            injection hv191_1 with hva_ hvn_ hvc_
            rw [hva_] at ge191_1
            rw [hvc_] at ul191_1
            have HL191_1 := Aside0.mk (show Kd.V (Kd.int .i32) 21 _ w.heap.size _ _ ((rd_T83 t187 x5_1).f1) from Kd.V_mk ul191_1 ge191_1)
            clear hva_ hvn_ hvc_ ge191_1 ul191_1
            clear hcc191 hce191
            have HR191_1 := Aside0.mk hi191_1
            have HC191_1 := Aside0.mk hl191_1
            clear hi191_1 hl191_1
            replace p191 := eq_true p191
            replace q191 := eq_true q191
            have ea_ := Option.some.inj (hx190_1.symm.trans hx191_1)
            injection ea_ with ea_ en_ ec_
            subst ea_
            subst ec_
            clear en_
            go_wp2_with (first | ((with_reducible refine gate_callee (f := 41) rfl ?_); refine goesL_ (some 25) rfl rfl Tryd.func41 (by kernel_rfl) rfl #[.slice A190_1 ((rd_T83 t187 x5_1).f1).length c190_1] rfl (by (try simp only [List.map_toArray, List.map_cons, List.map_nil]); first | done | rfl | (simp only [List.length_drop, List.length_take]; rfl)) ?_; (with_reducible refine (thistleref04_set.calls k1 _ _ ((rd_T83 t187 x5_1).f1) t192 _ ?side1 ?side2 A7.out).mono ?_); (case side1 => repeat (first | exact (by repeat (first | (with_reducible exact HR191_1.out) | (with_reducible refine Kd.C_alloc ?_ _) | (with_reducible refine Kd.C_drewN ?_ _) | (with_reducible refine Kd.C_drew ?_) | exact HR191_1.out)) | (with_reducible refine Kd.C_alloc ?_ _) | (with_reducible refine Kd.C_drewN ?_ _) | (with_reducible refine Kd.C_drew ?_))); (case side2 => exact HC191_1.out); rintro e w9 ⟨v193, rfl, ho0, hb⟩; refine ⟨_, rfl, ?_⟩; have n0_ := Aside0.mk (Kd.N_elder' (by (with_reducible repeat (first | apply Kd.N_alloc | apply Kd.N_drewN | apply Kd.N_drew)); exact HO_4.out) (Kd.R_base ho0) hb); have n1_ := Aside0.mk (Kd.V_elder' (by (with_reducible repeat (first | apply Kd.V_alloc | apply Kd.V_drewN | apply Kd.V_drew)); exact HL190_1.out) (Kd.R_base ho0) hb); have n2_ := Aside0.mk (Kd.V_elder' (by (with_reducible repeat (first | apply Kd.V_alloc | apply Kd.V_drewN | apply Kd.V_drew)); exact HL191_1.out) (Kd.R_base ho0) hb); have n3_ := Aside0.mk (Kd.R_lower ho0 (below_size (by repeat (first | (with_reducible first | exact HB.out | apply below_alloc | apply pw_below_drewN | apply below_drew1) | exact HB.out)))); have n4_ := Aside0.mk (Kd.C_below (by repeat (first | (with_reducible exact HR190_1.out) | (with_reducible refine Kd.C_alloc ?_ _) | (with_reducible refine Kd.C_drewN ?_ _) | (with_reducible refine Kd.C_drew ?_) | exact HR190_1.out)) hb); have n5_ := Aside0.mk (Kd.C_below (by repeat (first | (with_reducible exact HR191_1.out) | (with_reducible refine Kd.C_alloc ?_ _) | (with_reducible refine Kd.C_drewN ?_ _) | (with_reducible refine Kd.C_drew ?_) | exact HR191_1.out)) hb); have n6_ := Aside0.mk (below_step (by repeat (first | (with_reducible first | exact HB.out | apply below_alloc | apply pw_below_drewN | apply below_drew1) | exact HB.out)) hb); clear HO_4; clear HL190_1; clear HL191_1; clear HR190_1; clear HR191_1; clear HB; have HO_4 := n0_; have HL190_1 := n1_; have HL191_1 := n2_; have HO194 := n3_; have HR190_1 := n4_; have HR191_1 := n5_; have HB := n6_; clear n0_ n1_ n2_ n3_ n4_ n5_ n6_; (try clear hb); (try clear hb2); (try clear hk); (try clear hi); (try clear ho0)))
            go_ret2
            exact ⟨_, by first | rfl | (simp [errW_none, errW_some] <;> rfl) | (simp [*, errW_none, errW_some] <;> rfl), by (with_reducible repeat (first | apply Kd.R_alloc | apply Kd.R_drewN | apply Kd.R_drew)); exact HO194.out, by repeat (first | (with_reducible first | exact HB.out | apply below_alloc | apply pw_below_drewN | apply below_drew1) | exact HB.out)⟩
          · rw [if_neg c6] at H
            have c6b0 : (((rd_T83 t187 x5_1).f0).toList == a0.toList) = false := beq_eq_false_iff_ne.mpr c6
            have c6b1 : (((rd_T83 t187 x5_1).f0).toList != a0.toList) = true := bne_iff_ne.mpr c6
            have H' := Aside0.mk H
            clear H
            obtain ⟨Ao10, co10, eo10⟩ := Kd.N_slice HO_4.out
            subst eo10
            have p190 : 0 ≤ (x5_1 : Int) := of_decide_eq_true (by first | (with_reducible assumption) | assumption)
            have q190 : x5_1 < (t187.length : Int) := of_decide_eq_true (by first | (with_reducible assumption) | assumption)
            obtain ⟨ad190, A190_1, c190_1, e190, hx190_0, hx190_1, hl190_1, hi190_1⟩ := at_T83 (Kd.N_reads' HO_4.out).2.2 x5_1 p190 q190
            cases e190
            obtain ⟨ce190, hce190, hMe190, hcc190⟩ := Kd.N_get HO_4.out z83 x5_1 p190 (by first | exact q190 | exact of_decide_eq_true (by first | (with_reducible assumption) | assumption) | (have e_ := (Kd.N_reads' HO_4.out).1; omega))
            obtain ⟨ua190_1, uc190_1, rfl, ul190_1, ge190_1⟩ := k83_openF hMe190
            have hv190_1 := hcc190 1 _ rfl
            rw [add_field _ _ 1 (by omega)] at hv190_1
            replace hv190_1 := Option.some.inj (hv190_1.symm.trans hx190_1)
            injection hv190_1 with hva_ hvn_ hvc_
            rw [hva_] at ge190_1
            rw [hvc_] at ul190_1
            have HL190_1 := Aside0.mk (show Kd.V (Kd.int .i32) 21 _ w.heap.size _ _ ((rd_T83 t187 x5_1).f1) from Kd.V_mk ul190_1 ge190_1)
            clear hva_ hvn_ hvc_ ge190_1 ul190_1
            clear hcc190 hce190
            have HR190_1 := Aside0.mk hi190_1
            have HC190_1 := Aside0.mk hl190_1
            clear hi190_1 hl190_1
            replace p190 := eq_true p190
            replace q190 := eq_true q190
            go_wp2
            go_roundg k1
            case measure => have := HK1.out; omega
            case rel => exact ⟨(wrap64 (x5_1 + 1)), (by first | rfl | (simp; done) | (simp [*]; done)), H', ⟨by have := HK1.out; omega⟩, ⟨by (with_reducible repeat (first | apply Kd.N_alloc | apply Kd.N_drewN | apply Kd.N_drew)); exact HO_4.out⟩, ⟨by repeat (first | (with_reducible first | exact HB.out | apply below_alloc | apply pw_below_drewN | apply below_drew1) | exact HB.out)⟩⟩
        · rw [if_neg c5] at H
          exact absurd H (by simp)
      · rw [if_neg c4] at H
        have c4b0 : decide (x5_1 < (t187.length : Int)) = false := decide_eq_false c4
        clear c4
        simp only [Option.some.injEq, Prod.mk.injEq] at H
        obtain ⟨rfl, rfl⟩ := H
        obtain ⟨Ao11, co11, eo11⟩ := Kd.N_slice HO_4.out
        subst eo11
        go_wp2
        go_ret2
        exact ⟨_, by first | rfl | (simp [errW_none, errW_some] <;> rfl) | (simp [*, errW_none, errW_some] <;> rfl), by first | exact Kd.R_nil _ _ _ _ _ | exact Kd.N_nil _ _ _ _ _ | exact Kd.V_nil _ _ _ _ _ | exact Kd.Q_nil _ _ _ _ _ | exact Kd.S_nil _ _ _ _ _, by repeat (first | (with_reducible first | exact HB.out | apply below_alloc | apply pw_below_drewN | apply below_drew1) | exact HB.out)⟩

/-! ### thistlelaw04_same: function 18 -/
def thistlelaw04_same.l0 : Nat → List (S31) → List (S31) → Int → Option (Bool)
  | 0, _, _, _ => none
  | k + 1, x0, x1, x5 => if x5 < (x0.length : Int) then (if 0 ≤ x5 then (if x5 < (x1.length : Int) then (if ((rd_T31 x0 x5).f0) = ((rd_T31 x1 x5).f0) then (if ((rd_T31 x0 x5).f1) = ((rd_T31 x1 x5).f1) then (thistlelaw04_same.l0 k x0 x1 (wrap64 (x5 + 1))) else (some false)) else (some false)) else (none)) else (none)) else (some true)
def thistlelaw04_same.f (k : Nat) (l0 : List (S31)) (l1 : List (S31)) : Option (Bool) := if (l0.length : Int) = (l1.length : Int) then (thistlelaw04_same.l0 k l0 l1 0) else (some false)
theorem thistlelaw04_same.mono_l : ∀ k, (∀ y0 y1 y2, LeO (thistlelaw04_same.l0 k y0 y1 y2) (thistlelaw04_same.l0 (k + 1) y0 y1 y2))
  | 0 => fun _ _ _ r h => by simp [thistlelaw04_same.l0] at h
  | k + 1 => by
    have ih0 := thistlelaw04_same.mono_l k
    · intro y0 y1 y2
      unfold thistlelaw04_same.l0
      repeat' first
      | (with_reducible exact ih0 _ _ _)
      | (with_reducible exact LeO.refl _)
      | (with_reducible exact LeO.none _)
      | (with_reducible refine LeO.ite ?_ ?_)
      | (with_reducible refine LeO.bind ?_ (fun _ => ?_))
      | exact ih0 _ _ _
      | exact LeO.none _
      | refine LeO.ite ?_ ?_
      | refine LeO.bind ?_ (fun _ => ?_)
theorem thistlelaw04_same.mono : ∀ a0 a1 k, LeO (thistlelaw04_same.f k a0 a1) (thistlelaw04_same.f (k + 1) a0 a1) := by
  intro a0 a1 k
  have ih0 := thistlelaw04_same.mono_l k
  unfold thistlelaw04_same.f
  repeat' first
      | (with_reducible exact ih0 _ _ _)
      | (with_reducible exact LeO.refl _)
      | (with_reducible exact LeO.none _)
      | (with_reducible refine LeO.ite ?_ ?_)
      | (with_reducible refine LeO.bind ?_ (fun _ => ?_))
      | exact ih0 _ _ _
      | exact LeO.none _
      | refine LeO.ite ?_ ?_
      | refine LeO.bind ?_ (fun _ => ?_)
set_option maxHeartbeats 8000000 in
set_option maxRecDepth 100000 in
theorem thistlelaw04_same.calls (k : Nat) (A0 : Option Addr) (c0 : Nat) (l0 : List (S31)) (A1 : Option Addr) (c1 : Nat) (l1 : List (S31)) (r : Bool) (w : World) (hr0 : Kd.C k31 w A0 l0.length l0) (hc0 : l0.length ≤ c0) (hr1 : Kd.C k31 w A1 l1.length l1) (hc1 : l1.length ≤ c1) (h : thistlelaw04_same.f k l0 l1 = some r) (hG : GOK w := by first | (with_reducible exact HG_.out) | exact GOK.below HG_.out (by repeat (first | (with_reducible first | exact HB.out | apply below_alloc | apply pw_below_drewN | apply below_drew1 | refine below_set ?_ (Aside0.out (by assumption))) | exact HB.out)) | exact GOK.drewN HG_.out _ | exact GOK.drewN (GOK.drewN HG_.out _) _ | exact GOK.drew HG_.out) :
    Calls Tryd.prog 18 #[.slice A0 l0.length c0, .slice A1 l1.length c1] w fun e w' => e = .returned (.bool r) ∧ Drawn0 w w' := by
  have HG_ := Aside0.mk hG
  clear hG
  have HR0 := Aside0.mk hr0
  have HC0 := Aside0.mk hc0
  clear hr0 hc0
  have HR1 := Aside0.mk hr1
  have HC1 := Aside0.mk hc1
  clear hr1 hc1
  have H : (if (l0.length : Int) = (l1.length : Int) then (thistlelaw04_same.l0 k l0 l1 0) else (some false)) = some r := h
  clear h
  by_cases c3 : (l0.length : Int) = (l1.length : Int)
  · rw [if_pos c3] at H
    have c3b0 : ((l0.length : Int) == (l1.length : Int)) = true := beq_iff_eq.mpr c3
    have c3b1 : ((l0.length : Int) != (l1.length : Int)) = false := bne_eq_false_iff_eq.mpr c3
    have c3b2 : (l0.length == l1.length) = true := by first | simpa using c3 | (simp at c3 ⊢; omega)
    clear c3
    have H' := Aside0.mk H
    clear H
    go_enter Tryd.func18, Tryd.ntmps18
    go_wp2
    repeat (go_quiet (fail); try go_wp2)
    go_loopg [5] k (fun kq v5 w' => ∃ (x5_1 : Int), v5 = .int .i64 x5_1 ∧ Aside0 (thistlelaw04_same.l0 kq l0 l1 x5_1 = some r) ∧ Aside0 (kq ≤ k) ∧ Drawn0 w w')
    case atStart => exact ⟨(0), (by first | rfl | (simp; done) | (simp [*]; done)), H', ⟨Nat.le_refl _⟩, by repeat (first | exact Drawn0.refl _ | apply Drawn0.step)⟩
    case round =>
      clear H'
      try clear c1
      try clear p2
      try clear c3
      try clear c3b0
      try clear c3b1
      try clear c3b2
      obtain ⟨x5_1, rfl, HA, HK1, ⟨m1, rfl⟩⟩ := hrel
      cases gk with
      | zero => exact absurd HA.out (by simp [thistlelaw04_same.l0])
      | succ k1 =>
        have H := HA.out
        clear HA
        simp only [thistlelaw04_same.l0] at H
        by_cases c4 : x5_1 < (l0.length : Int)
        · rw [if_pos c4] at H
          have c4b0 : decide (x5_1 < (l0.length : Int)) = true := decide_eq_true c4
          clear c4
          by_cases c5 : 0 ≤ x5_1
          · rw [if_pos c5] at H
            have c5b0 : decide (0 ≤ x5_1) = true := decide_eq_true c5
            clear c5
            by_cases c6 : x5_1 < (l1.length : Int)
            · rw [if_pos c6] at H
              have c6b0 : decide (x5_1 < (l1.length : Int)) = true := decide_eq_true c6
              clear c6
              by_cases c7 : ((rd_T31 l0 x5_1).f0) = ((rd_T31 l1 x5_1).f0)
              · rw [if_pos c7] at H
                have c7b0 : (((rd_T31 l0 x5_1).f0) == ((rd_T31 l1 x5_1).f0)) = true := beq_iff_eq.mpr c7
                have c7b1 : (((rd_T31 l0 x5_1).f0) != ((rd_T31 l1 x5_1).f0)) = false := bne_eq_false_iff_eq.mpr c7
                clear c7
                by_cases c8 : ((rd_T31 l0 x5_1).f1) = ((rd_T31 l1 x5_1).f1)
                · rw [if_pos c8] at H
                  have c8b0 : (((rd_T31 l0 x5_1).f1) == ((rd_T31 l1 x5_1).f1)) = true := beq_iff_eq.mpr c8
                  have c8b1 : (((rd_T31 l0 x5_1).f1) != ((rd_T31 l1 x5_1).f1)) = false := bne_eq_false_iff_eq.mpr c8
                  clear c8
                  have H' := Aside0.mk H
                  clear H
                  have p195 : 0 ≤ (x5_1 : Int) := of_decide_eq_true (by first | (with_reducible assumption) | assumption)
                  have q195 : x5_1 < (l0.length : Int) := of_decide_eq_true (by first | (with_reducible assumption) | assumption)
                  obtain ⟨ad195, e195, hx195_0, hx195_1⟩ := at_T31 HR0.out x5_1 p195 q195
                  cases e195
                  replace p195 := eq_true p195
                  replace q195 := eq_true q195
                  have p196 : 0 ≤ (x5_1 : Int) := of_decide_eq_true (by first | (with_reducible assumption) | assumption)
                  have q196 : x5_1 < (l1.length : Int) := of_decide_eq_true (by first | (with_reducible assumption) | assumption)
                  obtain ⟨ad196, e196, hx196_0, hx196_1⟩ := at_T31 HR1.out x5_1 p196 q196
                  cases e196
                  replace p196 := eq_true p196
                  replace q196 := eq_true q196
                  have p197 : 0 ≤ (x5_1 : Int) := of_decide_eq_true (by first | (with_reducible assumption) | assumption)
                  have q197 : x5_1 < (l0.length : Int) := of_decide_eq_true (by first | (with_reducible assumption) | assumption)
                  obtain ⟨ad197, e197, hx197_0, hx197_1⟩ := at_T31 HR0.out x5_1 p197 q197
                  obtain rfl : ad195 = ad197 := (by injection e197)
                  replace p197 := eq_true p197
                  replace q197 := eq_true q197
                  have p198 : 0 ≤ (x5_1 : Int) := of_decide_eq_true (by first | (with_reducible assumption) | assumption)
                  have q198 : x5_1 < (l1.length : Int) := of_decide_eq_true (by first | (with_reducible assumption) | assumption)
                  obtain ⟨ad198, e198, hx198_0, hx198_1⟩ := at_T31 HR1.out x5_1 p198 q198
                  obtain rfl : ad196 = ad198 := (by injection e198)
                  replace p198 := eq_true p198
                  replace q198 := eq_true q198
                  go_wp2
                  repeat (go_quiet (fail); try go_wp2)
                  go_roundg k1
                  case measure => have := HK1.out; omega
                  case rel => exact ⟨(wrap64 (x5_1 + 1)), (by first | rfl | (simp; done) | (simp [*]; done)), H', ⟨by have := HK1.out; omega⟩, by repeat (first | exact Drawn0.refl _ | apply Drawn0.step)⟩
                · rw [if_neg c8] at H
                  have c8b0 : (((rd_T31 l0 x5_1).f1) == ((rd_T31 l1 x5_1).f1)) = false := beq_eq_false_iff_ne.mpr c8
                  have c8b1 : (((rd_T31 l0 x5_1).f1) != ((rd_T31 l1 x5_1).f1)) = true := bne_iff_ne.mpr c8
                  obtain rfl := Option.some.inj H
                  have p195 : 0 ≤ (x5_1 : Int) := of_decide_eq_true (by first | (with_reducible assumption) | assumption)
                  have q195 : x5_1 < (l0.length : Int) := of_decide_eq_true (by first | (with_reducible assumption) | assumption)
                  obtain ⟨ad195, e195, hx195_0, hx195_1⟩ := at_T31 HR0.out x5_1 p195 q195
                  cases e195
                  replace p195 := eq_true p195
                  replace q195 := eq_true q195
                  have p196 : 0 ≤ (x5_1 : Int) := of_decide_eq_true (by first | (with_reducible assumption) | assumption)
                  have q196 : x5_1 < (l1.length : Int) := of_decide_eq_true (by first | (with_reducible assumption) | assumption)
                  obtain ⟨ad196, e196, hx196_0, hx196_1⟩ := at_T31 HR1.out x5_1 p196 q196
                  cases e196
                  replace p196 := eq_true p196
                  replace q196 := eq_true q196
                  have p197 : 0 ≤ (x5_1 : Int) := of_decide_eq_true (by first | (with_reducible assumption) | assumption)
                  have q197 : x5_1 < (l0.length : Int) := of_decide_eq_true (by first | (with_reducible assumption) | assumption)
                  obtain ⟨ad197, e197, hx197_0, hx197_1⟩ := at_T31 HR0.out x5_1 p197 q197
                  obtain rfl : ad195 = ad197 := (by injection e197)
                  replace p197 := eq_true p197
                  replace q197 := eq_true q197
                  have p198 : 0 ≤ (x5_1 : Int) := of_decide_eq_true (by first | (with_reducible assumption) | assumption)
                  have q198 : x5_1 < (l1.length : Int) := of_decide_eq_true (by first | (with_reducible assumption) | assumption)
                  obtain ⟨ad198, e198, hx198_0, hx198_1⟩ := at_T31 HR1.out x5_1 p198 q198
                  obtain rfl : ad196 = ad198 := (by injection e198)
                  replace p198 := eq_true p198
                  replace q198 := eq_true q198
                  go_wp2
                  repeat (go_quiet (fail); try go_wp2)
                  go_ret
                  exact ⟨by first | rfl | (simp; done) | (simp [*]; done), by repeat (first | exact Drawn0.refl _ | apply Drawn0.step)⟩
              · rw [if_neg c7] at H
                have c7b0 : (((rd_T31 l0 x5_1).f0) == ((rd_T31 l1 x5_1).f0)) = false := beq_eq_false_iff_ne.mpr c7
                have c7b1 : (((rd_T31 l0 x5_1).f0) != ((rd_T31 l1 x5_1).f0)) = true := bne_iff_ne.mpr c7
                obtain rfl := Option.some.inj H
                have p195 : 0 ≤ (x5_1 : Int) := of_decide_eq_true (by first | (with_reducible assumption) | assumption)
                have q195 : x5_1 < (l0.length : Int) := of_decide_eq_true (by first | (with_reducible assumption) | assumption)
                obtain ⟨ad195, e195, hx195_0, hx195_1⟩ := at_T31 HR0.out x5_1 p195 q195
                cases e195
                replace p195 := eq_true p195
                replace q195 := eq_true q195
                have p196 : 0 ≤ (x5_1 : Int) := of_decide_eq_true (by first | (with_reducible assumption) | assumption)
                have q196 : x5_1 < (l1.length : Int) := of_decide_eq_true (by first | (with_reducible assumption) | assumption)
                obtain ⟨ad196, e196, hx196_0, hx196_1⟩ := at_T31 HR1.out x5_1 p196 q196
                cases e196
                replace p196 := eq_true p196
                replace q196 := eq_true q196
                go_wp2
                repeat (go_quiet (fail); try go_wp2)
                go_ret
                exact ⟨by first | rfl | (simp; done) | (simp [*]; done), by repeat (first | exact Drawn0.refl _ | apply Drawn0.step)⟩
            · rw [if_neg c6] at H
              exact absurd H (by simp)
          · rw [if_neg c5] at H
            exact absurd H (by simp)
        · rw [if_neg c4] at H
          have c4b0 : decide (x5_1 < (l0.length : Int)) = false := decide_eq_false c4
          clear c4
          obtain rfl := Option.some.inj H
          go_wp2
          repeat (go_quiet (fail); try go_wp2)
          go_ret
          exact ⟨by first | rfl | (simp; done) | (simp [*]; done), by repeat (first | exact Drawn0.refl _ | apply Drawn0.step)⟩
  · rw [if_neg c3] at H
    have c3b0 : ((l0.length : Int) == (l1.length : Int)) = false := beq_eq_false_iff_ne.mpr c3
    have c3b1 : ((l0.length : Int) != (l1.length : Int)) = true := bne_iff_ne.mpr c3
    have c3b2 : (l0.length == l1.length) = false := by first | simpa using c3 | (simp at c3 ⊢; omega)
    obtain rfl := Option.some.inj H
    go_enter Tryd.func18, Tryd.ntmps18
    go_wp2
    repeat (go_quiet (fail); try go_wp2)
    go_ret
    exact ⟨by first | rfl | (simp; done) | (simp [*]; done), by repeat (first | exact Drawn0.refl _ | apply Drawn0.step)⟩

-- NOT PRINTED: function 66 (api_Range)

/-! ### sets_band: function 42 -/
def bandsL : List S31 := [⟨0, 55295⟩, ⟨57344, 1114111⟩, ⟨1114240, 1114367⟩]
theorem bands_reads {w : World} (hG : GOK w) : Kd.C k31 w (some ⟨2, 0, none⟩) 3 bandsL := by
  refine ⟨rfl, by omega, fun _ => ⟨_, rfl, ?_⟩⟩
  intro j p hj
  refine ⟨_, ?_, k31_mk w p, ?_⟩
  · rfl
  intro i u hu
  rcases j with _ | _ | _ | j
  · obtain rfl : p = ⟨0, 55295⟩ := by simpa [bandsL] using hj.symm
    rcases i with _ | _ | i
    · obtain rfl := Option.some.inj hu
      exact hG.sets_bands 0 _ rfl
    · obtain rfl := Option.some.inj hu
      exact hG.sets_bands 1 _ rfl
    · exact absurd hu (by simp)
  · obtain rfl : p = ⟨57344, 1114111⟩ := by simpa [bandsL] using hj.symm
    rcases i with _ | _ | i
    · obtain rfl := Option.some.inj hu
      exact hG.sets_bands 2 _ rfl
    · obtain rfl := Option.some.inj hu
      exact hG.sets_bands 3 _ rfl
    · exact absurd hu (by simp)
  · obtain rfl : p = ⟨1114240, 1114367⟩ := by simpa [bandsL] using hj.symm
    rcases i with _ | _ | i
    · obtain rfl := Option.some.inj hu
      exact hG.sets_bands 4 _ rfl
    · obtain rfl := Option.some.inj hu
      exact hG.sets_bands 5 _ rfl
    · exact absurd hu (by simp)
  · exact absurd hj (by simp [bandsL])
set_option maxHeartbeats 800000 in
theorem band_lit (x y u : Int) (g : Nat) (W : World) (hcap : W.cell? ⟨g, 0, none⟩ = some (.int .i32 u)) (hg : g < W.heap.size) :
    Calls Tryd.prog 67 #[.agg #[.int .i32 x, .int .i32 y], .pointer (some ⟨g, 0, none⟩)] W fun e w' => e = .returned (.bool (decide (x ≤ u) && decide (u ≤ y))) ∧ Below W.heap.size W w' := by
  have hu31 := Tryd.underlying31
  by_cases h1 : x ≤ u
  · have d1 : decide (x ≤ u) = true := decide_eq_true h1
    rw [d1]; simp only [Bool.true_and]
    go_enter Tryd.func67, Tryd.ntmps67
    go_wp2
    go_ret
    exact ⟨rfl, by repeat (first | exact Below.refl _ _ | apply below_alloc | apply pw_below_drewN | apply below_drew1)⟩
  · have d1 : decide (x ≤ u) = false := decide_eq_false h1
    rw [d1]; simp only [Bool.false_and]
    go_enter Tryd.func67, Tryd.ntmps67
    go_wp2
    go_ret
    exact ⟨rfl, by repeat (first | exact Below.refl _ _ | apply below_alloc | apply pw_below_drewN | apply below_drew1)⟩
def bandIdx (u : Int) : List S31 → Int → Int
  | [], _ => -1
  | x :: xs, i => if x.f0 ≤ u ∧ u ≤ x.f1 then i else bandIdx u xs (i + 1)
set_option maxHeartbeats 800000 in
set_option maxRecDepth 100000 in
theorem band_idx (u : Int) (g : Nat) (A : Option Addr) (c : Nat) (l : List S31) (w : World) (hr : Kd.C k31 w A l.length l) (hc : l.length ≤ c) (hcap : w.cell? ⟨g, 0, none⟩ = some (.int .i32 u)) (hg : g < w.heap.size) :
    Calls Tryd.prog 66 #[.slice A l.length c, .func (.func 67) #[] #[.pointer (some ⟨g, 0, none⟩)]] w fun e w' => e = .returned (.int .i64 (bandIdx u l 0)) ∧ Below w.heap.size w w' := by
  have hu31 := Tryd.underlying31
  have hm : l.length ≤ 9223372036854775807 := hr.2.1
  have HR := Aside0.mk hr
  clear hr
  have HG := Aside0.mk hcap
  clear hcap
  go_enter Tryd.func66, Tryd.ntmps66
  go_wp2
  go_loopw [8] (fun v wr => ∃ k : Nat, k ≤ l.length ∧ v = .int .i64 k ∧ Aside0 (bandIdx u (l.drop k) k = bandIdx u l 0) ∧ Aside0 (Below w.heap.size w wr)) (fun v _ => l.length - (intOf v).toNat)
  case atStart => exact ⟨0, Nat.zero_le _, rfl, ⟨rfl⟩, ⟨Below.refl _ _⟩⟩
  case round =>
    obtain ⟨k, hk, rfl, HI, HB⟩ := hrel
    by_cases hlt : k < l.length
    · have hc1 := at_T31 (Kd.C_below HR.out HB.out) k (by omega) (by omega)
      obtain ⟨ad, rfl, h0, h1⟩ := hc1
      have hI := HI.out
      rw [List.drop_eq_getElem_cons hlt, bandIdx] at hI
      have hx : rd_T31 l (k : Int) = l[k] := by simp [rd_T31, hlt]
      simp only [Int.toNat_natCast] at h0 h1
      have hcw : wr.cell? ⟨g, 0, none⟩ = some (.int .i32 u) := (HB.out.cell (p := ⟨g, 0, none⟩) hg).trans HG.out
      have hgw : g < wr.heap.size := Nat.lt_of_lt_of_le hg HB.out.size
      have HC := Aside0.mk (band_lit (rd_T31 l (k : Int)).f0 (rd_T31 l (k : Int)).f1 u g wr hcw hgw)
      clear hcw
      by_cases hp : l[k].f0 ≤ u ∧ u ≤ l[k].f1
      · rw [if_pos hp] at hI
        have HI2 := Aside0.mk hI
        have hd : (decide ((rd_T31 l (k : Int)).f0 ≤ u) && decide (u ≤ (rd_T31 l (k : Int)).f1)) = true := by rw [hx]; simp [hp]
        rw [hd] at HC
        clear hI HI hd hx hp
        go_wp2_with (refine HC.out.mono ?_; rintro e w' ⟨rfl, hb⟩; have HB2 := Aside0.mk (below_step HB.out hb); clear hb)
        go_ret
        exact ⟨by rw [← HI2.out]; rfl, HB2.out⟩
      · rw [if_neg hp] at hI
        have HI2 := Aside0.mk hI
        have hd : (decide ((rd_T31 l (k : Int)).f0 ≤ u) && decide (u ≤ (rd_T31 l (k : Int)).f1)) = false := by rw [hx]; simp; omega
        rw [hd] at HC
        clear hI HI hd hx hp
        go_wp2_with (refine HC.out.mono ?_; rintro e w' ⟨rfl, hb⟩; have HB2 := Aside0.mk (below_step HB.out hb); clear hb)
        go_roundw
        case rel => exact ⟨k + 1, by omega, by go_num, ⟨by have := HI2.out; simpa using this⟩, HB2⟩
        case measure => simp [intOf]; omega
    · have hkl : k = l.length := by omega
      have hI := HI.out
      rw [List.drop_eq_nil_of_le (by omega), bandIdx] at hI
      have HI2 := Aside0.mk hI
      clear hI HI hkl
      go_wp2
      go_ret
      exact ⟨by rw [← HI2.out]; rfl, HB.out⟩
/-- the number of the band that u lies in; -1: none -/
def sets_band.f (a0 : Int) : Option Int := some (bandIdx a0 bandsL 0)
set_option maxHeartbeats 800000 in
set_option maxRecDepth 100000 in
theorem sets_band.calls (a0 : Int) (r : Int) (w : World) (h : sets_band.f a0 = some r) (hG : GOK w := by first | (with_reducible exact HG_.out) | exact GOK.below HG_.out (by repeat (first | (with_reducible first | exact HB.out | apply below_alloc | apply pw_below_drewN | apply below_drew1 | refine below_set ?_ (Aside0.out (by assumption))) | exact HB.out)) | exact GOK.drewN HG_.out _ | exact GOK.drewN (GOK.drewN HG_.out _) _ | exact GOK.drew HG_.out) :
    Calls Tryd.prog 42 #[.int .i32 a0] w fun e w' => e = .returned (.int .i64 r) ∧ Below w.heap.size w w' := by
  have hu31 := Tryd.underlying31
  obtain rfl := Option.some.inj h
  have hA : Below w.heap.size w (w.alloc (.cells #[.int .i32 a0] 21)) := below_alloc (Below.refl _ _) _
  have HA := Aside0.mk hA
  have HC := Aside0.mk (band_idx a0 w.heap.size (some ⟨2, 0, none⟩) 3 bandsL (w.alloc (.cells #[.int .i32 a0] 21)) (bands_reads (hG.below hA)) (Nat.le_refl _) ((blk_cell (heap_alloc_new _ _) 0).trans rfl) (by simp))
  clear hA h
  have HGG := Aside0.mk hG
  clear hG
  go_enter Tryd.func42, Tryd.ntmps42
  go_wp2_with (refine HC.out.mono ?_; rintro e w' ⟨rfl, hb⟩; have HB := Aside0.mk (below_step HA.out hb); clear hb)
  go_ret
  exact ⟨rfl, HB.out⟩

end Go.Proofs.YthjobemnblakjaaDoor.XN
