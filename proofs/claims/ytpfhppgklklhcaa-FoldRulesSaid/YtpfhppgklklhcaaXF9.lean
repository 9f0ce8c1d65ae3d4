/- WRITTEN BY A PROGRAM OF THIS SESSION (wip/tools/xprint.py, over the kit's printer): contracts of the functions that the seat's laws reach. -/
import Derived.Test.YtpfhppgklklhcaaXF0
import Derived.Test.YtpfhppgklklhcaaXF4
namespace Go.Proofs.Ytpfhppgklklhcaa.XF
open Go.RowKit Go.Proofs.YtpfhppgklklhcaaW.PrintWords Go.Proofs.YtpfhppgklklhcaaW.PrintLast Go.Proofs.YtpfhppgklklhcaaW.PrintMore
attribute [local go_sem] max2_int min2_int max_two min_two max_three min_three max_four min_four   -- for this text's walks alone
set_option linter.unusedVariables false
set_option linter.unusedSimpArgs false

/-! ### thistlelaw03_pairs: function 16 -/
def thistlelaw03_pairs.l0 : Nat → Int → Int → Int → Int → Int → Int → Option (Bool)
  | 0, _, _, _, _, _, _ => none
  | k + 1, x0, x1, x2, x3, x4, x11 => if x11 < x1 then (if (wrap32 (x0 + x11)) = x4 then (thistlelaw03_pairs.l0 k x0 x1 x2 x3 x4 (wrap32 (x11 + x2))) else ((fold_Next.f k (wrap32 (x0 + x11))).bind fun t234 => (if t234 = (wrap32 ((wrap32 (x0 + x11)) + x3)) then ((fold_Next.f k (wrap32 ((wrap32 (x0 + x11)) + x3))).bind fun t235 => (if t235 = (wrap32 (x0 + x11)) then (thistlelaw03_pairs.l0 k x0 x1 x2 x3 x4 (wrap32 (x11 + x2))) else (some false))) else (some false)))) else (some true)
def thistlelaw03_pairs.f (k : Nat) (a0 : Int) (a1 : Int) (a2 : Int) (a3 : Int) (a4 : Int) : Option (Bool) := thistlelaw03_pairs.l0 k a0 a1 a2 a3 a4 0
theorem thistlelaw03_pairs.mono_l : ∀ k, (∀ y0 y1 y2 y3 y4 y5, LeO (thistlelaw03_pairs.l0 k y0 y1 y2 y3 y4 y5) (thistlelaw03_pairs.l0 (k + 1) y0 y1 y2 y3 y4 y5))
  | 0 => fun _ _ _ _ _ _ r h => by simp [thistlelaw03_pairs.l0] at h
  | k + 1 => by
    have ih0 := thistlelaw03_pairs.mono_l k
    · intro y0 y1 y2 y3 y4 y5
      unfold thistlelaw03_pairs.l0
      repeat' first
      | (with_reducible exact ih0 _ _ _ _ _ _)
      | (with_reducible exact fold_Next.mono _ _)
      | (with_reducible exact LeO.refl _)
      | (with_reducible exact LeO.none _)
      | (with_reducible refine LeO.ite ?_ ?_)
      | (with_reducible refine LeO.bind ?_ (fun _ => ?_))
      | exact ih0 _ _ _ _ _ _
      | exact fold_Next.mono _ _
      | exact LeO.none _
      | refine LeO.ite ?_ ?_
      | refine LeO.bind ?_ (fun _ => ?_)
theorem thistlelaw03_pairs.mono : ∀ a0 a1 a2 a3 a4 k, LeO (thistlelaw03_pairs.f k a0 a1 a2 a3 a4) (thistlelaw03_pairs.f (k + 1) a0 a1 a2 a3 a4) := by
  intro a0 a1 a2 a3 a4 k
  have ih0 := thistlelaw03_pairs.mono_l k
  unfold thistlelaw03_pairs.f
  repeat' first
      | (with_reducible exact ih0 _ _ _ _ _ _)
      | (with_reducible exact fold_Next.mono _ _)
      | (with_reducible exact LeO.refl _)
      | (with_reducible exact LeO.none _)
      | (with_reducible refine LeO.ite ?_ ?_)
      | (with_reducible refine LeO.bind ?_ (fun _ => ?_))
      | exact ih0 _ _ _ _ _ _
      | exact fold_Next.mono _ _
      | exact LeO.none _
      | refine LeO.ite ?_ ?_
      | refine LeO.bind ?_ (fun _ => ?_)
set_option maxHeartbeats 8000000 in
set_option maxRecDepth 100000 in
theorem thistlelaw03_pairs.calls (k : Nat) (a0 : Int) (a1 : Int) (a2 : Int) (a3 : Int) (a4 : Int) (r : Bool) (w : World) (h : thistlelaw03_pairs.f k a0 a1 a2 a3 a4 = some r) :
    Calls Try.prog 16 #[.int .i32 a0, .int .i32 a1, .int .i32 a2, .int .i32 a3, .int .i32 a4] w fun e w' => e = .returned (.bool r) ∧ Below w.heap.size w w' := by
  have HB := Aside0.mk (Below.refl w.heap.size w)
  have H : (thistlelaw03_pairs.l0 k a0 a1 a2 a3 a4 0) = some r := h
  clear h
  have H' := Aside0.mk H
  clear H
  go_enter Try.func16, Try.ntmps16
  go_wp2
  go_loopg [11] k (fun kq v11 w' => ∃ (x11_1 : Int), v11 = .int .i32 x11_1 ∧ Aside0 (thistlelaw03_pairs.l0 kq a0 a1 a2 a3 a4 x11_1 = some r) ∧ Aside0 (kq ≤ k) ∧ Aside0 (Below w.heap.size w w'))
  case atStart => exact ⟨(0), (by first | rfl | (simp; done) | (simp [*]; done)), H', ⟨Nat.le_refl _⟩, ⟨by repeat (first | (with_reducible first | exact HB.out | apply below_alloc | apply pw_below_drewN | apply below_drew1) | exact HB.out)⟩⟩
  case round =>
    clear H'
    try clear c1
    try clear p2
    obtain ⟨x11_1, rfl, HA, HK1, HB⟩ := hrel
    cases gk with
    | zero => exact absurd HA.out (by simp [thistlelaw03_pairs.l0])
    | succ k1 =>
      have H := HA.out
      clear HA
      simp only [thistlelaw03_pairs.l0] at H
      by_cases c6 : x11_1 < a1
      · rw [if_pos c6] at H
        have c6b0 : decide (x11_1 < a1) = true := decide_eq_true c6
        clear c6
        by_cases c7 : (wrap32 (a0 + x11_1)) = a4
        · rw [if_pos c7] at H
          have c7b0 : ((wrap32 (a0 + x11_1)) == a4) = true := beq_iff_eq.mpr c7
          have c7b1 : ((wrap32 (a0 + x11_1)) != a4) = false := bne_eq_false_iff_eq.mpr c7
          clear c7
          have H' := Aside0.mk H
          clear H
          go_wp2
          go_roundg k1
          case measure => have := HK1.out; omega
          case rel => exact ⟨(wrap32 (x11_1 + a2)), (by first | rfl | (simp; done) | (simp [*]; done)), H', ⟨by have := HK1.out; omega⟩, ⟨by repeat (first | (with_reducible first | exact HB.out | apply below_alloc | apply pw_below_drewN | apply below_drew1) | exact HB.out)⟩⟩
        · rw [if_neg c7] at H
          have c7b0 : ((wrap32 (a0 + x11_1)) == a4) = false := beq_eq_false_iff_ne.mpr c7
          have c7b1 : ((wrap32 (a0 + x11_1)) != a4) = true := bne_iff_ne.mpr c7
          replace H := Option.bind_eq_some_iff.mp H
          obtain ⟨t234, A80, H⟩ := H
          replace H : (if t234 = (wrap32 ((wrap32 (a0 + x11_1)) + a3)) then ((fold_Next.f k1 (wrap32 ((wrap32 (a0 + x11_1)) + a3))).bind fun t235 => (if t235 = (wrap32 (a0 + x11_1)) then (thistlelaw03_pairs.l0 k1 a0 a1 a2 a3 a4 (wrap32 (x11_1 + a2))) else (some false))) else (some false)) = some r := H
          have A8 := Aside0.mk A80
          clear A80
          by_cases c9 : t234 = (wrap32 ((wrap32 (a0 + x11_1)) + a3))
          · rw [if_pos c9] at H
            have c9b0 : (t234 == (wrap32 ((wrap32 (a0 + x11_1)) + a3))) = true := beq_iff_eq.mpr c9
            have c9b1 : (t234 != (wrap32 ((wrap32 (a0 + x11_1)) + a3))) = false := bne_eq_false_iff_eq.mpr c9
            clear c9
            replace H := Option.bind_eq_some_iff.mp H
            obtain ⟨t235, A100, H⟩ := H
            replace H : (if t235 = (wrap32 (a0 + x11_1)) then (thistlelaw03_pairs.l0 k1 a0 a1 a2 a3 a4 (wrap32 (x11_1 + a2))) else (some false)) = some r := H
            have A10 := Aside0.mk A100
            clear A100
            by_cases c11 : t235 = (wrap32 (a0 + x11_1))
            · rw [if_pos c11] at H
              have c11b0 : (t235 == (wrap32 (a0 + x11_1))) = true := beq_iff_eq.mpr c11
              have c11b1 : (t235 != (wrap32 (a0 + x11_1))) = false := bne_eq_false_iff_eq.mpr c11
              clear c11
              have H' := Aside0.mk H
              clear H
              go_wp2_with (first | (go_at_call 8; (with_reducible refine (fold_Next.calls k1 (wrap32 (a0 + x11_1)) t234 _ A8.out).mono ?_); rintro e w12 ⟨rfl, hb⟩; have n0_ := Aside0.mk (below_step (by repeat (first | (with_reducible first | exact HB.out | apply below_alloc | apply pw_below_drewN | apply below_drew1) | exact HB.out)) hb); clear HB; have HB := n0_; clear n0_; (try clear hb); (try clear hb2); (try clear hk); (try clear hi)) | (go_at_call 8; (with_reducible refine (fold_Next.calls k1 (wrap32 ((wrap32 (a0 + x11_1)) + a3)) t235 _ A10.out).mono ?_); rintro e w13 ⟨rfl, hb⟩; have n0_ := Aside0.mk (below_step (by repeat (first | (with_reducible first | exact HB.out | apply below_alloc | apply pw_below_drewN | apply below_drew1) | exact HB.out)) hb); clear HB; have HB := n0_; clear n0_; (try clear hb); (try clear hb2); (try clear hk); (try clear hi)))
              go_roundg k1
              case measure => have := HK1.out; omega
              case rel => exact ⟨(wrap32 (x11_1 + a2)), (by first | rfl | (simp; done) | (simp [*]; done)), H', ⟨by have := HK1.out; omega⟩, ⟨by repeat (first | (with_reducible first | exact HB.out | apply below_alloc | apply pw_below_drewN | apply below_drew1) | exact HB.out)⟩⟩
            · rw [if_neg c11] at H
              have c11b0 : (t235 == (wrap32 (a0 + x11_1))) = false := beq_eq_false_iff_ne.mpr c11
              have c11b1 : (t235 != (wrap32 (a0 + x11_1))) = true := bne_iff_ne.mpr c11
              obtain rfl := Option.some.inj H
              go_wp2_with (first | (go_at_call 8; (with_reducible refine (fold_Next.calls k1 (wrap32 (a0 + x11_1)) t234 _ A8.out).mono ?_); rintro e w14 ⟨rfl, hb⟩; have n0_ := Aside0.mk (below_step (by repeat (first | (with_reducible first | exact HB.out | apply below_alloc | apply pw_below_drewN | apply below_drew1) | exact HB.out)) hb); clear HB; have HB := n0_; clear n0_; (try clear hb); (try clear hb2); (try clear hk); (try clear hi)) | (go_at_call 8; (with_reducible refine (fold_Next.calls k1 (wrap32 ((wrap32 (a0 + x11_1)) + a3)) t235 _ A10.out).mono ?_); rintro e w15 ⟨rfl, hb⟩; have n0_ := Aside0.mk (below_step (by repeat (first | (with_reducible first | exact HB.out | apply below_alloc | apply pw_below_drewN | apply below_drew1) | exact HB.out)) hb); clear HB; have HB := n0_; clear n0_; (try clear hb); (try clear hb2); (try clear hk); (try clear hi)))
              go_ret
              exact ⟨by first | rfl | (simp [errW_none, errW_some] <;> rfl) | (simp [*, errW_none, errW_some] <;> rfl), by repeat (first | (with_reducible first | exact HB.out | apply below_alloc | apply pw_below_drewN | apply below_drew1) | exact HB.out)⟩
          · rw [if_neg c9] at H
            have c9b0 : (t234 == (wrap32 ((wrap32 (a0 + x11_1)) + a3))) = false := beq_eq_false_iff_ne.mpr c9
            have c9b1 : (t234 != (wrap32 ((wrap32 (a0 + x11_1)) + a3))) = true := bne_iff_ne.mpr c9
            obtain rfl := Option.some.inj H
            go_wp2_with (first | (go_at_call 8; (with_reducible refine (fold_Next.calls k1 (wrap32 (a0 + x11_1)) t234 _ A8.out).mono ?_); rintro e w16 ⟨rfl, hb⟩; have n0_ := Aside0.mk (below_step (by repeat (first | (with_reducible first | exact HB.out | apply below_alloc | apply pw_below_drewN | apply below_drew1) | exact HB.out)) hb); clear HB; have HB := n0_; clear n0_; (try clear hb); (try clear hb2); (try clear hk); (try clear hi)))
            go_ret
            exact ⟨by first | rfl | (simp [errW_none, errW_some] <;> rfl) | (simp [*, errW_none, errW_some] <;> rfl), by repeat (first | (with_reducible first | exact HB.out | apply below_alloc | apply pw_below_drewN | apply below_drew1) | exact HB.out)⟩
      · rw [if_neg c6] at H
        have c6b0 : decide (x11_1 < a1) = false := decide_eq_false c6
        clear c6
        obtain rfl := Option.some.inj H
        go_wp2
        go_ret
        exact ⟨by first | rfl | (simp [errW_none, errW_some] <;> rfl) | (simp [*, errW_none, errW_some] <;> rfl), by repeat (first | (with_reducible first | exact HB.out | apply below_alloc | apply pw_below_drewN | apply below_drew1) | exact HB.out)⟩

end Go.Proofs.Ytpfhppgklklhcaa.XF
