/- WRITTEN BY A PROGRAM OF THIS SESSION (wip/tools/xprint.py, over the kit's printer): contracts of the functions that the seat's laws reach. -/
import Derived.Test.YtcpjflgiimjfmaaDoorXLibShort
import Derived.Test.YtcpjflgiimjfmaaDoorXF0
import Derived.Test.YtcpjflgiimjfmaaDoorXF7
namespace Go.Proofs.YtcpjflgiimjfmaaDoor.XF
open Go.Proofs.YtcpjflgiimjfmaaDoor.XShort (o i)
open Go.RowKit Go.Proofs.YtcpjflgiimjfmaaDoorW.PrintWords Go.Proofs.YtcpjflgiimjfmaaDoorW.PrintLast Go.Proofs.YtcpjflgiimjfmaaDoorW.PrintMore
attribute [local go_sem] max2_int min2_int max_two min_two max_three min_three max_four min_four
set_option linter.unusedVariables false
set_option linter.unusedSimpArgs false

/-! ### thistleref03_has: function 42 -/
def thistleref03_has.l0 : Nat → List Int → Int → Int → Option (Bool)
 | 0, _, _, _ => none
 | k + 1, x0, x1, x5 => if x5 < (x0.length : Int) then (if 0 ≤ x5 then (if (rd x0 x5) = x1 then (some true) else (thistleref03_has.l0 k x0 x1 (wrap64 (x5 + 1)))) else (none)) else (some false)
def thistleref03_has.f (k : Nat) (l0 : List Int) (a1 : Int) : Option (Bool) := thistleref03_has.l0 k l0 a1 0
theorem thistleref03_has.mono_l : ∀ k, (∀ y0 y1 y2, LeO (thistleref03_has.l0 k y0 y1 y2) (thistleref03_has.l0 (k + 1) y0 y1 y2))
 | 0 => fun _ _ _ r h => by simp [thistleref03_has.l0] at h
 | k + 1 => by
  have ih0 := thistleref03_has.mono_l k
  ·intro y0 y1 y2
   unfold thistleref03_has.l0
   repeat' first
   | (with_reducible exact ih0 _ _ _)
   | (with_reducible exact LeO.refl _)
   | (with_reducible exact LeO.none _)
   | (with_reducible refine LeO.ite ?_ ?_)
   | (with_reducible refine LeO.bind ?_ (fun _ => ?_))
   | exact ih0 _ _ _
   | exact LeO.none _
   | refine LeO.ite ?_ ?_
   | refine LeO.bind ?_ (fun _ => ?_)
theorem thistleref03_has.mono : ∀ a0 a1 k, LeO (thistleref03_has.f k a0 a1) (thistleref03_has.f (k + 1) a0 a1) := by
 intro a0 a1 k
 have ih0 := thistleref03_has.mono_l k
 unfold thistleref03_has.f
 repeat' first
   | (with_reducible exact ih0 _ _ _)
   | (with_reducible exact LeO.refl _)
   | (with_reducible exact LeO.none _)
   | (with_reducible refine LeO.ite ?_ ?_)
   | (with_reducible refine LeO.bind ?_ (fun _ => ?_))
   | exact ih0 _ _ _
   | exact LeO.none _
   | refine LeO.ite ?_ ?_
   | refine LeO.bind ?_ (fun _ => ?_)
set_option maxHeartbeats 8000000 in
set_option maxRecDepth 100000 in
theorem thistleref03_has.calls (k : Nat) (A0 : Option Addr) (c0 : Nat) (l0 : List Int) (a1 : Int) (r : Bool) (w : World) (hr0 : Kd.C (Kd.int .i32) w A0 l0.length l0) (hc0 : l0.length ≤ c0) (h : thistleref03_has.f k l0 a1 = some r) :
  Calls Tryd.prog 42 #[.slice A0 l0.length c0, .int .i32 a1] w fun e w' => e = .returned (.bool r) ∧ Drawn0 w w' := by
 have HR0 := Aside0.mk hr0
 have HC0 := Aside0.mk hc0
 clear hr0 hc0
 have H : (thistleref03_has.l0 k l0 a1 0) = some r := h
 clear h
 have H' := Aside0.mk H
 clear H
 go_enter Tryd.func42, Tryd.ntmps42
 go_wp2
 go_loopg [5] k (fun kq v5 w' => ∃ (x5_1 : Int), v5 = .int .i64 x5_1 ∧ Aside0 (thistleref03_has.l0 kq l0 a1 x5_1 = some r) ∧ Aside0 (kq ≤ k) ∧ Drawn0 w w')
 case atStart => exact ⟨(0), XShort.eqs, H', ⟨Nat.le_refl _⟩, by repeat (first | exact Drawn0.refl _ | apply Drawn0.step)⟩
 case round =>
  clear H'
  try clear p2
  obtain ⟨x5_1, rfl, HA, HK1, ⟨m1, rfl⟩⟩ := hrel
  cases gk with
  | zero => exact absurd HA.out (by simp [thistleref03_has.l0])
  | succ k1 =>
   have H := HA.out
   clear HA
   simp only [thistleref03_has.l0] at H
   by_cases c3 : x5_1 < (l0.length : Int)
   ·rw [if_pos c3] at H
    have c3b0 : decide (x5_1 < (l0.length : Int)) = true := decide_eq_true c3
    clear c3
    by_cases c4 : 0 ≤ x5_1
    ·rw [if_pos c4] at H
     have c4b0 : decide (0 ≤ x5_1) = true := decide_eq_true c4
     clear c4
     by_cases c5 : (rd l0 x5_1) = a1
     ·rw [if_pos c5] at H
      have c5b0 : ((rd l0 x5_1) == a1) = true := beq_iff_eq.mpr c5
      have c5b1 : ((rd l0 x5_1) != a1) = false := bne_eq_false_iff_eq.mpr c5
      clear c5
      obtain rfl := Option.some.inj H
      have p196 : 0 ≤ (x5_1 : Int) := of_decide_eq_true XShort.asm
      have q196 : x5_1 < (l0.length : Int) := of_decide_eq_true XShort.asm
      obtain ⟨ad196, e196, hx196_0⟩ := Kd.at_int HR0.out x5_1 p196 q196
      cases e196
      replace p196 := eq_true p196
      replace q196 := eq_true q196
      go_wp2
      go_ret
      exact ⟨XShort.eqs, by repeat (first | exact Drawn0.refl _ | apply Drawn0.step)⟩
     ·rw [if_neg c5] at H
      have c5b0 : ((rd l0 x5_1) == a1) = false := beq_eq_false_iff_ne.mpr c5
      have c5b1 : ((rd l0 x5_1) != a1) = true := bne_iff_ne.mpr c5
      have H' := Aside0.mk H
      clear H
      have p196 : 0 ≤ (x5_1 : Int) := of_decide_eq_true XShort.asm
      have q196 : x5_1 < (l0.length : Int) := of_decide_eq_true XShort.asm
      obtain ⟨ad196, e196, hx196_0⟩ := Kd.at_int HR0.out x5_1 p196 q196
      cases e196
      replace p196 := eq_true p196
      replace q196 := eq_true q196
      go_wp2
      go_roundg k1
      case measure => have := HK1.out; omega
      case rel => exact ⟨(wrap64 (x5_1 + 1)), XShort.eqs, H', ⟨by have := HK1.out; omega⟩, by repeat (first | exact Drawn0.refl _ | apply Drawn0.step)⟩
    ·rw [if_neg c4] at H
     exact absurd H (by simp)
   ·rw [if_neg c3] at H
    have c3b0 : decide (x5_1 < (l0.length : Int)) = false := decide_eq_false c3
    clear c3
    obtain rfl := Option.some.inj H
    go_wp2
    go_ret
    exact ⟨XShort.eqs, by repeat (first | exact Drawn0.refl _ | apply Drawn0.step)⟩

/-! ### thistleref03_Orbit: function 20 -/
mutual
def thistleref03_Orbit.l0 : Nat → List Int → Int → Option (List Int)
 | 0, _, _ => none
 | k + 1, x3, x4 => if x4 < (x3.length : Int) then (if 0 ≤ x4 then ((thistleref03_partners.f k (rd x3 x4)).bind fun t201 => (thistleref03_Orbit.l1 k x3 x4 t201 0)) else (none)) else (thistleref03_Orbit.l2 k x3 0)
def thistleref03_Orbit.l1 : Nat → List Int → Int → List Int → Int → Option (List Int)
 | 0, _, _, _, _ => none
 | k + 1, x3, x4, x5, x6 => if x6 < (x5.length : Int) then (if 0 ≤ x6 then ((thistleref03_has.f k x3 (rd x5 x6)).bind fun t205 => (if t205 = true then (thistleref03_Orbit.l1 k x3 x4 x5 (wrap64 (x6 + 1))) else (if x3.length < 35184372088832 then (thistleref03_Orbit.l1 k (x3 ++ [rd x5 x6]) x4 x5 (wrap64 (x6 + 1))) else (none)))) else (none)) else (thistleref03_Orbit.l0 k x3 (wrap64 (x4 + 1)))
def thistleref03_Orbit.l2 : Nat → List Int → Int → Option (List Int)
 | 0, _, _ => none
 | k + 1, x3, x7 => if x7 < (x3.length : Int) then (thistleref03_Orbit.l3 k x3 x7 x7) else (some x3)
def thistleref03_Orbit.l3 : Nat → List Int → Int → Int → Option (List Int)
 | 0, _, _, _ => none
 | k + 1, x3, x7, x8 => if x8 > 0 then (if 0 ≤ x8 then (if x8 < (x3.length : Int) then (if 0 ≤ (wrap64 (x8 - 1)) then (if (wrap64 (x8 - 1)) < (x3.length : Int) then (if (rd x3 x8) < (rd x3 (wrap64 (x8 - 1))) then (thistleref03_Orbit.l3 k ((x3.set (x8 : Int).toNat (rd x3 (wrap64 (x8 - 1)))).set ((wrap64 (x8 - 1)) : Int).toNat (rd x3 x8)) x7 (wrap64 (x8 - 1))) else (thistleref03_Orbit.l2 k x3 (wrap64 (x7 + 1)))) else (none)) else (none)) else (none)) else (none)) else (thistleref03_Orbit.l2 k x3 (wrap64 (x7 + 1)))
end
def thistleref03_Orbit.f (k : Nat) (a0 : Int) : Option (List Int) := thistleref03_Orbit.l0 k (([a0] : List Int)) 0
theorem thistleref03_Orbit.mono_l : ∀ k, (∀ y0 y1, LeO (thistleref03_Orbit.l0 k y0 y1) (thistleref03_Orbit.l0 (k + 1) y0 y1)) ∧ (∀ y0 y1 y2 y3, LeO (thistleref03_Orbit.l1 k y0 y1 y2 y3) (thistleref03_Orbit.l1 (k + 1) y0 y1 y2 y3)) ∧ (∀ y0 y1, LeO (thistleref03_Orbit.l2 k y0 y1) (thistleref03_Orbit.l2 (k + 1) y0 y1)) ∧ (∀ y0 y1 y2, LeO (thistleref03_Orbit.l3 k y0 y1 y2) (thistleref03_Orbit.l3 (k + 1) y0 y1 y2))
 | 0 => ⟨fun _ _ r h => by simp [thistleref03_Orbit.l0] at h, fun _ _ _ _ r h => by simp [thistleref03_Orbit.l1] at h, fun _ _ r h => by simp [thistleref03_Orbit.l2] at h, fun _ _ _ r h => by simp [thistleref03_Orbit.l3] at h⟩
 | k + 1 => by
  obtain ⟨ih0, ih1, ih2, ih3⟩ := thistleref03_Orbit.mono_l k
  refine ⟨?_, ?_, ?_, ?_⟩
  ·intro y0 y1
   unfold thistleref03_Orbit.l0
   repeat' first
   | (with_reducible exact ih0 _ _)
   | (with_reducible exact ih1 _ _ _ _)
   | (with_reducible exact ih2 _ _)
   | (with_reducible exact ih3 _ _ _)
   | (with_reducible exact thistleref03_has.mono _ _ _)
   | (with_reducible exact thistleref03_partners.mono _ _)
   | (with_reducible exact LeO.refl _)
   | (with_reducible exact LeO.none _)
   | (with_reducible refine LeO.ite ?_ ?_)
   | (with_reducible refine LeO.bind ?_ (fun _ => ?_))
   | exact ih0 _ _
   | exact ih1 _ _ _ _
   | exact ih2 _ _
   | exact ih3 _ _ _
   | exact thistleref03_has.mono _ _ _
   | exact thistleref03_partners.mono _ _
   | exact LeO.none _
   | refine LeO.ite ?_ ?_
   | refine LeO.bind ?_ (fun _ => ?_)
  ·intro y0 y1 y2 y3
   unfold thistleref03_Orbit.l1
   repeat' first
   | (with_reducible exact ih0 _ _)
   | (with_reducible exact ih1 _ _ _ _)
   | (with_reducible exact ih2 _ _)
   | (with_reducible exact ih3 _ _ _)
   | (with_reducible exact thistleref03_has.mono _ _ _)
   | (with_reducible exact thistleref03_partners.mono _ _)
   | (with_reducible exact LeO.refl _)
   | (with_reducible exact LeO.none _)
   | (with_reducible refine LeO.ite ?_ ?_)
   | (with_reducible refine LeO.bind ?_ (fun _ => ?_))
   | exact ih0 _ _
   | exact ih1 _ _ _ _
   | exact ih2 _ _
   | exact ih3 _ _ _
   | exact thistleref03_has.mono _ _ _
   | exact thistleref03_partners.mono _ _
   | exact LeO.none _
   | refine LeO.ite ?_ ?_
   | refine LeO.bind ?_ (fun _ => ?_)
  ·intro y0 y1
   unfold thistleref03_Orbit.l2
   repeat' first
   | (with_reducible exact ih0 _ _)
   | (with_reducible exact ih1 _ _ _ _)
   | (with_reducible exact ih2 _ _)
   | (with_reducible exact ih3 _ _ _)
   | (with_reducible exact thistleref03_has.mono _ _ _)
   | (with_reducible exact thistleref03_partners.mono _ _)
   | (with_reducible exact LeO.refl _)
   | (with_reducible exact LeO.none _)
   | (with_reducible refine LeO.ite ?_ ?_)
   | (with_reducible refine LeO.bind ?_ (fun _ => ?_))
   | exact ih0 _ _
   | exact ih1 _ _ _ _
   | exact ih2 _ _
   | exact ih3 _ _ _
   | exact thistleref03_has.mono _ _ _
   | exact thistleref03_partners.mono _ _
   | exact LeO.none _
   | refine LeO.ite ?_ ?_
   | refine LeO.bind ?_ (fun _ => ?_)
  ·intro y0 y1 y2
   unfold thistleref03_Orbit.l3
   repeat' first
   | (with_reducible exact ih0 _ _)
   | (with_reducible exact ih1 _ _ _ _)
   | (with_reducible exact ih2 _ _)
   | (with_reducible exact ih3 _ _ _)
   | (with_reducible exact thistleref03_has.mono _ _ _)
   | (with_reducible exact thistleref03_partners.mono _ _)
   | (with_reducible exact LeO.refl _)
   | (with_reducible exact LeO.none _)
   | (with_reducible refine LeO.ite ?_ ?_)
   | (with_reducible refine LeO.bind ?_ (fun _ => ?_))
   | exact ih0 _ _
   | exact ih1 _ _ _ _
   | exact ih2 _ _
   | exact ih3 _ _ _
   | exact thistleref03_has.mono _ _ _
   | exact thistleref03_partners.mono _ _
   | exact LeO.none _
   | refine LeO.ite ?_ ?_
   | refine LeO.bind ?_ (fun _ => ?_)
theorem thistleref03_Orbit.mono : ∀ a0 k, LeO (thistleref03_Orbit.f k a0) (thistleref03_Orbit.f (k + 1) a0) := by
 intro a0 k
 obtain ⟨ih0, ih1, ih2, ih3⟩ := thistleref03_Orbit.mono_l k
 unfold thistleref03_Orbit.f
 repeat' first
   | (with_reducible exact ih0 _ _)
   | (with_reducible exact ih1 _ _ _ _)
   | (with_reducible exact ih2 _ _)
   | (with_reducible exact ih3 _ _ _)
   | (with_reducible exact thistleref03_has.mono _ _ _)
   | (with_reducible exact thistleref03_partners.mono _ _)
   | (with_reducible exact LeO.refl _)
   | (with_reducible exact LeO.none _)
   | (with_reducible refine LeO.ite ?_ ?_)
   | (with_reducible refine LeO.bind ?_ (fun _ => ?_))
   | exact ih0 _ _
   | exact ih1 _ _ _ _
   | exact ih2 _ _
   | exact ih3 _ _ _
   | exact thistleref03_has.mono _ _ _
   | exact thistleref03_partners.mono _ _
   | exact LeO.none _
   | refine LeO.ite ?_ ?_
   | refine LeO.bind ?_ (fun _ => ?_)
set_option maxHeartbeats 8000000 in
set_option maxRecDepth 100000 in
theorem thistleref03_Orbit.calls (k : Nat) (a0 : Int) (r : List Int) (w : World) (h : thistleref03_Orbit.f k a0 = some r) :
  Calls Tryd.prog 20 #[.int .i32 a0] w fun e w' => ∃ v0_ : Value, e = .returned (v0_) ∧ Kd.R (Kd.int .i32) 21 w' w.heap.size (fun _ => True) v0_ r ∧ Below w.heap.size w w' := by
 have HB := Aside0.mk (Below.refl w.heap.size w)
 have H : (thistleref03_Orbit.l0 k (([a0] : List Int)) 0) = some r := h
 clear h
 obtain ⟨y197, hy197⟩ : ∃ y_ : List Int, y_ = (([a0] : List Int)) := ⟨_, rfl⟩
 replace H : (thistleref03_Orbit.l0 k y197 0) = some r := by first | (rw [hy197]; with_reducible exact H) | (have H2_ := (Option.bind_some _ _).symm.trans H; rw [hy197]; with_reducible exact H2_) | (have H2_ := (Option.bind_some _ _).symm.trans H; with_reducible exact H2_) | with_reducible exact H | (rw [hy197]; exact H) | exact H
 have Ny197 := Aside0.mk hy197
 clear hy197
 have H' := Aside0.mk H
 clear H
 go_enter Tryd.func20, Tryd.ntmps20
 go_wp2_with (first | ((with_reducible refine gate_dst (N := 11) rfl ?_); refine Kd.R_lit (Kd.int .i32) _ 21 ?hg (N := 11) ?hd (xs := ([a0] : List Int)) (inner := [.int .i32 a0]) (ok := fun _ => True) (okp := fun _ => True) ?hr ?hp (fun _ hk => hk) trivial (Below.refl _ _) (Nat.le_refl _) (by simp) ?_; (case hd => rfl); (case hg => rfl); (case hr => first | (go_simp; done) | (go_simp; rfl)); (case hp => exact (Reps.one (show Kd.M (Kd.int .i32) _ _ _ a0 [.int .i32 a0] from rfl) (Reps.none _ _))); intro v198 w2 ho3 hb hg_ hnew_; clear hg_ hnew_; (first | rw [← Ny197.out] at ho3 | (simp only [Int.reduceToNat] at ho3; rw [← Ny197.out] at ho3)); have n0_ := Aside0.mk (Kd.R_lower ho3 (below_size XShort.bel)); have n1_ := Aside0.mk (below_step XShort.bel hb); clear HB; have HO199 := n0_; have HB := n1_; clear n0_ n1_; clear hb ho3))
 repeat (go_quiet (first | ((with_reducible refine gate_dst (N := 11) rfl ?_); refine Kd.R_lit (Kd.int .i32) _ 21 ?hg (N := 11) ?hd (xs := ([a0] : List Int)) (inner := [.int .i32 a0]) (ok := fun _ => True) (okp := fun _ => True) ?hr ?hp (fun _ hk => hk) trivial (Below.refl _ _) (Nat.le_refl _) (by simp) ?_; (case hd => rfl); (case hg => rfl); (case hr => first | (go_simp; done) | (go_simp; rfl)); (case hp => exact (Reps.one (show Kd.M (Kd.int .i32) _ _ _ a0 [.int .i32 a0] from rfl) (Reps.none _ _))); intro v198 w2 ho3 hb hg_ hnew_; clear hg_ hnew_; (first | rw [← Ny197.out] at ho3 | (simp only [Int.reduceToNat] at ho3; rw [← Ny197.out] at ho3)); have n0_ := Aside0.mk (Kd.R_lower ho3 (below_size XShort.bel)); have n1_ := Aside0.mk (below_step XShort.bel hb); clear HB; have HO199 := n0_; have HB := n1_; clear n0_ n1_; clear hb ho3)); try go_wp2_with (first | ((with_reducible refine gate_dst (N := 11) rfl ?_); refine Kd.R_lit (Kd.int .i32) _ 21 ?hg (N := 11) ?hd (xs := ([a0] : List Int)) (inner := [.int .i32 a0]) (ok := fun _ => True) (okp := fun _ => True) ?hr ?hp (fun _ hk => hk) trivial (Below.refl _ _) (Nat.le_refl _) (by simp) ?_; (case hd => rfl); (case hg => rfl); (case hr => first | (go_simp; done) | (go_simp; rfl)); (case hp => exact (Reps.one (show Kd.M (Kd.int .i32) _ _ _ a0 [.int .i32 a0] from rfl) (Reps.none _ _))); intro v198 w2 ho3 hb hg_ hnew_; clear hg_ hnew_; (first | rw [← Ny197.out] at ho3 | (simp only [Int.reduceToNat] at ho3; rw [← Ny197.out] at ho3)); have n0_ := Aside0.mk (Kd.R_lower ho3 (below_size XShort.bel)); have n1_ := Aside0.mk (below_step XShort.bel hb); clear HB; have HO199 := n0_; have HB := n1_; clear n0_ n1_; clear hb ho3)))
 go_loopg [3, 4] k (fun kq v3 v4 w' => ∃ (x3_1 : List Int) (x4_1 : Int), v4 = .int .i64 x4_1 ∧ Aside0 (thistleref03_Orbit.l0 kq x3_1 x4_1 = some r) ∧ Aside0 (kq ≤ k) ∧ Aside0 (Kd.R (Kd.int .i32) 21 w' w.heap.size (fun _ => True) v3 x3_1) ∧ Aside0 (Below w.heap.size w w'))
 case atStart => exact ⟨(y197), (0), XShort.eqs, H', ⟨Nat.le_refl _⟩, ⟨by (with_reducible repeat (first | apply Kd.R_alloc | apply Kd.R_drewN | apply Kd.R_drew)); exact HO199.out⟩, ⟨XShort.bel⟩⟩
 case round =>
  clear H'
  try clear c2
  try clear p2
  obtain ⟨x3_1, x4_1, rfl, HA, HK1, HO_3, HB⟩ := hrel
  cases gk with
  | zero => exact absurd HA.out (by simp [thistleref03_Orbit.l0])
  | succ k1 =>
   have H := HA.out
   clear HA
   simp only [thistleref03_Orbit.l0] at H
   by_cases c4 : x4_1 < (x3_1.length : Int)
   ·rw [if_pos c4] at H
    have c4b0 : decide (x4_1 < (x3_1.length : Int)) = true := decide_eq_true c4
    clear c4
    by_cases c5 : 0 ≤ x4_1
    ·rw [if_pos c5] at H
     have c5b0 : decide (0 ≤ x4_1) = true := decide_eq_true c5
     clear c5
     replace H := Option.bind_eq_some_iff.mp H
     obtain ⟨t201, A60, H⟩ := H
     replace H : (thistleref03_Orbit.l1 k1 x3_1 x4_1 t201 0) = some r := H
     have A6 := Aside0.mk A60
     clear A60
     have H' := Aside0.mk H
     clear H
     obtain ⟨Ao7, co7, eo7⟩ := Kd.R_slice HO_3.out
     subst eo7
     have p200 : 0 ≤ (x4_1 : Int) := of_decide_eq_true XShort.asm
     have q200 : x4_1 < (x3_1.length : Int) := of_decide_eq_true XShort.asm
     obtain ⟨ad200, e200, hx200_0⟩ := Kd.at_int (Kd.R_reads' HO_3.out).2.2 x4_1 p200 q200
     cases e200
     replace p200 := eq_true p200
     replace q200 := eq_true q200
     go_wp2_with (first | (go_at_call 41; (with_reducible refine (thistleref03_partners.calls k1 (rd x3_1 x4_1) t201 _ A6.out).mono ?_); rintro e w8 ⟨v202, rfl, ho0, hb⟩; have n0_ := Aside0.mk (Kd.R_elder' (XShort.rr HO_3.out) (Kd.R_base ho0) hb); have n1_ := Aside0.mk (Kd.R_lower (Kd.R_new' ho0 (Kd.R_lt (XShort.rr HO_3.out))) (below_size XShort.bel)); have n2_ := Aside0.mk (below_step XShort.bel hb); clear HO_3; clear HB; have HO_3 := n0_; have HO203 := n1_; have HB := n2_; clear n0_ n1_ n2_; (try clear hb); (try clear hb2); (try clear hk); (try clear hi); (try clear ho0)))
     repeat (go_quiet (first | (go_at_call 41; (with_reducible refine (thistleref03_partners.calls k1 (rd x3_1 x4_1) t201 _ A6.out).mono ?_); rintro e w8 ⟨v202, rfl, ho0, hb⟩; have n0_ := Aside0.mk (Kd.R_elder' (XShort.rr HO_3.out) (Kd.R_base ho0) hb); have n1_ := Aside0.mk (Kd.R_lower (Kd.R_new' ho0 (Kd.R_lt (XShort.rr HO_3.out))) (below_size XShort.bel)); have n2_ := Aside0.mk (below_step XShort.bel hb); clear HO_3; clear HB; have HO_3 := n0_; have HO203 := n1_; have HB := n2_; clear n0_ n1_ n2_; (try clear hb); (try clear hb2); (try clear hk); (try clear hi); (try clear ho0))); try go_wp2_with (first | (go_at_call 41; (with_reducible refine (thistleref03_partners.calls k1 (rd x3_1 x4_1) t201 _ A6.out).mono ?_); rintro e w8 ⟨v202, rfl, ho0, hb⟩; have n0_ := Aside0.mk (Kd.R_elder' (XShort.rr HO_3.out) (Kd.R_base ho0) hb); have n1_ := Aside0.mk (Kd.R_lower (Kd.R_new' ho0 (Kd.R_lt (XShort.rr HO_3.out))) (below_size XShort.bel)); have n2_ := Aside0.mk (below_step XShort.bel hb); clear HO_3; clear HB; have HO_3 := n0_; have HO203 := n1_; have HB := n2_; clear n0_ n1_ n2_; (try clear hb); (try clear hb2); (try clear hk); (try clear hi); (try clear ho0))))
     go_loopg [3, 6] k1 (fun kq v3 v6 w' => ∃ (x3_2 : List Int) (x6_2 : Int), v6 = .int .i64 x6_2 ∧ Aside0 (thistleref03_Orbit.l1 kq x3_2 x4_1 t201 x6_2 = some r) ∧ Aside0 (kq ≤ k1) ∧ Aside0 (Kd.R (Kd.int .i32) 21 w' w.heap.size (fun k_ => some k_ ≠ (v202 : Value).ownBlock) v3 x3_2) ∧ Aside0 (Kd.R (Kd.int .i32) 21 w' w.heap.size (fun k_ => some k_ ≠ (v3 : Value).ownBlock) v202 t201) ∧ Aside0 (Below w.heap.size w w'))
     case atStart => exact ⟨(x3_1), (0), XShort.eqs, H', ⟨Nat.le_refl _⟩, ⟨by (with_reducible repeat (first | apply Kd.R_alloc | apply Kd.R_drewN | apply Kd.R_drew)); exact Kd.R_mono HO_3.out (fun _ hk => hk.2)⟩, ⟨by (with_reducible repeat (first | apply Kd.R_alloc | apply Kd.R_drewN | apply Kd.R_drew)); exact Kd.R_mono HO203.out (fun _ hk => hk.2)⟩, ⟨XShort.bel⟩⟩
     case round =>
      clear H'
      try clear c2
      try clear p2
      try clear q2
      try clear hx2
      try clear c4
      try clear c4b0
      try clear c5
      try clear c5b0
      try clear hx200_0
      try clear p2
      try clear p200
      try clear q200
      obtain ⟨x3_2, x6_2, rfl, HA, HK2, HO_3, HO_5, HB⟩ := hrel
      cases gk with
      | zero => exact absurd HA.out (by simp [thistleref03_Orbit.l1])
      | succ k2 =>
       have H := HA.out
       clear HA
       simp only [thistleref03_Orbit.l1] at H
       by_cases c9 : x6_2 < (t201.length : Int)
       ·rw [if_pos c9] at H
        have c9b0 : decide (x6_2 < (t201.length : Int)) = true := decide_eq_true c9
        clear c9
        by_cases c10 : 0 ≤ x6_2
        ·rw [if_pos c10] at H
         have c10b0 : decide (0 ≤ x6_2) = true := decide_eq_true c10
         clear c10
         replace H := Option.bind_eq_some_iff.mp H
         obtain ⟨t205, A110, H⟩ := H
         replace H : (if t205 = true then (thistleref03_Orbit.l1 k2 x3_2 x4_1 t201 (wrap64 (x6_2 + 1))) else (if x3_2.length < 35184372088832 then (thistleref03_Orbit.l1 k2 (x3_2 ++ [rd t201 x6_2]) x4_1 t201 (wrap64 (x6_2 + 1))) else (none))) = some r := H
         have A11 := Aside0.mk A110
         clear A110
         by_cases c12 : t205 = true
         ·subst c12
          have H1 : (thistleref03_Orbit.l1 k2 x3_2 x4_1 t201 (wrap64 (x6_2 + 1))) = some r := by rw [if_pos rfl] at H; exact H
          clear H
          have H := H1
          clear H1
          have H' := Aside0.mk H
          clear H
          obtain ⟨Ao13, co13, eo13⟩ := Kd.R_slice HO_5.out
          subst eo13
          have p204 : 0 ≤ (x6_2 : Int) := of_decide_eq_true XShort.asm
          have q204 : x6_2 < (t201.length : Int) := of_decide_eq_true XShort.asm
          obtain ⟨ad204, e204, hx204_0⟩ := Kd.at_int (Kd.R_reads' HO_5.out).2.2 x6_2 p204 q204
          cases e204
          replace p204 := eq_true p204
          replace q204 := eq_true q204
          obtain ⟨Ao14, co14, eo14⟩ := Kd.R_slice HO_3.out
          subst eo14
          go_wp2_with (first | (go_at_call 42; (with_reducible refine (thistleref03_has.calls k2 _ _ x3_2 (rd t201 x6_2) true _ ?side1 ?side2 A11.out).mono ?_); (case side1 => repeat (first | exact (Kd.R_reads' HO_3.out).2.2 | (with_reducible refine Kd.C_alloc ?_ _) | (with_reducible refine Kd.C_drewN ?_ _) | (with_reducible refine Kd.C_drew ?_))); (case side2 => exact (Kd.R_reads' HO_3.out).2.1); rintro e w' ⟨rfl, ⟨nd, rfl⟩⟩; (try first | exact ⟨rfl, _, World.drewN_drewN _ _ _⟩ | exact ⟨rfl, _, Eq.trans (World.drewN_drewN _ _ _) (congrArg (World.drewN _) (Nat.add_assoc _ _ _))⟩)))
          repeat (go_quiet (first | (go_at_call 42; (with_reducible refine (thistleref03_has.calls k2 _ _ x3_2 (rd t201 x6_2) true _ ?side1 ?side2 A11.out).mono ?_); (case side1 => repeat (first | exact (Kd.R_reads' HO_3.out).2.2 | (with_reducible refine Kd.C_alloc ?_ _) | (with_reducible refine Kd.C_drewN ?_ _) | (with_reducible refine Kd.C_drew ?_))); (case side2 => exact (Kd.R_reads' HO_3.out).2.1); rintro e w' ⟨rfl, ⟨nd, rfl⟩⟩; (try first | exact ⟨rfl, _, World.drewN_drewN _ _ _⟩ | exact ⟨rfl, _, Eq.trans (World.drewN_drewN _ _ _) (congrArg (World.drewN _) (Nat.add_assoc _ _ _))⟩))); try go_wp2_with (first | (go_at_call 42; (with_reducible refine (thistleref03_has.calls k2 _ _ x3_2 (rd t201 x6_2) true _ ?side1 ?side2 A11.out).mono ?_); (case side1 => repeat (first | exact (Kd.R_reads' HO_3.out).2.2 | (with_reducible refine Kd.C_alloc ?_ _) | (with_reducible refine Kd.C_drewN ?_ _) | (with_reducible refine Kd.C_drew ?_))); (case side2 => exact (Kd.R_reads' HO_3.out).2.1); rintro e w' ⟨rfl, ⟨nd, rfl⟩⟩; (try first | exact ⟨rfl, _, World.drewN_drewN _ _ _⟩ | exact ⟨rfl, _, Eq.trans (World.drewN_drewN _ _ _) (congrArg (World.drewN _) (Nat.add_assoc _ _ _))⟩))))
          go_roundg k2
          case measure => have := HK1.out; have := HK2.out; omega
          case rel => exact ⟨(x3_2), (wrap64 (x6_2 + 1)), XShort.eqs, H', ⟨by have := HK1.out; have := HK2.out; omega⟩, ⟨by (with_reducible repeat (first | apply Kd.R_alloc | apply Kd.R_drewN | apply Kd.R_drew)); exact HO_3.out⟩, ⟨by (with_reducible repeat (first | apply Kd.R_alloc | apply Kd.R_drewN | apply Kd.R_drew)); exact HO_5.out⟩, ⟨XShort.bel⟩⟩
         ·replace c12 := Bool.eq_false_iff.mpr c12
          subst c12
          have H1 : (if x3_2.length < 35184372088832 then (thistleref03_Orbit.l1 k2 (x3_2 ++ [rd t201 x6_2]) x4_1 t201 (wrap64 (x6_2 + 1))) else (none)) = some r := by rw [if_neg (show ¬ (false = true) by decide)] at H; exact H
          clear H
          have H := H1
          clear H1
          by_cases c15 : x3_2.length < 35184372088832
          ·rw [if_pos c15] at H
           have LMc15 := Aside0.mk c15
           clear c15
           obtain ⟨y207, hy207⟩ : ∃ y_ : List Int, y_ = (x3_2 ++ [rd t201 x6_2]) := ⟨_, rfl⟩
           replace H : (thistleref03_Orbit.l1 k2 y207 x4_1 t201 (wrap64 (x6_2 + 1))) = some r := by first | (rw [hy207]; with_reducible exact H) | (have H2_ := (Option.bind_some _ _).symm.trans H; rw [hy207]; with_reducible exact H2_) | (have H2_ := (Option.bind_some _ _).symm.trans H; with_reducible exact H2_) | with_reducible exact H | (rw [hy207]; exact H) | exact H
           have Ny207 := Aside0.mk hy207
           clear hy207
           have H' := Aside0.mk H
           clear H
           obtain ⟨Ao16, co16, eo16⟩ := Kd.R_slice HO_5.out
           subst eo16
           have p204 : 0 ≤ (x6_2 : Int) := of_decide_eq_true XShort.asm
           have q204 : x6_2 < (t201.length : Int) := of_decide_eq_true XShort.asm
           obtain ⟨ad204, e204, hx204_0⟩ := Kd.at_int (Kd.R_reads' HO_5.out).2.2 x6_2 p204 q204
           cases e204
           replace p204 := eq_true p204
           replace q204 := eq_true q204
           obtain ⟨Ao17, co17, eo17⟩ := Kd.R_slice HO_3.out
           subst eo17
           go_wp2_with (first | (go_at_call 42; (with_reducible refine (thistleref03_has.calls k2 _ _ x3_2 (rd t201 x6_2) false _ ?side1 ?side2 A11.out).mono ?_); (case side1 => repeat (first | exact (Kd.R_reads' HO_3.out).2.2 | (with_reducible refine Kd.C_alloc ?_ _) | (with_reducible refine Kd.C_drewN ?_ _) | (with_reducible refine Kd.C_drew ?_))); (case side2 => exact (Kd.R_reads' HO_3.out).2.1); rintro e w' ⟨rfl, ⟨nd, rfl⟩⟩; (try first | exact ⟨rfl, _, World.drewN_drewN _ _ _⟩ | exact ⟨rfl, _, Eq.trans (World.drewN_drewN _ _ _) (congrArg (World.drewN _) (Nat.add_assoc _ _ _))⟩); have p206 : 0 ≤ (x6_2 : Int) := of_decide_eq_true XShort.asm; have q206 : x6_2 < (t201.length : Int) := of_decide_eq_true XShort.asm; obtain ⟨ad206, e206, hx206_0⟩ := Kd.at_int (Kd.R_reads' HO_5.out).2.2 x6_2 p206 q206; obtain rfl : ad204 = ad206 := (by injection e206); replace p206 := eq_true p206; replace q206 := eq_true q206) | ((with_reducible refine gate_builtin (b := .append) (xs := #[.tmp 36, .tmp 41]) rfl ?_); at_builtin; refine Kd.R_append (Kd.int .i32) (w0 := w) w.heap.size rfl (.tmp 36) (.tmp 41) 32 21 (.int .i32 0) 4 rfl Tryd.underlying32 info21 rfl (by decide) (by omega) (.slice Ao17 x3_2.length co17) x3_2 (rd t201 x6_2) [.int .i32 (rd t201 x6_2)] (fun k_ => some k_ ≠ (.slice (some ad204) t201.length co16 : Value).ownBlock) (fun _ => False) rfl rfl ?aP (fun _ hk => hk.elim) ?aF ?aO ?aB ?aS ?aL ?_; (case aP => exact rfl); (case aB => exact XShort.bel); (case aF => exact (fun k_ hk => Kd.fresh' (Kd.R_lt (XShort.rr HO_5.out)) k_ hk)); (case aO => exact (XShort.rr HO_3.out)); (case aS => exact (below_size XShort.bel)); (case aL => have := LMc15.out; omega); intro v208 w18 ho hb hg hat; rw [← Ny207.out] at ho; have n0_ := Aside0.mk (Kd.R_after (ok := (fun _ => True)) (by (with_reducible repeat (first | apply Kd.R_alloc | apply Kd.R_drewN | apply Kd.R_drew)); exact Kd.R_mono HO_5.out (fun _ hk => ⟨trivial, hk⟩)) hg hat); have n1_ := Aside0.mk (hb); have n2_ := Aside0.mk (ho); clear HO_5; clear HB; clear HO_3; have HO_5 := n0_; have HB := n1_; have HO209 := n2_; clear n0_ n1_ n2_; clear ho hb hg hat))
           repeat (go_quiet (first | (go_at_call 42; (with_reducible refine (thistleref03_has.calls k2 _ _ x3_2 (rd t201 x6_2) false _ ?side1 ?side2 A11.out).mono ?_); (case side1 => repeat (first | exact (Kd.R_reads' HO_3.out).2.2 | (with_reducible refine Kd.C_alloc ?_ _) | (with_reducible refine Kd.C_drewN ?_ _) | (with_reducible refine Kd.C_drew ?_))); (case side2 => exact (Kd.R_reads' HO_3.out).2.1); rintro e w' ⟨rfl, ⟨nd, rfl⟩⟩; (try first | exact ⟨rfl, _, World.drewN_drewN _ _ _⟩ | exact ⟨rfl, _, Eq.trans (World.drewN_drewN _ _ _) (congrArg (World.drewN _) (Nat.add_assoc _ _ _))⟩); have p206 : 0 ≤ (x6_2 : Int) := of_decide_eq_true XShort.asm; have q206 : x6_2 < (t201.length : Int) := of_decide_eq_true XShort.asm; obtain ⟨ad206, e206, hx206_0⟩ := Kd.at_int (Kd.R_reads' HO_5.out).2.2 x6_2 p206 q206; obtain rfl : ad204 = ad206 := (by injection e206); replace p206 := eq_true p206; replace q206 := eq_true q206) | ((with_reducible refine gate_builtin (b := .append) (xs := #[.tmp 36, .tmp 41]) rfl ?_); at_builtin; refine Kd.R_append (Kd.int .i32) (w0 := w) w.heap.size rfl (.tmp 36) (.tmp 41) 32 21 (.int .i32 0) 4 rfl Tryd.underlying32 info21 rfl (by decide) (by omega) (.slice Ao17 x3_2.length co17) x3_2 (rd t201 x6_2) [.int .i32 (rd t201 x6_2)] (fun k_ => some k_ ≠ (.slice (some ad204) t201.length co16 : Value).ownBlock) (fun _ => False) rfl rfl ?aP (fun _ hk => hk.elim) ?aF ?aO ?aB ?aS ?aL ?_; (case aP => exact rfl); (case aB => exact XShort.bel); (case aF => exact (fun k_ hk => Kd.fresh' (Kd.R_lt (XShort.rr HO_5.out)) k_ hk)); (case aO => exact (XShort.rr HO_3.out)); (case aS => exact (below_size XShort.bel)); (case aL => have := LMc15.out; omega); intro v208 w18 ho hb hg hat; rw [← Ny207.out] at ho; have n0_ := Aside0.mk (Kd.R_after (ok := (fun _ => True)) (by (with_reducible repeat (first | apply Kd.R_alloc | apply Kd.R_drewN | apply Kd.R_drew)); exact Kd.R_mono HO_5.out (fun _ hk => ⟨trivial, hk⟩)) hg hat); have n1_ := Aside0.mk (hb); have n2_ := Aside0.mk (ho); clear HO_5; clear HB; clear HO_3; have HO_5 := n0_; have HB := n1_; have HO209 := n2_; clear n0_ n1_ n2_; clear ho hb hg hat)); try go_wp2_with (first | (go_at_call 42; (with_reducible refine (thistleref03_has.calls k2 _ _ x3_2 (rd t201 x6_2) false _ ?side1 ?side2 A11.out).mono ?_); (case side1 => repeat (first | exact (Kd.R_reads' HO_3.out).2.2 | (with_reducible refine Kd.C_alloc ?_ _) | (with_reducible refine Kd.C_drewN ?_ _) | (with_reducible refine Kd.C_drew ?_))); (case side2 => exact (Kd.R_reads' HO_3.out).2.1); rintro e w' ⟨rfl, ⟨nd, rfl⟩⟩; (try first | exact ⟨rfl, _, World.drewN_drewN _ _ _⟩ | exact ⟨rfl, _, Eq.trans (World.drewN_drewN _ _ _) (congrArg (World.drewN _) (Nat.add_assoc _ _ _))⟩); have p206 : 0 ≤ (x6_2 : Int) := of_decide_eq_true XShort.asm; have q206 : x6_2 < (t201.length : Int) := of_decide_eq_true XShort.asm; obtain ⟨ad206, e206, hx206_0⟩ := Kd.at_int (Kd.R_reads' HO_5.out).2.2 x6_2 p206 q206; obtain rfl : ad204 = ad206 := (by injection e206); replace p206 := eq_true p206; replace q206 := eq_true q206) | ((with_reducible refine gate_builtin (b := .append) (xs := #[.tmp 36, .tmp 41]) rfl ?_); at_builtin; refine Kd.R_append (Kd.int .i32) (w0 := w) w.heap.size rfl (.tmp 36) (.tmp 41) 32 21 (.int .i32 0) 4 rfl Tryd.underlying32 info21 rfl (by decide) (by omega) (.slice Ao17 x3_2.length co17) x3_2 (rd t201 x6_2) [.int .i32 (rd t201 x6_2)] (fun k_ => some k_ ≠ (.slice (some ad204) t201.length co16 : Value).ownBlock) (fun _ => False) rfl rfl ?aP (fun _ hk => hk.elim) ?aF ?aO ?aB ?aS ?aL ?_; (case aP => exact rfl); (case aB => exact XShort.bel); (case aF => exact (fun k_ hk => Kd.fresh' (Kd.R_lt (XShort.rr HO_5.out)) k_ hk)); (case aO => exact (XShort.rr HO_3.out)); (case aS => exact (below_size XShort.bel)); (case aL => have := LMc15.out; omega); intro v208 w18 ho hb hg hat; rw [← Ny207.out] at ho; have n0_ := Aside0.mk (Kd.R_after (ok := (fun _ => True)) (by (with_reducible repeat (first | apply Kd.R_alloc | apply Kd.R_drewN | apply Kd.R_drew)); exact Kd.R_mono HO_5.out (fun _ hk => ⟨trivial, hk⟩)) hg hat); have n1_ := Aside0.mk (hb); have n2_ := Aside0.mk (ho); clear HO_5; clear HB; clear HO_3; have HO_5 := n0_; have HB := n1_; have HO209 := n2_; clear n0_ n1_ n2_; clear ho hb hg hat)))
           go_roundg k2
           case measure => have := HK1.out; have := HK2.out; omega
           case rel => exact ⟨(y207), (wrap64 (x6_2 + 1)), XShort.eqs, H', ⟨by have := HK1.out; have := HK2.out; omega⟩, ⟨by (with_reducible repeat (first | apply Kd.R_alloc | apply Kd.R_drewN | apply Kd.R_drew)); exact HO209.out⟩, ⟨by (with_reducible repeat (first | apply Kd.R_alloc | apply Kd.R_drewN | apply Kd.R_drew)); exact Kd.R_mono HO_5.out (fun _ hk => hk.2)⟩, ⟨XShort.bel⟩⟩
          ·rw [if_neg c15] at H
           exact absurd H (by simp)
        ·rw [if_neg c10] at H
         exact absurd H (by simp)
       ·rw [if_neg c9] at H
        have c9b0 : decide (x6_2 < (t201.length : Int)) = false := decide_eq_false c9
        clear c9
        have H' := Aside0.mk H
        clear H
        obtain ⟨Ao19, co19, eo19⟩ := Kd.R_slice HO_5.out
        subst eo19
        go_wp2
        repeat (go_quiet (fail); try go_wp2)
        go_roundg k2
        case measure => have := HK1.out; have := HK2.out; omega
        case rel => exact ⟨(x3_2), (wrap64 (x4_1 + 1)), XShort.eqs, H', ⟨by have := HK1.out; have := HK2.out; omega⟩, ⟨by (with_reducible repeat (first | apply Kd.R_alloc | apply Kd.R_drewN | apply Kd.R_drew)); exact Kd.R_mono HO_3.out (fun _ hk => trivial)⟩, ⟨XShort.bel⟩⟩
    ·rw [if_neg c5] at H
     exact absurd H (by simp)
   ·rw [if_neg c4] at H
    have c4b0 : decide (x4_1 < (x3_1.length : Int)) = false := decide_eq_false c4
    clear c4
    have H' := Aside0.mk H
    clear H
    obtain ⟨Ao20, co20, eo20⟩ := Kd.R_slice HO_3.out
    subst eo20
    go_wp2
    repeat (go_quiet (fail); try go_wp2)
    go_loopg [7] k1 (fun kq v7 w' => ∃ (x3_2 : List Int) (x7_2 : Int), v7 = .int .i64 x7_2 ∧ Aside0 (thistleref03_Orbit.l2 kq x3_2 x7_2 = some r) ∧ Aside0 (kq ≤ k1) ∧ Aside0 (Kd.R (Kd.int .i32) 21 w' w.heap.size (fun _ => True) (.slice Ao20 x3_1.length co20) x3_2) ∧ Aside0 (Below w.heap.size w w'))
    case atStart => exact ⟨(x3_1), (0), XShort.eqs, H', ⟨Nat.le_refl _⟩, ⟨by (with_reducible repeat (first | apply Kd.R_alloc | apply Kd.R_drewN | apply Kd.R_drew)); exact HO_3.out⟩, ⟨XShort.bel⟩⟩
    case round =>
     clear H'
     try clear c1
     try clear c2
     try clear p2
     try clear q2
     try clear hx2
     try clear c4
     try clear c4b0
     try clear c5
     try clear c5b0
     try clear p6
     try clear c9
     try clear c9b0
     try clear c10
     try clear c10b0
     try clear c12
     try clear c15
     try clear c20
     try clear p20
     try clear q20
     try clear hx20
     try clear hx200_0
     try clear hx204_0
     try clear hx206_0
     try clear p2
     try clear p200
     try clear p204
     try clear p206
     try clear q2
     try clear q200
     try clear q204
     try clear q206
     obtain ⟨x3_2, x7_2, rfl, HA, HK2, HO_3, HB⟩ := hrel
     have hl3_2 := (Kd.R_reads' HO_3.out).1
     rw [hl3_2] at HO_3
     (try simp only [hl3_2])
     cases gk with
     | zero => exact absurd HA.out (by simp [thistleref03_Orbit.l2])
     | succ k2 =>
      have H := HA.out
      clear HA
      simp only [thistleref03_Orbit.l2] at H
      by_cases c21 : x7_2 < (x3_2.length : Int)
      ·rw [if_pos c21] at H
       have c21b0 : decide (x7_2 < (x3_2.length : Int)) = true := decide_eq_true c21
       clear c21
       have H' := Aside0.mk H
       clear H
       go_wp2
       repeat (go_quiet (fail); try go_wp2)
       go_loopg [8] k2 (fun kq v8 w' => ∃ (x3_3 : List Int) (x8_3 : Int), v8 = .int .i64 x8_3 ∧ Aside0 (thistleref03_Orbit.l3 kq x3_3 x7_2 x8_3 = some r) ∧ Aside0 (kq ≤ k2) ∧ Aside0 (Kd.R (Kd.int .i32) 21 w' w.heap.size (fun _ => True) (.slice Ao20 x3_2.length co20) x3_3) ∧ Aside0 (Below w.heap.size w w'))
       case atStart => exact ⟨(x3_2), (x7_2), XShort.eqs, H', ⟨Nat.le_refl _⟩, ⟨by (try simp only [hl3_2]); (with_reducible repeat (first | apply Kd.R_alloc | apply Kd.R_drewN | apply Kd.R_drew)); exact HO_3.out⟩, ⟨XShort.bel⟩⟩
       case round =>
        clear H'
        try clear c1
        try clear c2
        try clear p2
        try clear q2
        try clear hx2
        try clear c4
        try clear c4b0
        try clear c5
        try clear c5b0
        try clear p6
        try clear c9
        try clear c9b0
        try clear c10
        try clear c10b0
        try clear c12
        try clear c15
        try clear c20
        try clear p20
        try clear q20
        try clear hx20
        try clear c21
        try clear c21b0
        try clear hx200_0
        try clear hx204_0
        try clear hx206_0
        try clear p2
        try clear p20
        try clear p200
        try clear p204
        try clear p206
        try clear p6
        try clear q2
        try clear q20
        try clear q200
        try clear q204
        try clear q206
        obtain ⟨x3_3, x8_3, rfl, HA, HK3, HO_3, HB⟩ := hrel
        have hl3_3 := (Kd.R_reads' HO_3.out).1
        rw [hl3_3] at HO_3
        (try simp only [hl3_3])
        cases gk with
        | zero => exact absurd HA.out (by simp [thistleref03_Orbit.l3])
        | succ k3 =>
         have H := HA.out
         clear HA
         simp only [thistleref03_Orbit.l3] at H
         by_cases c22 : x8_3 > 0
         ·rw [if_pos c22] at H
          have c22b0 : decide (0 < x8_3) = true := decide_eq_true c22
          clear c22
          by_cases c23 : 0 ≤ x8_3
          ·rw [if_pos c23] at H
           have c23b0 : decide (0 ≤ x8_3) = true := decide_eq_true c23
           clear c23
           by_cases c24 : x8_3 < (x3_3.length : Int)
           ·rw [if_pos c24] at H
            have c24b0 : decide (x8_3 < (x3_3.length : Int)) = true := decide_eq_true c24
            clear c24
            obtain ⟨ji25, hji25⟩ : ∃ j_ : Int, (wrap64 (x8_3 - 1)) = j_ := ⟨_, rfl⟩
            replace H : (if 0 ≤ (ji25) then (if (ji25) < (x3_3.length : Int) then (if (rd x3_3 x8_3) < (rd x3_3 (ji25)) then (thistleref03_Orbit.l3 k3 ((x3_3.set (x8_3 : Int).toNat (rd x3_3 (ji25))).set ((ji25) : Int).toNat (rd x3_3 x8_3)) x7_2 ji25) else (thistleref03_Orbit.l2 k3 x3_3 (wrap64 (x7_2 + 1)))) else (none)) else (none)) = some r := by first | (rw [hji25] at H; exact H) | (simp only [hji25] at H ⊢; exact H)
            have hji25w : (IntKind.i64.wrap (x8_3 - 1)) = ji25 := (i64_w _).trans hji25
            by_cases c26 : 0 ≤ (ji25)
            ·rw [if_pos c26] at H
             have c26b0 : decide (0 ≤ (ji25)) = true := decide_eq_true c26
             clear c26
             by_cases c27 : (ji25) < (x3_3.length : Int)
             ·rw [if_pos c27] at H
              have c27b0 : decide ((ji25) < (x3_3.length : Int)) = true := decide_eq_true c27
              clear c27
              by_cases c28 : (rd x3_3 x8_3) < (rd x3_3 (ji25))
              ·rw [if_pos c28] at H
               have c28b0 : decide ((rd x3_3 x8_3) < (rd x3_3 (ji25))) = true := decide_eq_true c28
               clear c28
               obtain ⟨y214, hy214⟩ : ∃ y_ : List Int, y_ = (x3_3.set (x8_3 : Int).toNat (rd x3_3 (ji25))) := ⟨_, rfl⟩
               replace H : (thistleref03_Orbit.l3 k3 (y214.set ((ji25) : Int).toNat (rd x3_3 x8_3)) x7_2 ji25) = some r := by first | (rw [hy214]; with_reducible exact H) | (have H2_ := (Option.bind_some _ _).symm.trans H; rw [hy214]; with_reducible exact H2_) | (have H2_ := (Option.bind_some _ _).symm.trans H; with_reducible exact H2_) | with_reducible exact H | (rw [hy214]; exact H) | exact H
               have Ny214 := Aside0.mk hy214
               clear hy214
               obtain ⟨y215, hy215⟩ : ∃ y_ : List Int, y_ = (y214.set ((ji25) : Int).toNat (rd x3_3 x8_3)) := ⟨_, rfl⟩
               replace H : (thistleref03_Orbit.l3 k3 y215 x7_2 ji25) = some r := by first | (rw [hy215]; with_reducible exact H) | (have H2_ := (Option.bind_some _ _).symm.trans H; rw [hy215]; with_reducible exact H2_) | (have H2_ := (Option.bind_some _ _).symm.trans H; with_reducible exact H2_) | with_reducible exact H | (rw [hy215]; exact H) | exact H
               have Ny215 := Aside0.mk hy215
               clear hy215
               have H' := Aside0.mk H
               clear H
               have p210 : 0 ≤ (x8_3 : Int) := of_decide_eq_true XShort.asm
               have q210 : x8_3 < (x3_3.length : Int) := of_decide_eq_true XShort.asm
               obtain ⟨ad210, e210, hx210_0⟩ := Kd.at_int (Kd.R_reads' HO_3.out).2.2 x8_3 p210 q210
               cases e210
               replace p210 := eq_true p210
               replace q210 := eq_true q210
               have p211 : 0 ≤ ((ji25) : Int) := of_decide_eq_true XShort.asm
               have q211 : (ji25) < (x3_3.length : Int) := of_decide_eq_true XShort.asm
               obtain ⟨ad211, e211, hx211_0⟩ := Kd.at_int (Kd.R_reads' HO_3.out).2.2 (ji25) p211 q211
               obtain rfl : ad210 = ad211 := (by injection e211)
               replace p211 := eq_true p211
               replace q211 := eq_true q211
               have p212 : 0 ≤ (x8_3 : Int) := of_decide_eq_true XShort.asm
               have q212 : x8_3 < (x3_3.length : Int) := of_decide_eq_true XShort.asm
               obtain ⟨ad212, e212, hx212_0⟩ := Kd.at_int (Kd.R_reads' HO_3.out).2.2 x8_3 p212 q212
               obtain rfl : ad210 = ad212 := (by injection e212)
               replace p212 := eq_true p212
               replace q212 := eq_true q212
               have p213 : 0 ≤ ((ji25) : Int) := of_decide_eq_true XShort.asm
               have q213 : (ji25) < (x3_3.length : Int) := of_decide_eq_true XShort.asm
               obtain ⟨ad213, e213, hx213_0⟩ := Kd.at_int (Kd.R_reads' HO_3.out).2.2 (ji25) p213 q213
               obtain rfl : ad210 = ad213 := (by injection e213)
               replace p213 := eq_true p213
               replace q213 := eq_true q213
               have p29 : 0 ≤ (x8_3 : Int) := of_decide_eq_true XShort.asm
               have q29 : (x8_3 : Int) < ((x3_3.length : Int) : Int) := of_decide_eq_true XShort.asm
               obtain ⟨go29, co29, eo29, gb29, gl29, cl29, HG29⟩ := Kd.R_form HO_3.out (by omega)
               (first | cases eo29 | (injection eo29 with ea_ en_ ec_; (first | subst ea_ | (injection ea_ with ea_; subst ea_)); subst ec_; clear en_))
               have GB29 := Aside0.mk gb29
               have GG29 := Aside0.mk HG29
               clear gb29 gl29 HG29
               (first | simp only [add_plain] at hx210_0 | skip)
               (first | simp only [add_plain] at hx211_0 | skip)
               (first | simp only [add_plain] at hx212_0 | skip)
               (first | simp only [add_plain] at hx213_0 | skip)
               obtain ⟨hx29_0, hf29_0⟩ := Kd.R_celln 0 HO_3.out (x8_3 : Int) p29 q29
               replace p29 := eq_true p29
               replace q29 := eq_true q29
               obtain ⟨hy31_, hz31_⟩ := Kd.R_celln 0 HO_3.out (x8_3 : Int) (of_decide_eq_true XShort.asm) (of_decide_eq_true XShort.asm)
               have HP31 := Kd.R_putg HO_3.out (x8_3 : Int) (rd x3_3 (ji25))
               go_wp2_with (first | ((with_reducible refine gate_store (t := 21) (p := 77) rfl ?_); (try (rw [drewN_self wr]; generalize hq_ : World.drewN wr _ = wr; have n0_ := Aside0.mk (Kd.R_at hq_ HO_3.out); have n1_ := Aside0.mk (below_at hq_ HB.out); clear hq_ HO_3 HB; have HO_3 := n0_; have HB := n1_; clear n0_ n1_; (try (obtain ⟨hy31_, hz31_⟩ := Kd.R_celln 0 HO_3.out (x8_3 : Int) (of_decide_eq_true XShort.asm) (of_decide_eq_true XShort.asm))); (try (have HP31 := Kd.R_putg HO_3.out (x8_3 : Int) (rd x3_3 (ji25)))))); refine store_event (t := 21) (p := 77) (v := ?vo_w32) (w1 := (wr.setCell ⟨go29, (x8_3 : Int).toNat, none⟩ (.int .i32 (rd x3_3 (ji25))))) ?hg ?ho ?hn ?hr ?_; (case ho => rfl); (case hg => rfl); (case hn => rfl); (case hr => first | (go_simp; done) | (go_simp; rfl)); intro w32 hw; have hg : wr.grownBy w32 (some go29) := (by rw [hw]; exact HP31.2); have hp_ : Kd.R (Kd.int .i32) 21 w32 w.heap.size (fun _ => True) (.slice (some ⟨go29, 0, none⟩) x3_3.length co20) y214 := (by rw [hw, Ny214.out]; exact HP31.1); clear HP31; have n0_ := Aside0.mk (hp_); have n1_ := Aside0.mk ((by rw [hw]; exact below_set (HB.out) GB29.out : Below w.heap.size w w32)); clear HO_3; clear HB; have HO_3 := n0_; have HB := n1_; clear n0_ n1_; clear hg hw hp_; have p30 : 0 ≤ ((ji25) : Int) := of_decide_eq_true XShort.asm; have q30 : ((ji25) : Int) < ((x3_3.length : Int) : Int) := of_decide_eq_true XShort.asm; obtain ⟨hx30_0, hf30_0⟩ := Kd.R_celln 0 HO_3.out ((ji25) : Int) p30 q30; replace p30 := eq_true p30; replace q30 := eq_true q30; obtain ⟨hy33_, hz33_⟩ := Kd.R_celln 0 HO_3.out ((ji25) : Int) (of_decide_eq_true XShort.asm) (of_decide_eq_true XShort.asm); have HP33 := Kd.R_putg HO_3.out ((ji25) : Int) (rd x3_3 x8_3)) | ((with_reducible refine gate_store (t := 21) (p := 82) rfl ?_); (try (rw [drewN_self w32]; generalize hq_ : World.drewN w32 _ = w32; have n0_ := Aside0.mk (Kd.R_at hq_ HO_3.out); have n1_ := Aside0.mk (below_at hq_ HB.out); clear hq_ HO_3 HB; have HO_3 := n0_; have HB := n1_; clear n0_ n1_; (try (obtain ⟨hy33_, hz33_⟩ := Kd.R_celln 0 HO_3.out ((ji25) : Int) (of_decide_eq_true XShort.asm) (of_decide_eq_true XShort.asm))); (try (have HP33 := Kd.R_putg HO_3.out ((ji25) : Int) (rd x3_3 x8_3))))); refine store_event (t := 21) (p := 82) (v := ?vo_w34) (w1 := (w32.setCell ⟨go29, ((ji25) : Int).toNat, none⟩ (.int .i32 (rd x3_3 x8_3)))) ?hg ?ho ?hn ?hr ?_; (case ho => rfl); (case hg => rfl); (case hn => rfl); (case hr => first | (go_simp; done) | (go_simp; rfl)); intro w34 hw; have hg : w32.grownBy w34 (some go29) := (by rw [hw]; exact HP33.2); have hp_ : Kd.R (Kd.int .i32) 21 w34 w.heap.size (fun _ => True) (.slice (some ⟨go29, 0, none⟩) x3_3.length co20) y215 := (by rw [hw, Ny215.out]; exact HP33.1); clear HP33; have n0_ := Aside0.mk (hp_); have n1_ := Aside0.mk ((by rw [hw]; exact below_set (HB.out) GB29.out : Below w.heap.size w w34)); clear HO_3; clear HB; have HO_3 := n0_; have HB := n1_; clear n0_ n1_; clear hg hw hp_))
               repeat (go_quiet (first | ((with_reducible refine gate_store (t := 21) (p := 77) rfl ?_); (try (rw [drewN_self wr]; generalize hq_ : World.drewN wr _ = wr; have n0_ := Aside0.mk (Kd.R_at hq_ HO_3.out); have n1_ := Aside0.mk (below_at hq_ HB.out); clear hq_ HO_3 HB; have HO_3 := n0_; have HB := n1_; clear n0_ n1_; (try (obtain ⟨hy31_, hz31_⟩ := Kd.R_celln 0 HO_3.out (x8_3 : Int) (of_decide_eq_true XShort.asm) (of_decide_eq_true XShort.asm))); (try (have HP31 := Kd.R_putg HO_3.out (x8_3 : Int) (rd x3_3 (ji25)))))); refine store_event (t := 21) (p := 77) (v := ?vo_w32) (w1 := (wr.setCell ⟨go29, (x8_3 : Int).toNat, none⟩ (.int .i32 (rd x3_3 (ji25))))) ?hg ?ho ?hn ?hr ?_; (case ho => rfl); (case hg => rfl); (case hn => rfl); (case hr => first | (go_simp; done) | (go_simp; rfl)); intro w32 hw; have hg : wr.grownBy w32 (some go29) := (by rw [hw]; exact HP31.2); have hp_ : Kd.R (Kd.int .i32) 21 w32 w.heap.size (fun _ => True) (.slice (some ⟨go29, 0, none⟩) x3_3.length co20) y214 := (by rw [hw, Ny214.out]; exact HP31.1); clear HP31; have n0_ := Aside0.mk (hp_); have n1_ := Aside0.mk ((by rw [hw]; exact below_set (HB.out) GB29.out : Below w.heap.size w w32)); clear HO_3; clear HB; have HO_3 := n0_; have HB := n1_; clear n0_ n1_; clear hg hw hp_; have p30 : 0 ≤ ((ji25) : Int) := of_decide_eq_true XShort.asm; have q30 : ((ji25) : Int) < ((x3_3.length : Int) : Int) := of_decide_eq_true XShort.asm; obtain ⟨hx30_0, hf30_0⟩ := Kd.R_celln 0 HO_3.out ((ji25) : Int) p30 q30; replace p30 := eq_true p30; replace q30 := eq_true q30; obtain ⟨hy33_, hz33_⟩ := Kd.R_celln 0 HO_3.out ((ji25) : Int) (of_decide_eq_true XShort.asm) (of_decide_eq_true XShort.asm); have HP33 := Kd.R_putg HO_3.out ((ji25) : Int) (rd x3_3 x8_3)) | ((with_reducible refine gate_store (t := 21) (p := 82) rfl ?_); (try (rw [drewN_self w32]; generalize hq_ : World.drewN w32 _ = w32; have n0_ := Aside0.mk (Kd.R_at hq_ HO_3.out); have n1_ := Aside0.mk (below_at hq_ HB.out); clear hq_ HO_3 HB; have HO_3 := n0_; have HB := n1_; clear n0_ n1_; (try (obtain ⟨hy33_, hz33_⟩ := Kd.R_celln 0 HO_3.out ((ji25) : Int) (of_decide_eq_true XShort.asm) (of_decide_eq_true XShort.asm))); (try (have HP33 := Kd.R_putg HO_3.out ((ji25) : Int) (rd x3_3 x8_3))))); refine store_event (t := 21) (p := 82) (v := ?vo_w34) (w1 := (w32.setCell ⟨go29, ((ji25) : Int).toNat, none⟩ (.int .i32 (rd x3_3 x8_3)))) ?hg ?ho ?hn ?hr ?_; (case ho => rfl); (case hg => rfl); (case hn => rfl); (case hr => first | (go_simp; done) | (go_simp; rfl)); intro w34 hw; have hg : w32.grownBy w34 (some go29) := (by rw [hw]; exact HP33.2); have hp_ : Kd.R (Kd.int .i32) 21 w34 w.heap.size (fun _ => True) (.slice (some ⟨go29, 0, none⟩) x3_3.length co20) y215 := (by rw [hw, Ny215.out]; exact HP33.1); clear HP33; have n0_ := Aside0.mk (hp_); have n1_ := Aside0.mk ((by rw [hw]; exact below_set (HB.out) GB29.out : Below w.heap.size w w34)); clear HO_3; clear HB; have HO_3 := n0_; have HB := n1_; clear n0_ n1_; clear hg hw hp_)); try go_wp2_with (first | ((with_reducible refine gate_store (t := 21) (p := 77) rfl ?_); (try (rw [drewN_self wr]; generalize hq_ : World.drewN wr _ = wr; have n0_ := Aside0.mk (Kd.R_at hq_ HO_3.out); have n1_ := Aside0.mk (below_at hq_ HB.out); clear hq_ HO_3 HB; have HO_3 := n0_; have HB := n1_; clear n0_ n1_; (try (obtain ⟨hy31_, hz31_⟩ := Kd.R_celln 0 HO_3.out (x8_3 : Int) (of_decide_eq_true XShort.asm) (of_decide_eq_true XShort.asm))); (try (have HP31 := Kd.R_putg HO_3.out (x8_3 : Int) (rd x3_3 (ji25)))))); refine store_event (t := 21) (p := 77) (v := ?vo_w32) (w1 := (wr.setCell ⟨go29, (x8_3 : Int).toNat, none⟩ (.int .i32 (rd x3_3 (ji25))))) ?hg ?ho ?hn ?hr ?_; (case ho => rfl); (case hg => rfl); (case hn => rfl); (case hr => first | (go_simp; done) | (go_simp; rfl)); intro w32 hw; have hg : wr.grownBy w32 (some go29) := (by rw [hw]; exact HP31.2); have hp_ : Kd.R (Kd.int .i32) 21 w32 w.heap.size (fun _ => True) (.slice (some ⟨go29, 0, none⟩) x3_3.length co20) y214 := (by rw [hw, Ny214.out]; exact HP31.1); clear HP31; have n0_ := Aside0.mk (hp_); have n1_ := Aside0.mk ((by rw [hw]; exact below_set (HB.out) GB29.out : Below w.heap.size w w32)); clear HO_3; clear HB; have HO_3 := n0_; have HB := n1_; clear n0_ n1_; clear hg hw hp_; have p30 : 0 ≤ ((ji25) : Int) := of_decide_eq_true XShort.asm; have q30 : ((ji25) : Int) < ((x3_3.length : Int) : Int) := of_decide_eq_true XShort.asm; obtain ⟨hx30_0, hf30_0⟩ := Kd.R_celln 0 HO_3.out ((ji25) : Int) p30 q30; replace p30 := eq_true p30; replace q30 := eq_true q30; obtain ⟨hy33_, hz33_⟩ := Kd.R_celln 0 HO_3.out ((ji25) : Int) (of_decide_eq_true XShort.asm) (of_decide_eq_true XShort.asm); have HP33 := Kd.R_putg HO_3.out ((ji25) : Int) (rd x3_3 x8_3)) | ((with_reducible refine gate_store (t := 21) (p := 82) rfl ?_); (try (rw [drewN_self w32]; generalize hq_ : World.drewN w32 _ = w32; have n0_ := Aside0.mk (Kd.R_at hq_ HO_3.out); have n1_ := Aside0.mk (below_at hq_ HB.out); clear hq_ HO_3 HB; have HO_3 := n0_; have HB := n1_; clear n0_ n1_; (try (obtain ⟨hy33_, hz33_⟩ := Kd.R_celln 0 HO_3.out ((ji25) : Int) (of_decide_eq_true XShort.asm) (of_decide_eq_true XShort.asm))); (try (have HP33 := Kd.R_putg HO_3.out ((ji25) : Int) (rd x3_3 x8_3))))); refine store_event (t := 21) (p := 82) (v := ?vo_w34) (w1 := (w32.setCell ⟨go29, ((ji25) : Int).toNat, none⟩ (.int .i32 (rd x3_3 x8_3)))) ?hg ?ho ?hn ?hr ?_; (case ho => rfl); (case hg => rfl); (case hn => rfl); (case hr => first | (go_simp; done) | (go_simp; rfl)); intro w34 hw; have hg : w32.grownBy w34 (some go29) := (by rw [hw]; exact HP33.2); have hp_ : Kd.R (Kd.int .i32) 21 w34 w.heap.size (fun _ => True) (.slice (some ⟨go29, 0, none⟩) x3_3.length co20) y215 := (by rw [hw, Ny215.out]; exact HP33.1); clear HP33; have n0_ := Aside0.mk (hp_); have n1_ := Aside0.mk ((by rw [hw]; exact below_set (HB.out) GB29.out : Below w.heap.size w w34)); clear HO_3; clear HB; have HO_3 := n0_; have HB := n1_; clear n0_ n1_; clear hg hw hp_)))
               (try simp only [← hl3_3])
               go_roundg k3
               case measure => have := HK1.out; have := HK2.out; have := HK3.out; omega
               case rel => exact ⟨(y215), (ji25), (by first | rfl | (simp; done) | (simp only [← hji25] <;> (first | rfl | simp)) | (simp [*]; done)), H', ⟨by have := HK1.out; have := HK2.out; have := HK3.out; omega⟩, ⟨by (try simp only [hl3_2]); (try simp only [hl3_3]); (with_reducible repeat (first | apply Kd.R_alloc | apply Kd.R_drewN | apply Kd.R_drew)); exact HO_3.out⟩, ⟨XShort.bel⟩⟩
              ·rw [if_neg c28] at H
               have c28b0 : decide ((rd x3_3 x8_3) < (rd x3_3 (ji25))) = false := decide_eq_false c28
               clear c28
               have H' := Aside0.mk H
               clear H
               have p210 : 0 ≤ (x8_3 : Int) := of_decide_eq_true XShort.asm
               have q210 : x8_3 < (x3_3.length : Int) := of_decide_eq_true XShort.asm
               obtain ⟨ad210, e210, hx210_0⟩ := Kd.at_int (Kd.R_reads' HO_3.out).2.2 x8_3 p210 q210
               cases e210
               replace p210 := eq_true p210
               replace q210 := eq_true q210
               have p211 : 0 ≤ ((ji25) : Int) := of_decide_eq_true XShort.asm
               have q211 : (ji25) < (x3_3.length : Int) := of_decide_eq_true XShort.asm
               obtain ⟨ad211, e211, hx211_0⟩ := Kd.at_int (Kd.R_reads' HO_3.out).2.2 (ji25) p211 q211
               obtain rfl : ad210 = ad211 := (by injection e211)
               replace p211 := eq_true p211
               replace q211 := eq_true q211
               go_wp2
               repeat (go_quiet (fail); try go_wp2)
               (try simp only [← hl3_2, ← hl3_3])
               go_roundg k3
               case measure => have := HK1.out; have := HK2.out; have := HK3.out; omega
               case rel => exact ⟨(x3_3), (wrap64 (x7_2 + 1)), XShort.eqs, H', ⟨by have := HK1.out; have := HK2.out; have := HK3.out; omega⟩, ⟨by (try simp only [hl3_2]); (try simp only [hl3_3]); (with_reducible repeat (first | apply Kd.R_alloc | apply Kd.R_drewN | apply Kd.R_drew)); exact HO_3.out⟩, ⟨XShort.bel⟩⟩
             ·rw [if_neg c27] at H
              exact absurd H (by simp)
            ·rw [if_neg c26] at H
             exact absurd H (by simp)
           ·rw [if_neg c24] at H
            exact absurd H (by simp)
          ·rw [if_neg c23] at H
           exact absurd H (by simp)
         ·rw [if_neg c22] at H
          have c22b0 : decide (0 < x8_3) = false := decide_eq_false c22
          clear c22
          have H' := Aside0.mk H
          clear H
          go_wp2
          repeat (go_quiet (fail); try go_wp2)
          (try simp only [← hl3_2, ← hl3_3])
          go_roundg k3
          case measure => have := HK1.out; have := HK2.out; have := HK3.out; omega
          case rel => exact ⟨(x3_3), (wrap64 (x7_2 + 1)), XShort.eqs, H', ⟨by have := HK1.out; have := HK2.out; have := HK3.out; omega⟩, ⟨by (try simp only [hl3_2]); (try simp only [hl3_3]); (with_reducible repeat (first | apply Kd.R_alloc | apply Kd.R_drewN | apply Kd.R_drew)); exact HO_3.out⟩, ⟨XShort.bel⟩⟩
      ·rw [if_neg c21] at H
       have c21b0 : decide (x7_2 < (x3_2.length : Int)) = false := decide_eq_false c21
       clear c21
       obtain rfl := Option.some.inj H
       go_wp2
       repeat (go_quiet (fail); try go_wp2)
       go_ret
       exact ⟨_, by first | rfl | (simp [errW_none, errW_some] <;> rfl) | (simp [*, errW_none, errW_some] <;> rfl), by (with_reducible repeat (first | apply Kd.R_alloc | apply Kd.R_drewN | apply Kd.R_drew)); exact HO_3.out, XShort.bel⟩

/-! ### thistleref02_least: function 85 -/
def thistleref02_least.f (a0 : Int) (a1 : Int) : Option (Int) := if a0 < a1 then (some a0) else (some a1)
set_option maxHeartbeats 8000000 in
set_option maxRecDepth 100000 in
theorem thistleref02_least.calls (a0 : Int) (a1 : Int) (r : Int) (w : World) (h : thistleref02_least.f a0 a1 = some r) :
  Calls Tryd.prog 85 #[.int .i64 a0, .int .i64 a1] w fun e w' => e = .returned (.int .i64 r) ∧ Drawn0 w w' := by
 have H : (if a0 < a1 then (some a0) else (some a1)) = some r := h
 clear h
 by_cases c3 : a0 < a1
 ·rw [if_pos c3] at H
  have c3b0 : decide (a0 < a1) = true := decide_eq_true c3
  clear c3
  obtain rfl := Option.some.inj H
  go_enter Tryd.func85, Tryd.ntmps85
  go_wp2
  go_ret
  exact ⟨XShort.eqs, by repeat (first | exact Drawn0.refl _ | apply Drawn0.step)⟩
 ·rw [if_neg c3] at H
  have c3b0 : decide (a0 < a1) = false := decide_eq_false c3
  clear c3
  obtain rfl := Option.some.inj H
  go_enter Tryd.func85, Tryd.ntmps85
  go_wp2
  go_ret
  exact ⟨XShort.eqs, by repeat (first | exact Drawn0.refl _ | apply Drawn0.step)⟩

end Go.Proofs.YtcpjflgiimjfmaaDoor.XF
