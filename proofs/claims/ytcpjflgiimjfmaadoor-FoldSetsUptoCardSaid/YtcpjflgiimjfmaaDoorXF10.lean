/- WRITTEN BY A PROGRAM OF THIS SESSION (wip/tools/xprint.py, over the kit's printer): contracts of the functions that the seat's laws reach. -/
import Derived.Test.YtcpjflgiimjfmaaDoorXLibShort
import Derived.Test.YtcpjflgiimjfmaaDoorXF0
import Derived.Test.YtcpjflgiimjfmaaDoorXF5
import Derived.Test.YtcpjflgiimjfmaaDoorXF9
namespace Go.Proofs.YtcpjflgiimjfmaaDoor.XF
open Go.Proofs.YtcpjflgiimjfmaaDoor.XShort (o i)
open Go.RowKit Go.Proofs.YtcpjflgiimjfmaaDoorW.PrintWords Go.Proofs.YtcpjflgiimjfmaaDoorW.PrintLast Go.Proofs.YtcpjflgiimjfmaaDoorW.PrintMore
attribute [local go_sem] max2_int min2_int max_two min_two max_three min_three max_four min_four
set_option linter.unusedVariables false
set_option linter.unusedSimpArgs false

/-! ### thistleref02_pieces: function 43 -/
mutual
def thistleref02_pieces.l0 : Nat → List (List (S41)) → List Int → List (S73) → Int → Option ((List (S73)))
 | 0, _, _, _, _ => none
 | k + 1, x0, x3, x4, x5 => if x5 < (x4.length : Int) then (if 0 ≤ x5 then (if x3.length < 17592186044416 then ((some (x3 ++ [(rd_T73 x4 x5).f0] : List Int)).bind fun y256 => (if y256.length < 17592186044416 then (thistleref02_pieces.l0 k x0 (y256 ++ [wrap64 (((rd_T73 x4 x5).f1) + 1)]) x4 (wrap64 (x5 + 1))) else (none))) else (none)) else (none)) else (thistleref02_pieces.l1 k x0 x3 0)
def thistleref02_pieces.l1 : Nat → List (List (S41)) → List Int → Int → Option ((List (S73)))
 | 0, _, _, _ => none
 | k + 1, x0, x3, x6 => if x6 < (x0.length : Int) then (thistleref02_pieces.l2 k x0 x3 x6 0) else ((thistleref02_sorted.f k x3).bind fun t274 => (thistleref02_pieces.l3 k t274 ([] : List (S73)) 0))
def thistleref02_pieces.l2 : Nat → List (List (S41)) → List Int → Int → Int → Option ((List (S73)))
 | 0, _, _, _, _ => none
 | k + 1, x0, x3, x6, x7 => if 0 ≤ x6 then (if x6 < (x0.length : Int) then (if x7 < ((rd_L7 x0 x6).length : Int) then (if 0 ≤ x7 then (if x3.length < 17592186044416 then ((some (x3 ++ [wrap64 ((rd_T41 (rd_L7 x0 x6) x7).f0)] : List Int)).bind fun y266 => (if y266.length < 17592186044416 then (thistleref02_pieces.l2 k x0 (y266 ++ [wrap64 ((wrap64 ((rd_T41 (rd_L7 x0 x6) x7).f1)) + 1)]) x6 (wrap64 (x7 + 1))) else (none))) else (none)) else (none)) else (thistleref02_pieces.l1 k x0 x3 (wrap64 (x6 + 1)))) else (none)) else (none)
def thistleref02_pieces.l3 : Nat → List Int → List (S73) → Int → Option ((List (S73)))
 | 0, _, _, _ => none
 | k + 1, x3, x8, x9 => if (wrap64 (x9 + 1)) < (x3.length : Int) then (if 0 ≤ x9 then (if x9 < (x3.length : Int) then (if (rd x3 x9) ≥ 0 then (if (rd x3 x9) ≤ 1114367 then ((thistleref02_block.f k (wrap32 (rd x3 x9))).bind fun t280 => (if t280 ≥ 0 then (if 0 ≤ (wrap64 (x9 + 1)) then (if x8.length < 8796093022208 then (thistleref02_pieces.l3 k x3 (x8 ++ [(⟨rd x3 x9, wrap64 ((rd x3 (wrap64 (x9 + 1))) - 1)⟩ : S73)]) (wrap64 (x9 + 1))) else (none)) else (none)) else (thistleref02_pieces.l3 k x3 x8 (wrap64 (x9 + 1))))) else (thistleref02_pieces.l3 k x3 x8 (wrap64 (x9 + 1)))) else (thistleref02_pieces.l3 k x3 x8 (wrap64 (x9 + 1)))) else (none)) else (none)) else (some x8)
end
def thistleref02_pieces.f (k : Nat) (l0 : List (List (S41))) : Option ((List (S73))) := (thistleref02_blocks.f).bind fun t252 => (thistleref02_pieces.l0 k l0 ([] : List Int) t252 0)
theorem thistleref02_pieces.mono_l : ∀ k, (∀ y0 y1 y2 y3, LeO (thistleref02_pieces.l0 k y0 y1 y2 y3) (thistleref02_pieces.l0 (k + 1) y0 y1 y2 y3)) ∧ (∀ y0 y1 y2, LeO (thistleref02_pieces.l1 k y0 y1 y2) (thistleref02_pieces.l1 (k + 1) y0 y1 y2)) ∧ (∀ y0 y1 y2 y3, LeO (thistleref02_pieces.l2 k y0 y1 y2 y3) (thistleref02_pieces.l2 (k + 1) y0 y1 y2 y3)) ∧ (∀ y0 y1 y2, LeO (thistleref02_pieces.l3 k y0 y1 y2) (thistleref02_pieces.l3 (k + 1) y0 y1 y2))
 | 0 => ⟨fun _ _ _ _ r h => by simp [thistleref02_pieces.l0] at h, fun _ _ _ r h => by simp [thistleref02_pieces.l1] at h, fun _ _ _ _ r h => by simp [thistleref02_pieces.l2] at h, fun _ _ _ r h => by simp [thistleref02_pieces.l3] at h⟩
 | k + 1 => by
  obtain ⟨ih0, ih1, ih2, ih3⟩ := thistleref02_pieces.mono_l k
  refine ⟨?_, ?_, ?_, ?_⟩
  ·intro y0 y1 y2 y3
   unfold thistleref02_pieces.l0
   repeat' first
   | (with_reducible exact ih0 _ _ _ _)
   | (with_reducible exact ih1 _ _ _)
   | (with_reducible exact ih2 _ _ _ _)
   | (with_reducible exact ih3 _ _ _)
   | (with_reducible exact thistleref02_block.mono _ _)
   | (with_reducible exact thistleref02_sorted.mono _ _)
   | (with_reducible exact LeO.refl _)
   | (with_reducible exact LeO.none _)
   | (with_reducible refine LeO.ite ?_ ?_)
   | (with_reducible refine LeO.bind ?_ (fun _ => ?_))
   | exact ih0 _ _ _ _
   | exact ih1 _ _ _
   | exact ih2 _ _ _ _
   | exact ih3 _ _ _
   | exact thistleref02_block.mono _ _
   | exact thistleref02_sorted.mono _ _
   | exact LeO.none _
   | refine LeO.ite ?_ ?_
   | refine LeO.bind ?_ (fun _ => ?_)
  ·intro y0 y1 y2
   unfold thistleref02_pieces.l1
   repeat' first
   | (with_reducible exact ih0 _ _ _ _)
   | (with_reducible exact ih1 _ _ _)
   | (with_reducible exact ih2 _ _ _ _)
   | (with_reducible exact ih3 _ _ _)
   | (with_reducible exact thistleref02_block.mono _ _)
   | (with_reducible exact thistleref02_sorted.mono _ _)
   | (with_reducible exact LeO.refl _)
   | (with_reducible exact LeO.none _)
   | (with_reducible refine LeO.ite ?_ ?_)
   | (with_reducible refine LeO.bind ?_ (fun _ => ?_))
   | exact ih0 _ _ _ _
   | exact ih1 _ _ _
   | exact ih2 _ _ _ _
   | exact ih3 _ _ _
   | exact thistleref02_block.mono _ _
   | exact thistleref02_sorted.mono _ _
   | exact LeO.none _
   | refine LeO.ite ?_ ?_
   | refine LeO.bind ?_ (fun _ => ?_)
  ·intro y0 y1 y2 y3
   unfold thistleref02_pieces.l2
   repeat' first
   | (with_reducible exact ih0 _ _ _ _)
   | (with_reducible exact ih1 _ _ _)
   | (with_reducible exact ih2 _ _ _ _)
   | (with_reducible exact ih3 _ _ _)
   | (with_reducible exact thistleref02_block.mono _ _)
   | (with_reducible exact thistleref02_sorted.mono _ _)
   | (with_reducible exact LeO.refl _)
   | (with_reducible exact LeO.none _)
   | (with_reducible refine LeO.ite ?_ ?_)
   | (with_reducible refine LeO.bind ?_ (fun _ => ?_))
   | exact ih0 _ _ _ _
   | exact ih1 _ _ _
   | exact ih2 _ _ _ _
   | exact ih3 _ _ _
   | exact thistleref02_block.mono _ _
   | exact thistleref02_sorted.mono _ _
   | exact LeO.none _
   | refine LeO.ite ?_ ?_
   | refine LeO.bind ?_ (fun _ => ?_)
  ·intro y0 y1 y2
   unfold thistleref02_pieces.l3
   repeat' first
   | (with_reducible exact ih0 _ _ _ _)
   | (with_reducible exact ih1 _ _ _)
   | (with_reducible exact ih2 _ _ _ _)
   | (with_reducible exact ih3 _ _ _)
   | (with_reducible exact thistleref02_block.mono _ _)
   | (with_reducible exact thistleref02_sorted.mono _ _)
   | (with_reducible exact LeO.refl _)
   | (with_reducible exact LeO.none _)
   | (with_reducible refine LeO.ite ?_ ?_)
   | (with_reducible refine LeO.bind ?_ (fun _ => ?_))
   | exact ih0 _ _ _ _
   | exact ih1 _ _ _
   | exact ih2 _ _ _ _
   | exact ih3 _ _ _
   | exact thistleref02_block.mono _ _
   | exact thistleref02_sorted.mono _ _
   | exact LeO.none _
   | refine LeO.ite ?_ ?_
   | refine LeO.bind ?_ (fun _ => ?_)
theorem thistleref02_pieces.mono : ∀ a0 k, LeO (thistleref02_pieces.f k a0) (thistleref02_pieces.f (k + 1) a0) := by
 intro a0 k
 obtain ⟨ih0, ih1, ih2, ih3⟩ := thistleref02_pieces.mono_l k
 unfold thistleref02_pieces.f
 repeat' first
   | (with_reducible exact ih0 _ _ _ _)
   | (with_reducible exact ih1 _ _ _)
   | (with_reducible exact ih2 _ _ _ _)
   | (with_reducible exact ih3 _ _ _)
   | (with_reducible exact thistleref02_block.mono _ _)
   | (with_reducible exact thistleref02_sorted.mono _ _)
   | (with_reducible exact LeO.refl _)
   | (with_reducible exact LeO.none _)
   | (with_reducible refine LeO.ite ?_ ?_)
   | (with_reducible refine LeO.bind ?_ (fun _ => ?_))
   | exact ih0 _ _ _ _
   | exact ih1 _ _ _
   | exact ih2 _ _ _ _
   | exact ih3 _ _ _
   | exact thistleref02_block.mono _ _
   | exact thistleref02_sorted.mono _ _
   | exact LeO.none _
   | refine LeO.ite ?_ ?_
   | refine LeO.bind ?_ (fun _ => ?_)
def thistleref02_pieces.T22 : Bool × List (List Nat × List Nat) := (true, [([], []), ([], []), ([], []), ([1, 2], [1, 2]), ([3], [3]), ([], []), ([], []), ([6], [6]), ([5, 7], [5, 7]), ([8], [8]), ([9], [9]), ([4, 10], [4, 10]), ([11], [11]), ([0, 12], [0, 12]), ([13, 13, 0, 1, 2, 3, 4, 5, 6, 7, 8, 9, 10, 11, 12, 13], [0, 13])])
def thistleref02_pieces.B22 : List Nat := [0, 0, 0, 6, 14, 0, 0, 64, 224, 480, 992, 2046, 4094, 8191, 16383]
theorem thistleref02_pieces.tab22 : rtab .any (opsOf Tryd.f43 22) = thistleref02_pieces.T22 := by kernel_rfl
theorem thistleref02_pieces.bits22 : waitsOk thistleref02_pieces.T22.2 thistleref02_pieces.B22 = true := by kernel_rfl
set_option maxHeartbeats 8000000 in
set_option maxRecDepth 100000 in
theorem thistleref02_pieces.calls (k : Nat) (A0 : Option Addr) (c0 : Nat) (l0 : List (List (S41))) (r : List (S73)) (w : World) (hr0 : Kd.C (Kd.slice 41 k41) w A0 l0.length l0) (hc0 : l0.length ≤ c0) (h : thistleref02_pieces.f k l0 = some r) :
  Calls Tryd.prog 43 #[.slice A0 l0.length c0] w fun e w' => ∃ v0_ : Value, e = .returned (v0_) ∧ Kd.R k73 73 w' w.heap.size (fun _ => True) v0_ r ∧ Below w.heap.size w w' := by
 have hu73 := Tryd.underlying73
 have HR0 := Aside0.mk hr0
 have HC0 := Aside0.mk hc0
 clear hr0 hc0
 have HB := Aside0.mk (Below.refl w.heap.size w)
 have H : ((thistleref02_blocks.f).bind fun t252 => (thistleref02_pieces.l0 k l0 ([] : List Int) t252 0)) = some r := h
 clear h
 replace H := Option.bind_eq_some_iff.mp H
 obtain ⟨t252, A20, H⟩ := H
 replace H : (thistleref02_pieces.l0 k l0 ([] : List Int) t252 0) = some r := H
 have A2 := Aside0.mk A20
 clear A20
 have H' := Aside0.mk H
 clear H
 go_enter Tryd.func43, Tryd.ntmps43
 go_wp2_with (first | ((with_reducible refine gate_callee (f := 64) rfl ?_); refine goesL_ (some 10) rfl rfl Tryd.func64 (by kernel_rfl) rfl #[] rfl (by (try simp only [List.map_toArray, List.map_cons, List.map_nil]); first | done | rfl | (simp only [List.length_drop, List.length_take]; rfl)) ?_; (with_reducible refine (thistleref02_blocks.calls  t252 _ A2.out).mono ?_); rintro e w3 ⟨v253, rfl, ho0, hb⟩; refine ⟨_, rfl, ?_⟩; have n0_ := Aside0.mk (Kd.R_lower ho0 (below_size XShort.bel)); have n1_ := Aside0.mk (below_step XShort.bel hb); clear HB; have HO254 := n0_; have HB := n1_; clear n0_ n1_; (try clear hb); (try clear hb2); (try clear hk); (try clear hi); (try clear ho0)))
 go_loopg [3, 5] k (fun kq v3 v5 w' => ∃ (x3_1 : List Int) (x5_1 : Int), v5 = .int .i64 x5_1 ∧ Aside0 (thistleref02_pieces.l0 kq l0 x3_1 t252 x5_1 = some r) ∧ Aside0 (kq ≤ k) ∧ Aside0 (Kd.R (Kd.int .i64) 3 w' w.heap.size (fun _ => True) v3 x3_1) ∧ Aside0 (Kd.R k73 73 w' w.heap.size (fun _ => True) v253 t252) ∧ Aside0 (Below w.heap.size w w'))
 case atStart => exact ⟨(([] : List Int)), (0), XShort.eqs, H', ⟨Nat.le_refl _⟩, ⟨by first | exact Kd.R_nil _ _ _ _ _ | exact Kd.N_nil _ _ _ _ _ | exact Kd.V_nil _ _ _ _ _ | exact Kd.Q_nil _ _ _ _ _ | exact Kd.S_nil _ _ _ _ _⟩, ⟨by (with_reducible repeat (first | apply Kd.R_alloc | apply Kd.R_drewN | apply Kd.R_drew)); exact HO254.out⟩, ⟨XShort.bel⟩⟩
 case round =>
  clear H'
  try clear p2
  obtain ⟨x3_1, x5_1, rfl, HA, HK1, HO_3, HO_4, HB⟩ := hrel
  cases gk with
  | zero => exact absurd HA.out (by simp [thistleref02_pieces.l0])
  | succ k1 =>
   have H := HA.out
   clear HA
   simp only [thistleref02_pieces.l0] at H
   by_cases c4 : x5_1 < (t252.length : Int)
   ·rw [if_pos c4] at H
    have c4b0 : decide (x5_1 < (t252.length : Int)) = true := decide_eq_true c4
    clear c4
    by_cases c5 : 0 ≤ x5_1
    ·rw [if_pos c5] at H
     have c5b0 : decide (0 ≤ x5_1) = true := decide_eq_true c5
     clear c5
     by_cases c6 : x3_1.length < 17592186044416
     ·rw [if_pos c6] at H
      have LMc6 := Aside0.mk c6
      clear c6
      obtain ⟨y256, hy256⟩ : ∃ y_ : List Int, y_ = (x3_1 ++ [(rd_T73 t252 x5_1).f0]) := ⟨_, rfl⟩
      replace H : (if y256.length < 17592186044416 then (thistleref02_pieces.l0 k1 l0 (y256 ++ [wrap64 (((rd_T73 t252 x5_1).f1) + 1)]) t252 (wrap64 (x5_1 + 1))) else (none)) = some r := by first | (rw [hy256]; with_reducible exact H) | (have H2_ := (Option.bind_some _ _).symm.trans H; rw [hy256]; with_reducible exact H2_) | (have H2_ := (Option.bind_some _ _).symm.trans H; with_reducible exact H2_) | with_reducible exact H | (rw [hy256]; exact H) | exact H
      have Ny256 := Aside0.mk hy256
      clear hy256
      by_cases c7 : y256.length < 17592186044416
      ·rw [if_pos c7] at H
       have LMc7 := Aside0.mk c7
       clear c7
       obtain ⟨y260, hy260⟩ : ∃ y_ : List Int, y_ = (y256 ++ [wrap64 (((rd_T73 t252 x5_1).f1) + 1)]) := ⟨_, rfl⟩
       replace H : (thistleref02_pieces.l0 k1 l0 y260 t252 (wrap64 (x5_1 + 1))) = some r := by first | (rw [hy260]; with_reducible exact H) | (have H2_ := (Option.bind_some _ _).symm.trans H; rw [hy260]; with_reducible exact H2_) | (have H2_ := (Option.bind_some _ _).symm.trans H; with_reducible exact H2_) | with_reducible exact H | (rw [hy260]; exact H) | exact H
       have Ny260 := Aside0.mk hy260
       clear hy260
       have H' := Aside0.mk H
       clear H
       obtain ⟨Ao8, co8, eo8⟩ := Kd.R_slice HO_4.out
       subst eo8
       have p255 : 0 ≤ (x5_1 : Int) := of_decide_eq_true XShort.asm
       have q255 : x5_1 < (t252.length : Int) := of_decide_eq_true XShort.asm
       obtain ⟨ad255, e255, hx255_0, hx255_1⟩ := at_T73 (Kd.R_reads' HO_4.out).2.2 x5_1 p255 q255
       cases e255
       replace p255 := eq_true p255
       replace q255 := eq_true q255
       go_wp2_with (first | ((with_reducible refine gate_builtin (b := .append) (xs := #[.tmp 17, .tmp 23]) rfl ?_); at_builtin; refine Kd.R_append (Kd.int .i64) (w0 := w) w.heap.size rfl (.tmp 17) (.tmp 23) 100 3 (.int .i64 0) 8 rfl Tryd.underlying100 info3 rfl (by decide) (by omega) u3 x3_1 ((rd_T73 t252 x5_1).f0) [.int .i64 ((rd_T73 t252 x5_1).f0)] (fun _ => True) (fun _ => False) rfl rfl ?aP (fun _ hk => hk.elim) ?aF ?aO ?aB ?aS ?aL ?_; (case aP => exact rfl); (case aB => exact XShort.bel); (case aF => exact (fun _ _ => trivial)); (case aO => exact (XShort.rr HO_3.out)); (case aS => exact (below_size XShort.bel)); (case aL => have := LMc6.out; omega); intro v257 w9 ho hb hg hat; rw [← Ny256.out] at ho; have n0_ := Aside0.mk (Kd.R_over' (XShort.rr HO_4.out) (Kd.R_typed (XShort.rr HO_3.out)) (by decide) hg); have n1_ := Aside0.mk (hb); have n2_ := Aside0.mk (ho); clear HO_4; clear HB; clear HO_3; have HO_4 := n0_; have HB := n1_; have HO258 := n2_; clear n0_ n1_ n2_; clear ho hb hg hat; have p259 : 0 ≤ (x5_1 : Int) := of_decide_eq_true XShort.asm; have q259 : x5_1 < (t252.length : Int) := of_decide_eq_true XShort.asm; obtain ⟨ad259, e259, hx259_0, hx259_1⟩ := at_T73 (Kd.R_reads' HO_4.out).2.2 x5_1 p259 q259; obtain rfl : ad255 = ad259 := (by injection e259); replace p259 := eq_true p259; replace q259 := eq_true q259) | ((with_reducible refine gate_builtin (b := .append) (xs := #[.tmp 25, .tmp 32]) rfl ?_); at_builtin; refine Kd.R_append (Kd.int .i64) (w0 := w) w.heap.size rfl (.tmp 25) (.tmp 32) 100 3 (.int .i64 0) 8 rfl Tryd.underlying100 info3 rfl (by decide) (by omega) v257 y256 (wrap64 (((rd_T73 t252 x5_1).f1) + 1)) [.int .i64 (wrap64 (((rd_T73 t252 x5_1).f1) + 1))] (fun _ => True) (fun _ => False) rfl rfl ?aP (fun _ hk => hk.elim) ?aF ?aO ?aB ?aS ?aL ?_; (case aP => exact rfl); (case aB => exact XShort.bel); (case aF => exact (fun _ _ => trivial)); (case aO => exact (XShort.rr HO258.out)); (case aS => exact (below_size XShort.bel)); (case aL => have := LMc7.out; omega); intro v261 w10 ho hb hg hat; rw [← Ny260.out] at ho; have n0_ := Aside0.mk (Kd.R_over' (XShort.rr HO_4.out) (Kd.R_typed (XShort.rr HO258.out)) (by decide) hg); have n1_ := Aside0.mk (hb); have n2_ := Aside0.mk (ho); clear HO_4; clear HB; clear HO258; have HO_4 := n0_; have HB := n1_; have HO262 := n2_; clear n0_ n1_ n2_; clear ho hb hg hat))
       go_roundg k1
       case measure => have := HK1.out; omega
       case rel => exact ⟨(y260), (wrap64 (x5_1 + 1)), XShort.eqs, H', ⟨by have := HK1.out; omega⟩, ⟨by (with_reducible repeat (first | apply Kd.R_alloc | apply Kd.R_drewN | apply Kd.R_drew)); exact HO262.out⟩, ⟨by (with_reducible repeat (first | apply Kd.R_alloc | apply Kd.R_drewN | apply Kd.R_drew)); exact HO_4.out⟩, ⟨XShort.bel⟩⟩
      ·rw [if_neg c7] at H
       exact absurd H (by simp)
     ·rw [if_neg c6] at H
      exact absurd H (by simp)
    ·rw [if_neg c5] at H
     exact absurd H (by simp)
   ·rw [if_neg c4] at H
    have c4b0 : decide (x5_1 < (t252.length : Int)) = false := decide_eq_false c4
    clear c4
    have H' := Aside0.mk H
    clear H
    obtain ⟨Ao11, co11, eo11⟩ := Kd.R_slice HO_4.out
    subst eo11
    go_wp2
    go_loopg [3, 6] k1 (fun kq v3 v6 w' => ∃ (x3_2 : List Int) (x6_2 : Int), v6 = .int .i64 x6_2 ∧ Aside0 (thistleref02_pieces.l1 kq l0 x3_2 x6_2 = some r) ∧ Aside0 (kq ≤ k1) ∧ Aside0 (Kd.R (Kd.int .i64) 3 w' w.heap.size (fun _ => True) v3 x3_2) ∧ Aside0 (Below w.heap.size w w'))
    case atStart => exact ⟨(x3_1), (0), XShort.eqs, H', ⟨Nat.le_refl _⟩, ⟨by (with_reducible repeat (first | apply Kd.R_alloc | apply Kd.R_drewN | apply Kd.R_drew)); exact HO_3.out⟩, ⟨XShort.bel⟩⟩
    case round =>
     clear H'
     try clear p2
     try clear q2
     try clear hx2
     try clear c4
     try clear c4b0
     try clear c5
     try clear c5b0
     try clear c6
     try clear p6
     try clear c7
     try clear hx255_0
     try clear hx255_1
     try clear hx259_0
     try clear hx259_1
     try clear p2
     try clear p255
     try clear p259
     try clear q255
     try clear q259
     obtain ⟨x3_2, x6_2, rfl, HA, HK2, HO_3, HB⟩ := hrel
     cases gk with
     | zero => exact absurd HA.out (by simp [thistleref02_pieces.l1])
     | succ k2 =>
      have H := HA.out
      clear HA
      simp only [thistleref02_pieces.l1] at H
      by_cases c12 : x6_2 < (l0.length : Int)
      ·rw [if_pos c12] at H
       have c12b0 : decide (x6_2 < (l0.length : Int)) = true := decide_eq_true c12
       clear c12
       have H' := Aside0.mk H
       clear H
       go_wp2
       go_loopg [3, 7] k2 (fun kq v3 v7 w' => ∃ (x3_3 : List Int) (x7_3 : Int), v7 = .int .i64 x7_3 ∧ Aside0 (thistleref02_pieces.l2 kq l0 x3_3 x6_2 x7_3 = some r) ∧ Aside0 (kq ≤ k2) ∧ Aside0 (Kd.R (Kd.int .i64) 3 w' w.heap.size (fun _ => True) v3 x3_3) ∧ Aside0 (Below w.heap.size w w'))
       case atStart => exact ⟨(x3_2), (0), XShort.eqs, H', ⟨Nat.le_refl _⟩, ⟨by (with_reducible repeat (first | apply Kd.R_alloc | apply Kd.R_drewN | apply Kd.R_drew)); exact HO_3.out⟩, ⟨XShort.bel⟩⟩
       case round =>
        clear H'
        try clear c1
        try clear p2
        try clear q2
        try clear hx2
        try clear c4
        try clear c4b0
        try clear c5
        try clear c5b0
        try clear c6
        try clear p6
        try clear c7
        try clear c12
        try clear c12b0
        try clear hx255_0
        try clear hx255_1
        try clear hx259_0
        try clear hx259_1
        try clear p2
        try clear p255
        try clear p259
        try clear p6
        try clear q2
        try clear q255
        try clear q259
        obtain ⟨x3_3, x7_3, rfl, HA, HK3, HO_3, HB⟩ := hrel
        cases gk with
        | zero => exact absurd HA.out (by simp [thistleref02_pieces.l2])
        | succ k3 =>
         have H := HA.out
         clear HA
         simp only [thistleref02_pieces.l2] at H
         by_cases c13 : 0 ≤ x6_2
         ·rw [if_pos c13] at H
          have c13b0 : decide (0 ≤ x6_2) = true := decide_eq_true c13
          clear c13
          by_cases c14 : x6_2 < (l0.length : Int)
          ·rw [if_pos c14] at H
           have c14b0 : decide (x6_2 < (l0.length : Int)) = true := decide_eq_true c14
           clear c14
           by_cases c15 : x7_3 < ((rd_L7 l0 x6_2).length : Int)
           ·rw [if_pos c15] at H
            have c15b0 : decide (x7_3 < ((rd_L7 l0 x6_2).length : Int)) = true := decide_eq_true c15
            clear c15
            by_cases c16 : 0 ≤ x7_3
            ·rw [if_pos c16] at H
             have c16b0 : decide (0 ≤ x7_3) = true := decide_eq_true c16
             clear c16
             by_cases c17 : x3_3.length < 17592186044416
             ·rw [if_pos c17] at H
              have LMc17 := Aside0.mk c17
              clear c17
              obtain ⟨y266, hy266⟩ : ∃ y_ : List Int, y_ = (x3_3 ++ [wrap64 ((rd_T41 (rd_L7 l0 x6_2) x7_3).f0)]) := ⟨_, rfl⟩
              replace H : (if y266.length < 17592186044416 then (thistleref02_pieces.l2 k3 l0 (y266 ++ [wrap64 ((wrap64 ((rd_T41 (rd_L7 l0 x6_2) x7_3).f1)) + 1)]) x6_2 (wrap64 (x7_3 + 1))) else (none)) = some r := by first | (rw [hy266]; with_reducible exact H) | (have H2_ := (Option.bind_some _ _).symm.trans H; rw [hy266]; with_reducible exact H2_) | (have H2_ := (Option.bind_some _ _).symm.trans H; with_reducible exact H2_) | with_reducible exact H | (rw [hy266]; exact H) | exact H
              have Ny266 := Aside0.mk hy266
              clear hy266
              by_cases c18 : y266.length < 17592186044416
              ·rw [if_pos c18] at H
               have LMc18 := Aside0.mk c18
               clear c18
               obtain ⟨y271, hy271⟩ : ∃ y_ : List Int, y_ = (y266 ++ [wrap64 ((wrap64 ((rd_T41 (rd_L7 l0 x6_2) x7_3).f1)) + 1)]) := ⟨_, rfl⟩
               replace H : (thistleref02_pieces.l2 k3 l0 y271 x6_2 (wrap64 (x7_3 + 1))) = some r := by first | (rw [hy271]; with_reducible exact H) | (have H2_ := (Option.bind_some _ _).symm.trans H; rw [hy271]; with_reducible exact H2_) | (have H2_ := (Option.bind_some _ _).symm.trans H; with_reducible exact H2_) | with_reducible exact H | (rw [hy271]; exact H) | exact H
               have Ny271 := Aside0.mk hy271
               clear hy271
               have H' := Aside0.mk H
               clear H
               have p263 : 0 ≤ (x6_2 : Int) := of_decide_eq_true XShort.asm
               have q263 : x6_2 < (l0.length : Int) := of_decide_eq_true XShort.asm
               obtain ⟨ad263, A263_0, c263_0, e263, hx263_0, hl263_0, hi263_0⟩ := at_L7 HR0.out x6_2 p263 q263
               cases e263
               replace hx263_0 := (HB.out.cell (World.block_lt_of_cell? w _ hx263_0)).trans hx263_0
               have HR263_0 := Aside0.mk hi263_0
               have HC263_0 := Aside0.mk hl263_0
               clear hi263_0 hl263_0
               replace p263 := eq_true p263
               replace q263 := eq_true q263
               have p264 : 0 ≤ (x6_2 : Int) := of_decide_eq_true XShort.asm
               have q264 : x6_2 < (l0.length : Int) := of_decide_eq_true XShort.asm
               obtain ⟨ad264, A264_0, c264_0, e264, hx264_0, hl264_0, hi264_0⟩ := at_L7 HR0.out x6_2 p264 q264
               obtain rfl : ad263 = ad264 := (by injection e264)
               replace hx264_0 := (HB.out.cell (World.block_lt_of_cell? w _ hx264_0)).trans hx264_0
               have HR264_0 := Aside0.mk hi264_0
               have HC264_0 := Aside0.mk hl264_0
               clear hi264_0 hl264_0
               replace p264 := eq_true p264
               replace q264 := eq_true q264
               have ea_ := Option.some.inj (hx263_0.symm.trans hx264_0)
               injection ea_ with ea_ en_ ec_
               subst ea_
               subst ec_
               clear en_
               have p265 : 0 ≤ (x7_3 : Int) := of_decide_eq_true XShort.asm
               have q265 : x7_3 < ((rd_L7 l0 x6_2).length : Int) := of_decide_eq_true XShort.asm
               obtain ⟨ad265, e265, hx265_0, hx265_1⟩ := at_T41 HR264_0.out x7_3 p265 q265
               cases e265
               replace hx265_0 := (HB.out.cell (World.block_lt_of_cell? w _ hx265_0)).trans hx265_0
               replace hx265_1 := (HB.out.cell (World.block_lt_of_cell? w _ hx265_1)).trans hx265_1
               replace p265 := eq_true p265
               replace q265 := eq_true q265
               go_wp2_with (first | ((with_reducible refine gate_builtin (b := .append) (xs := #[.tmp 49, .tmp 59]) rfl ?_); at_builtin; refine Kd.R_append (Kd.int .i64) (w0 := w) w.heap.size rfl (.tmp 49) (.tmp 59) 100 3 (.int .i64 0) 8 rfl Tryd.underlying100 info3 rfl (by decide) (by omega) u3 x3_3 (wrap64 ((rd_T41 (rd_L7 l0 x6_2) x7_3).f0)) [.int .i64 (wrap64 ((rd_T41 (rd_L7 l0 x6_2) x7_3).f0))] (fun _ => True) (fun _ => False) rfl rfl ?aP (fun _ hk => hk.elim) ?aF ?aO ?aB ?aS ?aL ?_; (case aP => exact rfl); (case aB => exact XShort.bel); (case aF => exact (fun _ _ => trivial)); (case aO => exact (XShort.rr HO_3.out)); (case aS => exact (below_size XShort.bel)); (case aL => have := LMc17.out; omega); intro v267 w19 ho hb hg hat; rw [← Ny266.out] at ho; have n0_ := Aside0.mk (hb); have n1_ := Aside0.mk (ho); clear HB; clear HO_3; have HB := n0_; have HO268 := n1_; clear n0_ n1_; clear ho hb hg hat; have p269 : 0 ≤ (x6_2 : Int) := of_decide_eq_true XShort.asm; have q269 : x6_2 < (l0.length : Int) := of_decide_eq_true XShort.asm; obtain ⟨ad269, A269_0, c269_0, e269, hx269_0, hl269_0, hi269_0⟩ := at_L7 HR0.out x6_2 p269 q269; obtain rfl : ad263 = ad269 := (by injection e269); replace hx269_0 := (HB.out.cell (World.block_lt_of_cell? w _ hx269_0)).trans hx269_0; have HR269_0 := Aside0.mk hi269_0; have HC269_0 := Aside0.mk hl269_0; clear hi269_0 hl269_0; replace p269 := eq_true p269; replace q269 := eq_true q269; have p270 : 0 ≤ (x7_3 : Int) := of_decide_eq_true XShort.asm; have q270 : x7_3 < ((rd_L7 l0 x6_2).length : Int) := of_decide_eq_true XShort.asm; obtain ⟨ad270, e270, hx270_0, hx270_1⟩ := at_T41 HR269_0.out x7_3 p270 q270; cases e270; replace hx270_0 := (HB.out.cell (World.block_lt_of_cell? w _ hx270_0)).trans hx270_0; replace hx270_1 := (HB.out.cell (World.block_lt_of_cell? w _ hx270_1)).trans hx270_1; replace p270 := eq_true p270; replace q270 := eq_true q270) | ((with_reducible refine gate_builtin (b := .append) (xs := #[.tmp 61, .tmp 72]) rfl ?_); at_builtin; refine Kd.R_append (Kd.int .i64) (w0 := w) w.heap.size rfl (.tmp 61) (.tmp 72) 100 3 (.int .i64 0) 8 rfl Tryd.underlying100 info3 rfl (by decide) (by omega) v267 y266 (wrap64 ((wrap64 ((rd_T41 (rd_L7 l0 x6_2) x7_3).f1)) + 1)) [.int .i64 (wrap64 ((wrap64 ((rd_T41 (rd_L7 l0 x6_2) x7_3).f1)) + 1))] (fun _ => True) (fun _ => False) rfl rfl ?aP (fun _ hk => hk.elim) ?aF ?aO ?aB ?aS ?aL ?_; (case aP => exact rfl); (case aB => exact XShort.bel); (case aF => exact (fun _ _ => trivial)); (case aO => exact (XShort.rr HO268.out)); (case aS => exact (below_size XShort.bel)); (case aL => have := LMc18.out; omega); intro v272 w20 ho hb hg hat; rw [← Ny271.out] at ho; have n0_ := Aside0.mk (hb); have n1_ := Aside0.mk (ho); clear HB; clear HO268; have HB := n0_; have HO273 := n1_; clear n0_ n1_; clear ho hb hg hat))
               go_roundg k3
               case measure => have := HK1.out; have := HK2.out; have := HK3.out; omega
               case rel => exact ⟨(y271), (wrap64 (x7_3 + 1)), XShort.eqs, H', ⟨by have := HK1.out; have := HK2.out; have := HK3.out; omega⟩, ⟨by (with_reducible repeat (first | apply Kd.R_alloc | apply Kd.R_drewN | apply Kd.R_drew)); exact HO273.out⟩, ⟨XShort.bel⟩⟩
              ·rw [if_neg c18] at H
               exact absurd H (by simp)
             ·rw [if_neg c17] at H
              exact absurd H (by simp)
            ·rw [if_neg c16] at H
             exact absurd H (by simp)
           ·rw [if_neg c15] at H
            have c15b0 : decide (x7_3 < ((rd_L7 l0 x6_2).length : Int)) = false := decide_eq_false c15
            clear c15
            have H' := Aside0.mk H
            clear H
            have p263 : 0 ≤ (x6_2 : Int) := of_decide_eq_true XShort.asm
            have q263 : x6_2 < (l0.length : Int) := of_decide_eq_true XShort.asm
            obtain ⟨ad263, A263_0, c263_0, e263, hx263_0, hl263_0, hi263_0⟩ := at_L7 HR0.out x6_2 p263 q263
            cases e263
            replace hx263_0 := (HB.out.cell (World.block_lt_of_cell? w _ hx263_0)).trans hx263_0
            have HR263_0 := Aside0.mk hi263_0
            have HC263_0 := Aside0.mk hl263_0
            clear hi263_0 hl263_0
            replace p263 := eq_true p263
            replace q263 := eq_true q263
            go_wp2
            go_roundg k3
            case measure => have := HK1.out; have := HK2.out; have := HK3.out; omega
            case rel => exact ⟨(x3_3), (wrap64 (x6_2 + 1)), XShort.eqs, H', ⟨by have := HK1.out; have := HK2.out; have := HK3.out; omega⟩, ⟨by (with_reducible repeat (first | apply Kd.R_alloc | apply Kd.R_drewN | apply Kd.R_drew)); exact HO_3.out⟩, ⟨XShort.bel⟩⟩
          ·rw [if_neg c14] at H
           exact absurd H (by simp)
         ·rw [if_neg c13] at H
          exact absurd H (by simp)
      ·rw [if_neg c12] at H
       have c12b0 : decide (x6_2 < (l0.length : Int)) = false := decide_eq_false c12
       clear c12
       replace H := Option.bind_eq_some_iff.mp H
       obtain ⟨t274, A210, H⟩ := H
       replace H : (thistleref02_pieces.l3 k2 t274 ([] : List (S73)) 0) = some r := H
       have A21 := Aside0.mk A210
       clear A210
       have H' := Aside0.mk H
       clear H
       obtain ⟨Ao22, co22, eo22⟩ := Kd.R_slice HO_3.out
       subst eo22
       go_wp2_with (first | ((with_reducible refine gate_callee (f := 65) rfl ?_); refine goesL_ (some 75) rfl rfl Tryd.func65 (by kernel_rfl) rfl #[.slice Ao22 x3_2.length co22] rfl (by (try simp only [List.map_toArray, List.map_cons, List.map_nil]); first | done | rfl | (simp only [List.length_drop, List.length_take]; rfl)) ?_; (with_reducible refine (thistleref02_sorted.calls k2 _ _ x3_2 t274 _ ?side1 ?side2 A21.out).mono ?_); (case side1 => repeat (first | exact (Kd.R_reads' HO_3.out).2.2 | (with_reducible refine Kd.C_alloc ?_ _) | (with_reducible refine Kd.C_drewN ?_ _) | (with_reducible refine Kd.C_drew ?_))); (case side2 => exact (Kd.R_reads' HO_3.out).2.1); rintro e w23 ⟨v275, rfl, ho0, hb⟩; refine ⟨_, rfl, ?_⟩; have n0_ := Aside0.mk (Kd.R_elder' (XShort.rr HO_3.out) (Kd.R_base ho0) hb); have n1_ := Aside0.mk (Kd.R_lower (Kd.R_new' ho0 (Kd.R_lt (XShort.rr HO_3.out))) (below_size XShort.bel)); have n2_ := Aside0.mk (below_step XShort.bel hb); clear HO_3; clear HB; have HO_3 := n0_; have HO276 := n1_; have HB := n2_; clear n0_ n1_ n2_; (try clear hb); (try clear hb2); (try clear hk); (try clear hi); (try clear ho0)))
       go_loopg [8, 9] k2 (fun kq v8 v9 w' => ∃ (x8_3 : List (S73)) (x9_3 : Int), v9 = .int .i64 x9_3 ∧ Aside0 (thistleref02_pieces.l3 kq t274 x8_3 x9_3 = some r) ∧ Aside0 (kq ≤ k2) ∧ Aside0 (Kd.R (Kd.int .i64) 3 w' w.heap.size (fun _ => True) v275 t274) ∧ Aside0 (Kd.R k73 73 w' w.heap.size (fun _ => True) v8 x8_3) ∧ Aside0 (Below w.heap.size w w'))
       case atStart => exact ⟨(([] : List (S73))), (0), XShort.eqs, H', ⟨Nat.le_refl _⟩, ⟨by (with_reducible repeat (first | apply Kd.R_alloc | apply Kd.R_drewN | apply Kd.R_drew)); exact Kd.R_mono HO276.out (fun _ hk => trivial)⟩, ⟨by first | exact Kd.R_nil _ _ _ _ _ | exact Kd.N_nil _ _ _ _ _ | exact Kd.V_nil _ _ _ _ _ | exact Kd.Q_nil _ _ _ _ _ | exact Kd.S_nil _ _ _ _ _⟩, ⟨XShort.bel⟩⟩
       case round =>
        clear H'
        try clear c1
        try clear c2
        try clear p2
        try clear q2
        try clear hx2
        try clear c4
        try clear c4b0
        try clear c5
        try clear c5b0
        try clear c6
        try clear p6
        try clear c7
        try clear c12
        try clear c12b0
        try clear c13
        try clear c13b0
        try clear c14
        try clear c14b0
        try clear c15
        try clear c15b0
        try clear c16
        try clear c16b0
        try clear c17
        try clear c18
        try clear hx255_0
        try clear hx255_1
        try clear hx259_0
        try clear hx259_1
        try clear hx263_0
        try clear hx264_0
        try clear hx265_0
        try clear hx265_1
        try clear hx269_0
        try clear hx270_0
        try clear hx270_1
        try clear p2
        try clear p255
        try clear p259
        try clear p263
        try clear p264
        try clear p265
        try clear p269
        try clear p270
        try clear p6
        try clear q2
        try clear q255
        try clear q259
        try clear q263
        try clear q264
        try clear q265
        try clear q269
        try clear q270
        obtain ⟨x8_3, x9_3, rfl, HA, HK3, HO_3, HO_8, HB⟩ := hrel
        cases gk with
        | zero => exact absurd HA.out (by simp [thistleref02_pieces.l3])
        | succ k3 =>
         have H := HA.out
         clear HA
         simp only [thistleref02_pieces.l3] at H
         by_cases c24 : (wrap64 (x9_3 + 1)) < (t274.length : Int)
         ·rw [if_pos c24] at H
          have c24b0 : decide ((wrap64 (x9_3 + 1)) < (t274.length : Int)) = true := decide_eq_true c24
          clear c24
          by_cases c25 : 0 ≤ x9_3
          ·rw [if_pos c25] at H
           have c25b0 : decide (0 ≤ x9_3) = true := decide_eq_true c25
           clear c25
           by_cases c26 : x9_3 < (t274.length : Int)
           ·rw [if_pos c26] at H
            have c26b0 : decide (x9_3 < (t274.length : Int)) = true := decide_eq_true c26
            clear c26
            by_cases c27 : (rd t274 x9_3) ≥ 0
            ·rw [if_pos c27] at H
             have c27b0 : decide (0 ≤ (rd t274 x9_3)) = true := decide_eq_true c27
             clear c27
             by_cases c28 : (rd t274 x9_3) ≤ 1114367
             ·rw [if_pos c28] at H
              have c28b0 : decide ((rd t274 x9_3) ≤ 1114367) = true := decide_eq_true c28
              clear c28
              replace H := Option.bind_eq_some_iff.mp H
              obtain ⟨t280, A290, H⟩ := H
              replace H : (if t280 ≥ 0 then (if 0 ≤ (wrap64 (x9_3 + 1)) then (if x8_3.length < 8796093022208 then (thistleref02_pieces.l3 k3 t274 (x8_3 ++ [(⟨rd t274 x9_3, wrap64 ((rd t274 (wrap64 (x9_3 + 1))) - 1)⟩ : S73)]) (wrap64 (x9_3 + 1))) else (none)) else (none)) else (thistleref02_pieces.l3 k3 t274 x8_3 (wrap64 (x9_3 + 1)))) = some r := H
              have A29 := Aside0.mk A290
              clear A290
              by_cases c30 : t280 ≥ 0
              ·rw [if_pos c30] at H
               have c30b0 : decide (0 ≤ t280) = true := decide_eq_true c30
               clear c30
               obtain ⟨ji31, hji31⟩ : ∃ j_ : Int, (wrap64 (x9_3 + 1)) = j_ := ⟨_, rfl⟩
               replace H : (if 0 ≤ (ji31) then (if x8_3.length < 8796093022208 then (thistleref02_pieces.l3 k3 t274 (x8_3 ++ [(⟨rd t274 x9_3, wrap64 ((rd t274 (ji31)) - 1)⟩ : S73)]) ji31) else (none)) else (none)) = some r := by first | (rw [hji31] at H; exact H) | (simp only [hji31] at H ⊢; exact H)
               (try rw [hji31] at c24b0)
               (try rw [hji31] at A29)
               have hji31w : (IntKind.i64.wrap (x9_3 + 1)) = ji31 := (i64_w _).trans hji31
               by_cases c32 : 0 ≤ (ji31)
               ·rw [if_pos c32] at H
                have c32b0 : decide (0 ≤ (ji31)) = true := decide_eq_true c32
                clear c32
                by_cases c33 : x8_3.length < 8796093022208
                ·rw [if_pos c33] at H
                 have LMc33 := Aside0.mk c33
                 clear c33
                 obtain ⟨y283, hy283⟩ : ∃ y_ : List (S73), y_ = (x8_3 ++ [(⟨rd t274 x9_3, wrap64 ((rd t274 (ji31)) - 1)⟩ : S73)]) := ⟨_, rfl⟩
                 replace H : (thistleref02_pieces.l3 k3 t274 y283 ji31) = some r := by first | (rw [hy283]; with_reducible exact H) | (have H2_ := (Option.bind_some _ _).symm.trans H; rw [hy283]; with_reducible exact H2_) | (have H2_ := (Option.bind_some _ _).symm.trans H; with_reducible exact H2_) | with_reducible exact H | (rw [hy283]; exact H) | exact H
                 have Ny283 := Aside0.mk hy283
                 clear hy283
                 have H' := Aside0.mk H
                 clear H
                 obtain ⟨Ao34, co34, eo34⟩ := Kd.R_slice HO_3.out
                 subst eo34
                 have p277 : 0 ≤ (x9_3 : Int) := of_decide_eq_true XShort.asm
                 have q277 : x9_3 < (t274.length : Int) := of_decide_eq_true XShort.asm
                 obtain ⟨ad277, e277, hx277_0⟩ := Kd.at_int (Kd.R_reads' HO_3.out).2.2 x9_3 p277 q277
                 cases e277
                 replace p277 := eq_true p277
                 replace q277 := eq_true q277
                 have p278 : 0 ≤ (x9_3 : Int) := of_decide_eq_true XShort.asm
                 have q278 : x9_3 < (t274.length : Int) := of_decide_eq_true XShort.asm
                 obtain ⟨ad278, e278, hx278_0⟩ := Kd.at_int (Kd.R_reads' HO_3.out).2.2 x9_3 p278 q278
                 obtain rfl : ad277 = ad278 := (by injection e278)
                 replace p278 := eq_true p278
                 replace q278 := eq_true q278
                 have p279 : 0 ≤ (x9_3 : Int) := of_decide_eq_true XShort.asm
                 have q279 : x9_3 < (t274.length : Int) := of_decide_eq_true XShort.asm
                 obtain ⟨ad279, e279, hx279_0⟩ := Kd.at_int (Kd.R_reads' HO_3.out).2.2 x9_3 p279 q279
                 obtain rfl : ad277 = ad279 := (by injection e279)
                 replace p279 := eq_true p279
                 replace q279 := eq_true q279
                 try go_wp2_with (first | (go_at_call 38; (with_reducible refine (thistleref02_block.calls k3 (wrap32 (rd t274 x9_3)) t280 _ A29.out).mono ?_); rintro e w35 ⟨rfl, hb⟩; have n0_ := Aside0.mk (Kd.R_below (XShort.rr HO_3.out) hb); have n1_ := Aside0.mk (Kd.R_below (XShort.rr HO_8.out) hb); have n2_ := Aside0.mk (below_step XShort.bel hb); clear HO_3; clear HO_8; clear HB; have HO_3 := n0_; have HO_8 := n1_; have HB := n2_; clear n0_ n1_ n2_; (try clear hb); (try clear hb2); (try clear hk); (try clear hi)))
                 have n0_ := Aside0.mk (Kd.R_drew HO_3.out)
                 have n1_ := Aside0.mk (Kd.R_drew HO_8.out)
                 have n2_ := Aside0.mk (below_drew1 HB.out)
                 clear HO_3
                 clear HO_8
                 clear HB
                 have HO_3 := n0_
                 have HO_8 := n1_
                 have HB := n2_
                 clear n0_ n1_ n2_
                 have p281 : 0 ≤ (x9_3 : Int) := of_decide_eq_true XShort.asm
                 have q281 : x9_3 < (t274.length : Int) := of_decide_eq_true XShort.asm
                 obtain ⟨ad281, e281, hx281_0⟩ := Kd.at_int (Kd.R_reads' HO_3.out).2.2 x9_3 p281 q281
                 obtain rfl : ad277 = ad281 := (by injection e281)
                 replace p281 := eq_true p281
                 replace q281 := eq_true q281
                 have p282 : 0 ≤ ((ji31) : Int) := of_decide_eq_true XShort.asm
                 have q282 : (ji31) < (t274.length : Int) := of_decide_eq_true XShort.asm
                 obtain ⟨ad282, e282, hx282_0⟩ := Kd.at_int (Kd.R_reads' HO_3.out).2.2 (ji31) p282 q282
                 obtain rfl : ad277 = ad282 := (by injection e282)
                 replace p282 := eq_true p282
                 replace q282 := eq_true q282
                 refine start_ (n := 15) (S := fun w' => w'.cell? (ad277.add (x9_3).toNat) = some (.int .i64 (rd t274 x9_3)) ∧ w'.cell? (ad277.add ((ji31)).toNat) = some (.int .i64 (rd t274 (ji31)))) (ds := [12, 13]) #[i,i,i,i,i,i,i,i,i,i,i,i,i,i,i] (by kernel_rfl) rfl rfl ⟨hx281_0, hx282_0⟩ (fun hHeld => ?_); refine with_tabW thistleref02_pieces.tab22 thistleref02_pieces.bits22 (fun HT_ HW_ => ?_)
                 generalize w35.drew = w36 at HO_3 HO_8 HB hx281_0 hx282_0 hHeld ⊢
                 refine pure_ (i := 0) (N := some 104) (v := ?_) (a' := ?_) #[o,i,i,i,i,i,i,i,i,i,i,i,i,i,i] rfl rfl (any_of HT_.out (by kernel_rfl)) (fun _ _ _ h => h) (Or.inl ⟨by rfl, ?_⟩) ?_ ?_
                 rotate_left
                 ·intro w'
                  go_simp
                  with_reducible rfl
                 rotate_left
                 ·exact XShort.put
                 refine pure_ (i := 1) (N := some 105) (v := ?_) (a' := ?_) #[o,o,i,i,i,i,i,i,i,i,i,i,i,i,i] rfl rfl (any_of HT_.out (by kernel_rfl)) (fun _ _ _ h => h) (Or.inl ⟨by rfl, ?_⟩) ?_ ?_
                 rotate_left
                 ·intro w'
                  go_simp
                  with_reducible rfl
                 rotate_left
                 ·exact XShort.put
                 refine pure_ (i := 2) (N := some 106) (v := ?_) (a' := ?_) #[o,o,o,i,i,i,i,i,i,i,i,i,i,i,i] rfl rfl (any_of HT_.out (by kernel_rfl)) (fun _ _ _ h => h) (Or.inl ⟨by rfl, ?_⟩) ?_ ?_
                 rotate_left
                 ·intro w'
                  go_simp
                  with_reducible rfl
                 rotate_left
                 ·exact XShort.put
                 refine pure_ (i := 3) (N := some 107) (v := ?_) (a' := ?_) #[o,o,o,o,i,i,i,i,i,i,i,i,i,i,i] rfl rfl (any_of HT_.out (by kernel_rfl)) (fun _ _ _ h => h) (Or.inl ⟨by rfl, ?_⟩) ?_ ?_
                 rotate_left
                 ·intro w'
                  go_simp
                  with_reducible rfl
                 rotate_left
                 ·exact XShort.put
                 refine pure_ (i := 5) (N := some 109) (v := ?_) (a' := ?_) #[o,o,o,o,i,o,i,i,i,i,i,i,i,i,i] rfl rfl (any_of HT_.out (by kernel_rfl)) (fun _ _ _ h => h) (Or.inl ⟨by rfl, ?_⟩) ?_ ?_
                 rotate_left
                 ·intro w'
                  go_simp
                  with_reducible rfl
                 rotate_left
                 ·exact XShort.put
                 refine pure_ (i := 6) (N := some 110) (v := ?_) (a' := ?_) #[o,o,o,o,i,o,o,i,i,i,i,i,i,i,i] rfl rfl (any_of HT_.out (by kernel_rfl)) (fun _ _ _ h => h) (Or.inl ⟨by rfl, ?_⟩) ?_ ?_
                 rotate_left
                 ·intro w'
                  go_simp
                  with_reducible rfl
                 rotate_left
                 ·exact XShort.put
                 refine pure_ (i := 7) (N := some 111) (v := ?_) (a' := ?_) #[o,o,o,o,i,o,o,o,i,i,i,i,i,i,i] rfl rfl (any_of HT_.out (by kernel_rfl)) (fun _ _ _ h => h) (Or.inl ⟨by rfl, ?_⟩) ?_ ?_
                 rotate_left
                 ·intro w'
                  go_simp
                  with_reducible rfl
                 rotate_left
                 ·exact XShort.put
                 refine pure_ (i := 8) (N := some 112) (v := ?_) (a' := ?_) #[o,o,o,o,i,o,o,o,o,i,i,i,i,i,i] rfl rfl (any_of HT_.out (by kernel_rfl)) (fun _ _ _ h => h) (Or.inl ⟨by rfl, ?_⟩) ?_ ?_
                 rotate_left
                 ·intro w'
                  go_simp
                  with_reducible rfl
                 rotate_left
                 ·exact XShort.put
                 refine take_ (i := 4) (N := some 108) (v := ?_) (a' := ?_) #[o,o,o,o,o,o,o,o,o,i,i,i,i,i,i] rfl rfl (take_ofW HT_.out HW_.out (by kernel_rfl)) (fun _ _ _ h => h) (Or.inl ⟨by rfl, ?_⟩) hHeld ?_ ?_
                 rotate_left
                 ·rintro w' ⟨s0, s1⟩
                  go_simp
                  with_reducible rfl
                 rotate_left
                 ·exact XShort.put
                 refine take_ (i := 9) (N := some 113) (v := ?_) (a' := ?_) #[o,o,o,o,o,o,o,o,o,o,i,i,i,i,i] rfl rfl (take_ofW HT_.out HW_.out (by kernel_rfl)) (fun _ _ _ h => h) (Or.inl ⟨by rfl, ?_⟩) hHeld ?_ ?_
                 rotate_left
                 ·rintro w' ⟨s0, s1⟩
                  go_simp
                  with_reducible rfl
                 rotate_left
                 ·exact XShort.put
                 refine pure_ (i := 10) (N := some 114) (v := ?_) (a' := ?_) #[o,o,o,o,o,o,o,o,o,o,o,i,i,i,i] rfl rfl (any_of HT_.out (by kernel_rfl)) (fun _ _ _ h => h) (Or.inl ⟨by rfl, ?_⟩) ?_ ?_
                 rotate_left
                 ·intro w'
                  go_simp
                  with_reducible rfl
                 rotate_left
                 ·exact XShort.put
                 refine pure_ (i := 11) (N := some 115) (v := ?_) (a' := ?_) #[o,o,o,o,o,o,o,o,o,o,o,o,i,i,i] rfl rfl (any_of HT_.out (by kernel_rfl)) (fun _ _ _ h => h) (Or.inl ⟨by rfl, ?_⟩) ?_ ?_
                 rotate_left
                 ·intro w'
                  go_simp
                  with_reducible rfl
                 rotate_left
                 ·exact XShort.put
                 refine last_ (i := 12) (N := some 116) #[o,o,o,o,o,o,o,o,o,o,o,o,o,i,i] rfl rfl (one_of HT_.out (by kernel_rfl)) (by decide) (fun K hK => ?_)
                 refine value_ (w1 := ?_) (v := ?_) (by rfl) rfl ?_ ?_
                 rotate_left 2
                 ·go_simp
                  constructor
                  ·rfl
                  ·rfl
                 refine hK.out _ _ ?_
                 clear hK K
                 refine norm_ (a' := ?_) ?_ ?_
                 rotate_left
                 ·show Act.put _ (some 116) _ = _
                  simp only [Act.put, List.setIfInBounds_toArray, List.set_cons_zero, List.set_cons_succ, i64_w, i32_w]
                  rfl
                 refine last_ (i := 13) (N := some 117) #[o,o,o,o,o,o,o,o,o,o,o,o,o,o,i] rfl rfl (one_of HT_.out (by kernel_rfl)) (by decide) (fun K hK => ?_)
                 refine Kd.R_append_step k73 (w0 := w) w.heap.size (by rfl) (.tmp 104) (.tmp 116) 67 73 (.agg #[(.int .i64 0), (.int .i64 0)]) 16 rfl Tryd.underlying67 info73 rfl (by decide) (by omega) u8 x8_3 (⟨rd t274 x9_3, wrap64 ((rd t274 (ji31)) - 1)⟩ : S73) [.int .i64 (rd t274 x9_3), .int .i64 (wrap64 ((rd t274 (ji31)) - 1))] (fun _ => True) (fun _ => False) rfl rfl ?aP (fun _ hk => hk.elim) ?aF ?aO ?aB ?aS ?aL ?_
                 (case aP => exact k73_mkM _ _ _ (⟨rd t274 x9_3, wrap64 ((rd t274 (ji31)) - 1)⟩ : S73))
                 (case aB => exact XShort.bel)
                 (case aF => exact (fun _ _ => trivial))
                 (case aO => exact (XShort.rr HO_8.out))
                 (case aS => exact (below_size XShort.bel))
                 (case aL => have := LMc33.out; omega)
                 intro v284 w37 ho hb hg hat
                 rw [← Ny283.out] at ho
                 have n0_ := Aside0.mk (Kd.R_over' (XShort.rr HO_3.out) (Kd.R_typed (XShort.rr HO_8.out)) (by decide) hg)
                 have n1_ := Aside0.mk (hb)
                 have n2_ := Aside0.mk (ho)
                 clear HO_3
                 clear HB
                 clear HO_8
                 have HO_3 := n0_
                 have HB := n1_
                 have HO285 := n2_
                 clear n0_ n1_ n2_
                 clear ho hb hg hat
                 refine hK.out _ _ ?_
                 clear hK K
                 refine norm_ (a' := ?_) ?_ ?_
                 rotate_left
                 ·show Act.put _ (some 117) _ = _
                  simp only [Act.put, List.setIfInBounds_toArray, List.set_cons_zero, List.set_cons_succ, i64_w, i32_w]
                  rfl
                 refine pure_ (i := 14) (N := some 8) (v := ?_) (a' := ?_) #[o,o,o,o,o,o,o,o,o,o,o,o,o,o,o] rfl rfl (any_of HT_.out (by kernel_rfl)) (fun _ _ _ h => h) (Or.inl ⟨by rfl, ?_⟩) ?_ ?_
                 rotate_left
                 ·intro w'
                  go_simp
                  with_reducible rfl
                 rotate_left
                 ·exact XShort.put
                 refine done_ (done_of HT_.out (by kernel_rfl)) ?_
                 try go_wp2
                 go_roundg k3
                 case measure => have := HK1.out; have := HK2.out; have := HK3.out; omega
                 case rel => exact ⟨(y283), (ji31), (by first | rfl | (simp; done) | (simp only [← hji31] <;> (first | rfl | simp)) | (simp [*]; done)), H', ⟨by have := HK1.out; have := HK2.out; have := HK3.out; omega⟩, ⟨by (with_reducible repeat (first | apply Kd.R_alloc | apply Kd.R_drewN | apply Kd.R_drew)); exact HO_3.out⟩, ⟨by (with_reducible repeat (first | apply Kd.R_alloc | apply Kd.R_drewN | apply Kd.R_drew)); exact HO285.out⟩, ⟨XShort.bel⟩⟩
                ·rw [if_neg c33] at H
                 exact absurd H (by simp)
               ·rw [if_neg c32] at H
                exact absurd H (by simp)
              ·rw [if_neg c30] at H
               have c30b0 : decide (0 ≤ t280) = false := decide_eq_false c30
               clear c30
               have H' := Aside0.mk H
               clear H
               obtain ⟨Ao38, co38, eo38⟩ := Kd.R_slice HO_3.out
               subst eo38
               have p277 : 0 ≤ (x9_3 : Int) := of_decide_eq_true XShort.asm
               have q277 : x9_3 < (t274.length : Int) := of_decide_eq_true XShort.asm
               obtain ⟨ad277, e277, hx277_0⟩ := Kd.at_int (Kd.R_reads' HO_3.out).2.2 x9_3 p277 q277
               cases e277
               replace p277 := eq_true p277
               replace q277 := eq_true q277
               have p278 : 0 ≤ (x9_3 : Int) := of_decide_eq_true XShort.asm
               have q278 : x9_3 < (t274.length : Int) := of_decide_eq_true XShort.asm
               obtain ⟨ad278, e278, hx278_0⟩ := Kd.at_int (Kd.R_reads' HO_3.out).2.2 x9_3 p278 q278
               obtain rfl : ad277 = ad278 := (by injection e278)
               replace p278 := eq_true p278
               replace q278 := eq_true q278
               have p279 : 0 ≤ (x9_3 : Int) := of_decide_eq_true XShort.asm
               have q279 : x9_3 < (t274.length : Int) := of_decide_eq_true XShort.asm
               obtain ⟨ad279, e279, hx279_0⟩ := Kd.at_int (Kd.R_reads' HO_3.out).2.2 x9_3 p279 q279
               obtain rfl : ad277 = ad279 := (by injection e279)
               replace p279 := eq_true p279
               replace q279 := eq_true q279
               go_wp2_with (first | (go_at_call 38; (with_reducible refine (thistleref02_block.calls k3 (wrap32 (rd t274 x9_3)) t280 _ A29.out).mono ?_); rintro e w39 ⟨rfl, hb⟩; have n0_ := Aside0.mk (Kd.R_below (XShort.rr HO_3.out) hb); have n1_ := Aside0.mk (Kd.R_below (XShort.rr HO_8.out) hb); have n2_ := Aside0.mk (below_step XShort.bel hb); clear HO_3; clear HO_8; clear HB; have HO_3 := n0_; have HO_8 := n1_; have HB := n2_; clear n0_ n1_ n2_; (try clear hb); (try clear hb2); (try clear hk); (try clear hi)))
               go_roundg k3
               case measure => have := HK1.out; have := HK2.out; have := HK3.out; omega
               case rel => exact ⟨(x8_3), (wrap64 (x9_3 + 1)), XShort.eqs, H', ⟨by have := HK1.out; have := HK2.out; have := HK3.out; omega⟩, ⟨by (with_reducible repeat (first | apply Kd.R_alloc | apply Kd.R_drewN | apply Kd.R_drew)); exact HO_3.out⟩, ⟨by (with_reducible repeat (first | apply Kd.R_alloc | apply Kd.R_drewN | apply Kd.R_drew)); exact HO_8.out⟩, ⟨XShort.bel⟩⟩
             ·rw [if_neg c28] at H
              have c28b0 : decide ((rd t274 x9_3) ≤ 1114367) = false := decide_eq_false c28
              clear c28
              have H' := Aside0.mk H
              clear H
              obtain ⟨Ao40, co40, eo40⟩ := Kd.R_slice HO_3.out
              subst eo40
              have p277 : 0 ≤ (x9_3 : Int) := of_decide_eq_true XShort.asm
              have q277 : x9_3 < (t274.length : Int) := of_decide_eq_true XShort.asm
              obtain ⟨ad277, e277, hx277_0⟩ := Kd.at_int (Kd.R_reads' HO_3.out).2.2 x9_3 p277 q277
              cases e277
              replace p277 := eq_true p277
              replace q277 := eq_true q277
              have p278 : 0 ≤ (x9_3 : Int) := of_decide_eq_true XShort.asm
              have q278 : x9_3 < (t274.length : Int) := of_decide_eq_true XShort.asm
              obtain ⟨ad278, e278, hx278_0⟩ := Kd.at_int (Kd.R_reads' HO_3.out).2.2 x9_3 p278 q278
              obtain rfl : ad277 = ad278 := (by injection e278)
              replace p278 := eq_true p278
              replace q278 := eq_true q278
              go_wp2
              go_roundg k3
              case measure => have := HK1.out; have := HK2.out; have := HK3.out; omega
              case rel => exact ⟨(x8_3), (wrap64 (x9_3 + 1)), XShort.eqs, H', ⟨by have := HK1.out; have := HK2.out; have := HK3.out; omega⟩, ⟨by (with_reducible repeat (first | apply Kd.R_alloc | apply Kd.R_drewN | apply Kd.R_drew)); exact HO_3.out⟩, ⟨by (with_reducible repeat (first | apply Kd.R_alloc | apply Kd.R_drewN | apply Kd.R_drew)); exact HO_8.out⟩, ⟨XShort.bel⟩⟩
            ·rw [if_neg c27] at H
             have c27b0 : decide (0 ≤ (rd t274 x9_3)) = false := decide_eq_false c27
             clear c27
             have H' := Aside0.mk H
             clear H
             obtain ⟨Ao41, co41, eo41⟩ := Kd.R_slice HO_3.out
             subst eo41
             have p277 : 0 ≤ (x9_3 : Int) := of_decide_eq_true XShort.asm
             have q277 : x9_3 < (t274.length : Int) := of_decide_eq_true XShort.asm
             obtain ⟨ad277, e277, hx277_0⟩ := Kd.at_int (Kd.R_reads' HO_3.out).2.2 x9_3 p277 q277
             cases e277
             replace p277 := eq_true p277
             replace q277 := eq_true q277
             go_wp2
             go_roundg k3
             case measure => have := HK1.out; have := HK2.out; have := HK3.out; omega
             case rel => exact ⟨(x8_3), (wrap64 (x9_3 + 1)), XShort.eqs, H', ⟨by have := HK1.out; have := HK2.out; have := HK3.out; omega⟩, ⟨by (with_reducible repeat (first | apply Kd.R_alloc | apply Kd.R_drewN | apply Kd.R_drew)); exact HO_3.out⟩, ⟨by (with_reducible repeat (first | apply Kd.R_alloc | apply Kd.R_drewN | apply Kd.R_drew)); exact HO_8.out⟩, ⟨XShort.bel⟩⟩
           ·rw [if_neg c26] at H
            exact absurd H (by simp)
          ·rw [if_neg c25] at H
           exact absurd H (by simp)
         ·rw [if_neg c24] at H
          have c24b0 : decide ((wrap64 (x9_3 + 1)) < (t274.length : Int)) = false := decide_eq_false c24
          clear c24
          obtain rfl := Option.some.inj H
          obtain ⟨Ao42, co42, eo42⟩ := Kd.R_slice HO_3.out
          subst eo42
          go_wp2
          go_ret
          exact ⟨_, by first | rfl | (simp [errW_none, errW_some] <;> rfl) | (simp [*, errW_none, errW_some] <;> rfl), by (with_reducible repeat (first | apply Kd.R_alloc | apply Kd.R_drewN | apply Kd.R_drew)); exact HO_8.out, XShort.bel⟩

end Go.Proofs.YtcpjflgiimjfmaaDoor.XF
