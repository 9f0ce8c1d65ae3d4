/- WRITTEN BY A PROGRAM OF THIS SESSION (wip/tools/xprint.py, over the kit's printer): contracts of the functions that the seat's laws reach. -/
import Derived.Test.YtcpjflgiimjfmaaDoorXLibShort
import Derived.Test.YtcpjflgiimjfmaaDoorXF0
import Derived.Test.YtcpjflgiimjfmaaDoorXF5
namespace Go.Proofs.YtcpjflgiimjfmaaDoor.XF
open Go.Proofs.YtcpjflgiimjfmaaDoor.XShort (o i)
open Go.RowKit Go.Proofs.YtcpjflgiimjfmaaDoorW.PrintWords Go.Proofs.YtcpjflgiimjfmaaDoorW.PrintLast Go.Proofs.YtcpjflgiimjfmaaDoorW.PrintMore
attribute [local go_sem] max2_int min2_int max_two min_two max_three min_three max_four min_four
set_option linter.unusedVariables false
set_option linter.unusedSimpArgs false

/-! ### thistleref02_Check: function 17 -/
mutual
def thistleref02_Check.l0 : Nat → List (S41) → Int → Option (Int)
 | 0, _, _ => none
 | k + 1, x0, x3 => if x3 < (x0.length : Int) then (if 0 ≤ x3 then ((thistleref02_block.f k ((rd_T41 x0 x3).f0)).bind fun t154 => (if t154 < 0 then (thistleref02_Check.j1 k x0 x3 true) else ((thistleref02_block.f k ((rd_T41 x0 x3).f1)).bind fun t156 => (if t154 = t156 then (thistleref02_Check.j1 k x0 x3 (decide (((rd_T41 x0 x3).f0) > ((rd_T41 x0 x3).f1)))) else (thistleref02_Check.j1 k x0 x3 true))))) else (none)) else (some 0)
def thistleref02_Check.j1 : Nat → List (S41) → Int → Bool → Option (Int)
 | 0, _, _, _ => none
 | k + 1, x0, x3, x41 => if x41 = true then (some 1) else (if x3 > 0 then (if 0 ≤ x3 then (if x3 < (x0.length : Int) then (if 0 ≤ (wrap64 (x3 - 1)) then (if (wrap64 (x3 - 1)) < (x0.length : Int) then (if (wrap64 ((rd_T41 x0 x3).f0)) ≤ (wrap64 ((wrap64 ((rd_T41 x0 (wrap64 (x3 - 1))).f1)) + 1)) then (some 1) else (thistleref02_Check.l0 k x0 (wrap64 (x3 + 1)))) else (none)) else (none)) else (none)) else (none)) else (thistleref02_Check.l0 k x0 (wrap64 (x3 + 1))))
end
def thistleref02_Check.f (k : Nat) (l0 : List (S41)) : Option (Int) := thistleref02_Check.l0 k l0 0
theorem thistleref02_Check.mono_l : ∀ k, (∀ y0 y1, LeO (thistleref02_Check.l0 k y0 y1) (thistleref02_Check.l0 (k + 1) y0 y1)) ∧ (∀ y0 y1 y2, LeO (thistleref02_Check.j1 k y0 y1 y2) (thistleref02_Check.j1 (k + 1) y0 y1 y2))
 | 0 => ⟨fun _ _ r h => by simp [thistleref02_Check.l0] at h, fun _ _ _ r h => by simp [thistleref02_Check.j1] at h⟩
 | k + 1 => by
  obtain ⟨ih0, ih1⟩ := thistleref02_Check.mono_l k
  refine ⟨?_, ?_⟩
  ·intro y0 y1
   unfold thistleref02_Check.l0
   repeat' first
   | (with_reducible exact ih0 _ _)
   | (with_reducible exact ih1 _ _ _)
   | (with_reducible exact thistleref02_block.mono _ _)
   | (with_reducible exact LeO.refl _)
   | (with_reducible exact LeO.none _)
   | (with_reducible refine LeO.ite ?_ ?_)
   | (with_reducible refine LeO.bind ?_ (fun _ => ?_))
   | exact ih0 _ _
   | exact ih1 _ _ _
   | exact thistleref02_block.mono _ _
   | exact LeO.none _
   | refine LeO.ite ?_ ?_
   | refine LeO.bind ?_ (fun _ => ?_)
  ·intro y0 y1 y2
   unfold thistleref02_Check.j1
   repeat' first
   | (with_reducible exact ih0 _ _)
   | (with_reducible exact ih1 _ _ _)
   | (with_reducible exact thistleref02_block.mono _ _)
   | (with_reducible exact LeO.refl _)
   | (with_reducible exact LeO.none _)
   | (with_reducible refine LeO.ite ?_ ?_)
   | (with_reducible refine LeO.bind ?_ (fun _ => ?_))
   | exact ih0 _ _
   | exact ih1 _ _ _
   | exact thistleref02_block.mono _ _
   | exact LeO.none _
   | refine LeO.ite ?_ ?_
   | refine LeO.bind ?_ (fun _ => ?_)
theorem thistleref02_Check.mono : ∀ a0 k, LeO (thistleref02_Check.f k a0) (thistleref02_Check.f (k + 1) a0) := by
 intro a0 k
 obtain ⟨ih0, ih1⟩ := thistleref02_Check.mono_l k
 unfold thistleref02_Check.f
 repeat' first
   | (with_reducible exact ih0 _ _)
   | (with_reducible exact ih1 _ _ _)
   | (with_reducible exact thistleref02_block.mono _ _)
   | (with_reducible exact LeO.refl _)
   | (with_reducible exact LeO.none _)
   | (with_reducible refine LeO.ite ?_ ?_)
   | (with_reducible refine LeO.bind ?_ (fun _ => ?_))
   | exact ih0 _ _
   | exact ih1 _ _ _
   | exact thistleref02_block.mono _ _
   | exact LeO.none _
   | refine LeO.ite ?_ ?_
   | refine LeO.bind ?_ (fun _ => ?_)
def thistleref02_Check.T5 : Bool × List (List Nat × List Nat) := (true, [([], []), ([0], [0]), ([1], [1]), ([2], [2]), ([2], [2]), ([2], [2]), ([4, 5, 2], [2, 4, 5]), ([6, 2], [2, 6]), ([7, 2], [2, 7]), ([8, 2, 2], [2, 8]), ([3, 9, 2], [2, 3, 9]), ([2, 10], [2, 10]), ([11, 9], [11]), ([12], [12]), ([12], [12]), ([13, 14, 12], [12, 13, 14]), ([15, 12], [12, 15]), ([16, 12], [12, 16]), ([12], [12]), ([12], [12]), ([18, 19, 12], [12, 18, 19]), ([20, 12], [12, 20]), ([21, 12], [12, 21]), ([17, 22, 12], [12, 17, 22]), ([12, 23], [12, 23])])
def thistleref02_Check.B5 : List Nat := [0, 1, 3, 7, 7, 7, 55, 119, 247, 503, 1023, 2047, 4095, 8191, 8191, 32767, 65535, 131071, 8191, 8191, 794623, 1843199, 3940351, 8388607, 16777215]
theorem thistleref02_Check.tab5 : rtab .any (opsOf Tryd.f17 5) = thistleref02_Check.T5 := by kernel_rfl
theorem thistleref02_Check.bits5 : waitsOk thistleref02_Check.T5.2 thistleref02_Check.B5 = true := by kernel_rfl
def thistleref02_Check.T7 : Bool × List (List Nat × List Nat) := (true, [([], []), ([0], [0]), ([1], [1]), ([2], [2]), ([2], [2]), ([3, 4, 2], [2, 3, 4]), ([5, 2], [2, 5]), ([6, 2], [2, 6]), ([7, 2], [2, 7]), ([2], [2]), ([2], [2]), ([10, 2], [2, 10]), ([9, 11, 2], [2, 9, 11]), ([12, 2], [2, 12]), ([13, 2], [2, 13]), ([14, 2], [2, 14]), ([15, 2], [2, 15]), ([8, 16, 2], [2, 8, 16]), ([2, 17], [2, 17])])
def thistleref02_Check.B7 : List Nat := [0, 1, 3, 7, 7, 31, 63, 127, 255, 7, 7, 1031, 3591, 7687, 15879, 32263, 65031, 131071, 262143]
theorem thistleref02_Check.tab7 : rtab .any (opsOf Tryd.f17 7) = thistleref02_Check.T7 := by kernel_rfl
theorem thistleref02_Check.bits7 : waitsOk thistleref02_Check.T7.2 thistleref02_Check.B7 = true := by kernel_rfl
set_option maxHeartbeats 8000000 in
set_option maxRecDepth 100000 in
theorem thistleref02_Check.calls (k : Nat) (A0 : Option Addr) (c0 : Nat) (l0 : List (S41)) (r : Int) (w : World) (hr0 : Kd.C k41 w A0 l0.length l0) (hc0 : l0.length ≤ c0) (h : thistleref02_Check.f k l0 = some r) :
  Calls Tryd.prog 17 #[.slice A0 l0.length c0] w fun e w' => e = .returned (.int .i64 r) ∧ Below w.heap.size w w' := by
 have HR0 := Aside0.mk hr0
 have HC0 := Aside0.mk hc0
 clear hr0 hc0
 have HB := Aside0.mk (Below.refl w.heap.size w)
 have H : (thistleref02_Check.l0 k l0 0) = some r := h
 clear h
 have H' := Aside0.mk H
 clear H
 go_enter Tryd.func17, Tryd.ntmps17
 go_wp2
 go_loopg [3] k (fun kq v3 w' => ∃ (x3_1 : Int), v3 = .int .i64 x3_1 ∧ Aside0 (thistleref02_Check.l0 kq l0 x3_1 = some r) ∧ Aside0 (kq ≤ k) ∧ Aside0 (Below w.heap.size w w'))
 case atStart => exact ⟨(0), XShort.eqs, H', ⟨Nat.le_refl _⟩, ⟨XShort.bel⟩⟩
 case round =>
  clear H'
  try clear c1
  obtain ⟨x3_1, rfl, HA, HK1, HB⟩ := hrel
  cases gk with
  | zero => exact absurd HA.out (by simp [thistleref02_Check.l0])
  | succ k1 =>
   have H := HA.out
   clear HA
   simp only [thistleref02_Check.l0] at H
   by_cases c2 : x3_1 < (l0.length : Int)
   ·rw [if_pos c2] at H
    have c2b0 : decide (x3_1 < (l0.length : Int)) = true := decide_eq_true c2
    clear c2
    by_cases c3 : 0 ≤ x3_1
    ·rw [if_pos c3] at H
     have c3b0 : decide (0 ≤ x3_1) = true := decide_eq_true c3
     clear c3
     replace H := Option.bind_eq_some_iff.mp H
     obtain ⟨t154, A40, H⟩ := H
     replace H : (if t154 < 0 then (thistleref02_Check.j1 k1 l0 x3_1 true) else ((thistleref02_block.f k1 ((rd_T41 l0 x3_1).f1)).bind fun t156 => (if t154 = t156 then (thistleref02_Check.j1 k1 l0 x3_1 (decide (((rd_T41 l0 x3_1).f0) > ((rd_T41 l0 x3_1).f1)))) else (thistleref02_Check.j1 k1 l0 x3_1 true)))) = some r := H
     have A4 := Aside0.mk A40
     clear A40
     have HC5 := Aside0.mk H
     clear H
     have p153 : 0 ≤ (x3_1 : Int) := of_decide_eq_true XShort.asm
     have q153 : x3_1 < (l0.length : Int) := of_decide_eq_true XShort.asm
     obtain ⟨ad153, e153, hx153_0, hx153_1⟩ := at_T41 HR0.out x3_1 p153 q153
     cases e153
     replace hx153_0 := (HB.out.cell (World.block_lt_of_cell? w _ hx153_0)).trans hx153_0
     replace hx153_1 := (HB.out.cell (World.block_lt_of_cell? w _ hx153_1)).trans hx153_1
     replace p153 := eq_true p153
     replace q153 := eq_true q153
     go_upto_region 5 with (first | ((with_reducible refine gate_callee (f := 38) rfl ?_); refine goesL_ (some 16) rfl rfl Tryd.func38 (by kernel_rfl) rfl #[.int .i32 ((rd_T41 l0 x3_1).f0)] rfl (by (try simp only [List.map_toArray, List.map_cons, List.map_nil]); first | done | rfl | (simp only [List.length_drop, List.length_take]; rfl)) ?_; (with_reducible refine (thistleref02_block.calls k1 ((rd_T41 l0 x3_1).f0) t154 _ A4.out).mono ?_); rintro e w6 ⟨rfl, hb⟩; refine ⟨_, rfl, ?_⟩; have n0_ := Aside0.mk (below_step XShort.bel hb); clear HB; have HB := n0_; clear n0_; (try clear hb); (try clear hb2); (try clear hk); (try clear hi)))
     (try simp only [Act.put, List.setIfInBounds_toArray, List.set_cons_zero, List.set_cons_succ])
     go_cut [41] (fun v41 wc => ∃ (kq : Nat) (x41_4 : Bool), v41 = .bool x41_4 ∧ Aside0 (thistleref02_Check.j1 kq l0 x3_1 x41_4 = some r) ∧ Aside0 (kq ≤ k1) ∧ Aside0 (Below w.heap.size w wc))
     case first =>
      have H := HC5.out
      clear HC5
      by_cases c7 : t154 < 0
      ·rw [if_pos c7] at H
       have c7b0 : decide (t154 < 0) = true := decide_eq_true c7
       clear c7
       (first | rw [c7b0] | (simp only [i64_w, i32_w]; rw [c7b0]) | skip)
       have H' := Aside0.mk H
       clear H
       try go_wp2
       have n0_ := Aside0.mk (below_drew1 HB.out)
       clear HB
       have HB := n0_
       clear n0_
       refine start_ (n := 25) (S := fun w' => True) (ds := []) #[i,i,i,i,i,i,i,i,i,i,i,i,i,i,i,i,i,i,i,i,i,i,i,i,i] (by kernel_rfl) rfl rfl trivial (fun hHeld => ?_); refine with_tabW thistleref02_Check.tab5 thistleref02_Check.bits5 (fun HT_ HW_ => ?_)
       generalize w6.drew = w8 at HB hHeld ⊢
       refine pure_ (i := 0) (N := some 17) (v := ?_) (a' := ?_) #[o,i,i,i,i,i,i,i,i,i,i,i,i,i,i,i,i,i,i,i,i,i,i,i,i] rfl rfl (any_of HT_.out (by kernel_rfl)) (fun _ _ _ h => h) (Or.inl ⟨by rfl, ?_⟩) ?_ ?_
       rotate_left
       ·intro w'
        go_simp
        with_reducible rfl
       rotate_left
       ·exact XShort.put
       refine pure_ (i := 1) (N := some 18) (v := ?_) (a' := ?_) #[o,o,i,i,i,i,i,i,i,i,i,i,i,i,i,i,i,i,i,i,i,i,i,i,i] rfl rfl (any_of HT_.out (by kernel_rfl)) (fun _ _ _ h => h) (Or.inl ⟨by rfl, ?_⟩) ?_ ?_
       rotate_left
       ·intro w'
        go_simp
        with_reducible rfl
       rotate_left
       ·exact XShort.put
       refine pure_ (i := 2) (N := some 19) (v := ?_) (a' := ?_) #[o,o,o,i,i,i,i,i,i,i,i,i,i,i,i,i,i,i,i,i,i,i,i,i,i] rfl rfl (any_of HT_.out (by kernel_rfl)) (fun _ _ _ h => h) (Or.inl ⟨by rfl, ?_⟩) ?_ ?_
       rotate_left
       ·intro w'
        go_simp
        with_reducible rfl
       rotate_left
       ·exact XShort.put
       refine pure_ (i := 3) (N := some 20) (v := undef) (a' := ?_) #[o,o,o,o,i,i,i,i,i,i,i,i,i,i,i,i,i,i,i,i,i,i,i,i,i] rfl rfl (any_of HT_.out (by kernel_rfl)) (fun _ _ _ h => h) (Or.inr ⟨by rfl, rfl⟩) ?_ ?_
       rotate_left
       ·exact XShort.put
       refine pure_ (i := 4) (N := some 21) (v := undef) (a' := ?_) #[o,o,o,o,o,i,i,i,i,i,i,i,i,i,i,i,i,i,i,i,i,i,i,i,i] rfl rfl (any_of HT_.out (by kernel_rfl)) (fun _ _ _ h => h) (Or.inr ⟨by rfl, rfl⟩) ?_ ?_
       rotate_left
       ·exact XShort.put
       refine pure_ (i := 5) (N := some 22) (v := undef) (a' := ?_) #[o,o,o,o,o,o,i,i,i,i,i,i,i,i,i,i,i,i,i,i,i,i,i,i,i] rfl rfl (any_of HT_.out (by kernel_rfl)) (fun _ _ _ h => h) (Or.inr ⟨by rfl, rfl⟩) ?_ ?_
       rotate_left
       ·exact XShort.put
       refine pure_ (i := 6) (N := some 23) (v := undef) (a' := ?_) #[o,o,o,o,o,o,o,i,i,i,i,i,i,i,i,i,i,i,i,i,i,i,i,i,i] rfl rfl (any_of HT_.out (by kernel_rfl)) (fun _ _ _ h => h) (Or.inr ⟨by rfl, rfl⟩) ?_ ?_
       rotate_left
       ·exact XShort.put
       refine pure_ (i := 7) (N := some 24) (v := undef) (a' := ?_) #[o,o,o,o,o,o,o,o,i,i,i,i,i,i,i,i,i,i,i,i,i,i,i,i,i] rfl rfl (any_of HT_.out (by kernel_rfl)) (fun _ _ _ h => h) (Or.inr ⟨by rfl, rfl⟩) ?_ ?_
       rotate_left
       ·exact XShort.put
       refine pure_ (i := 8) (N := some 25) (v := undef) (a' := ?_) #[o,o,o,o,o,o,o,o,o,i,i,i,i,i,i,i,i,i,i,i,i,i,i,i,i] rfl rfl (any_of HT_.out (by kernel_rfl)) (fun _ _ _ h => h) (Or.inr ⟨by rfl, rfl⟩) ?_ ?_
       rotate_left
       ·exact XShort.put
       refine pure_ (i := 9) (N := some 26) (v := undef) (a' := ?_) #[o,o,o,o,o,o,o,o,o,o,i,i,i,i,i,i,i,i,i,i,i,i,i,i,i] rfl rfl (any_of HT_.out (by kernel_rfl)) (fun _ _ _ h => h) (Or.inr ⟨by rfl, rfl⟩) ?_ ?_
       rotate_left
       ·exact XShort.put
       refine pure_ (i := 10) (N := some 27) (v := undef) (a' := ?_) #[o,o,o,o,o,o,o,o,o,o,o,i,i,i,i,i,i,i,i,i,i,i,i,i,i] rfl rfl (any_of HT_.out (by kernel_rfl)) (fun _ _ _ h => h) (Or.inr ⟨by rfl, rfl⟩) ?_ ?_
       rotate_left
       ·exact XShort.put
       refine pure_ (i := 11) (N := some 28) (v := ?_) (a' := ?_) #[o,o,o,o,o,o,o,o,o,o,o,o,i,i,i,i,i,i,i,i,i,i,i,i,i] rfl rfl (any_of HT_.out (by kernel_rfl)) (fun _ _ _ h => h) (Or.inl ⟨by rfl, ?_⟩) ?_ ?_
       rotate_left
       ·intro w'
        go_simp
        with_reducible rfl
       rotate_left
       ·exact XShort.put
       refine pure_ (i := 12) (N := some 29) (v := ?_) (a' := ?_) #[o,o,o,o,o,o,o,o,o,o,o,o,o,i,i,i,i,i,i,i,i,i,i,i,i] rfl rfl (any_of HT_.out (by kernel_rfl)) (fun _ _ _ h => h) (Or.inl ⟨by rfl, ?_⟩) ?_ ?_
       rotate_left
       ·intro w'
        go_simp
        with_reducible rfl
       rotate_left
       ·exact XShort.put
       refine pure_ (i := 13) (N := some 30) (v := undef) (a' := ?_) #[o,o,o,o,o,o,o,o,o,o,o,o,o,o,i,i,i,i,i,i,i,i,i,i,i] rfl rfl (any_of HT_.out (by kernel_rfl)) (fun _ _ _ h => h) (Or.inr ⟨by rfl, rfl⟩) ?_ ?_
       rotate_left
       ·exact XShort.put
       refine pure_ (i := 14) (N := some 31) (v := undef) (a' := ?_) #[o,o,o,o,o,o,o,o,o,o,o,o,o,o,o,i,i,i,i,i,i,i,i,i,i] rfl rfl (any_of HT_.out (by kernel_rfl)) (fun _ _ _ h => h) (Or.inr ⟨by rfl, rfl⟩) ?_ ?_
       rotate_left
       ·exact XShort.put
       refine pure_ (i := 15) (N := some 32) (v := undef) (a' := ?_) #[o,o,o,o,o,o,o,o,o,o,o,o,o,o,o,o,i,i,i,i,i,i,i,i,i] rfl rfl (any_of HT_.out (by kernel_rfl)) (fun _ _ _ h => h) (Or.inr ⟨by rfl, rfl⟩) ?_ ?_
       rotate_left
       ·exact XShort.put
       refine pure_ (i := 16) (N := some 33) (v := undef) (a' := ?_) #[o,o,o,o,o,o,o,o,o,o,o,o,o,o,o,o,o,i,i,i,i,i,i,i,i] rfl rfl (any_of HT_.out (by kernel_rfl)) (fun _ _ _ h => h) (Or.inr ⟨by rfl, rfl⟩) ?_ ?_
       rotate_left
       ·exact XShort.put
       refine pure_ (i := 17) (N := some 34) (v := undef) (a' := ?_) #[o,o,o,o,o,o,o,o,o,o,o,o,o,o,o,o,o,o,i,i,i,i,i,i,i] rfl rfl (any_of HT_.out (by kernel_rfl)) (fun _ _ _ h => h) (Or.inr ⟨by rfl, rfl⟩) ?_ ?_
       rotate_left
       ·exact XShort.put
       refine pure_ (i := 18) (N := some 35) (v := undef) (a' := ?_) #[o,o,o,o,o,o,o,o,o,o,o,o,o,o,o,o,o,o,o,i,i,i,i,i,i] rfl rfl (any_of HT_.out (by kernel_rfl)) (fun _ _ _ h => h) (Or.inr ⟨by rfl, rfl⟩) ?_ ?_
       rotate_left
       ·exact XShort.put
       refine pure_ (i := 19) (N := some 36) (v := undef) (a' := ?_) #[o,o,o,o,o,o,o,o,o,o,o,o,o,o,o,o,o,o,o,o,i,i,i,i,i] rfl rfl (any_of HT_.out (by kernel_rfl)) (fun _ _ _ h => h) (Or.inr ⟨by rfl, rfl⟩) ?_ ?_
       rotate_left
       ·exact XShort.put
       refine pure_ (i := 20) (N := some 37) (v := undef) (a' := ?_) #[o,o,o,o,o,o,o,o,o,o,o,o,o,o,o,o,o,o,o,o,o,i,i,i,i] rfl rfl (any_of HT_.out (by kernel_rfl)) (fun _ _ _ h => h) (Or.inr ⟨by rfl, rfl⟩) ?_ ?_
       rotate_left
       ·exact XShort.put
       refine pure_ (i := 21) (N := some 38) (v := undef) (a' := ?_) #[o,o,o,o,o,o,o,o,o,o,o,o,o,o,o,o,o,o,o,o,o,o,i,i,i] rfl rfl (any_of HT_.out (by kernel_rfl)) (fun _ _ _ h => h) (Or.inr ⟨by rfl, rfl⟩) ?_ ?_
       rotate_left
       ·exact XShort.put
       refine pure_ (i := 22) (N := some 39) (v := undef) (a' := ?_) #[o,o,o,o,o,o,o,o,o,o,o,o,o,o,o,o,o,o,o,o,o,o,o,i,i] rfl rfl (any_of HT_.out (by kernel_rfl)) (fun _ _ _ h => h) (Or.inr ⟨by rfl, rfl⟩) ?_ ?_
       rotate_left
       ·exact XShort.put
       refine pure_ (i := 23) (N := some 40) (v := undef) (a' := ?_) #[o,o,o,o,o,o,o,o,o,o,o,o,o,o,o,o,o,o,o,o,o,o,o,o,i] rfl rfl (any_of HT_.out (by kernel_rfl)) (fun _ _ _ h => h) (Or.inr ⟨by rfl, rfl⟩) ?_ ?_
       rotate_left
       ·exact XShort.put
       refine pure_ (i := 24) (N := some 41) (v := ?_) (a' := ?_) #[o,o,o,o,o,o,o,o,o,o,o,o,o,o,o,o,o,o,o,o,o,o,o,o,o] rfl rfl (any_of HT_.out (by kernel_rfl)) (fun _ _ _ h => h) (Or.inl ⟨by rfl, ?_⟩) ?_ ?_
       rotate_left
       ·intro w'
        go_simp
        with_reducible rfl
       rotate_left
       ·exact XShort.put
       refine done_ (done_of HT_.out (by kernel_rfl)) ?_
       try go_wp2
       go_meet
       case rel => exact ⟨_, (true), XShort.eqs, H', ⟨by have := HK1.out; first | omega | exact Nat.le_refl _⟩, ⟨XShort.bel⟩⟩
      ·rw [if_neg c7] at H
       have c7b0 : decide (t154 < 0) = false := decide_eq_false c7
       clear c7
       (first | rw [c7b0] | (simp only [i64_w, i32_w]; rw [c7b0]) | skip)
       replace H := Option.bind_eq_some_iff.mp H
       obtain ⟨t156, A90, H⟩ := H
       replace H : (if t154 = t156 then (thistleref02_Check.j1 k1 l0 x3_1 (decide (((rd_T41 l0 x3_1).f0) > ((rd_T41 l0 x3_1).f1)))) else (thistleref02_Check.j1 k1 l0 x3_1 true)) = some r := H
       have A9 := Aside0.mk A90
       clear A90
       by_cases c10 : t154 = t156
       ·rw [if_pos c10] at H
        have c10b0 : (t154 == t156) = true := beq_iff_eq.mpr c10
        have c10b1 : (t154 != t156) = false := bne_eq_false_iff_eq.mpr c10
        clear c10
        have H' := Aside0.mk H
        clear H
        try go_wp2
        have n0_ := Aside0.mk (below_drew1 HB.out)
        clear HB
        have HB := n0_
        clear n0_
        have p155 : 0 ≤ (x3_1 : Int) := of_decide_eq_true XShort.asm
        have q155 : x3_1 < (l0.length : Int) := of_decide_eq_true XShort.asm
        obtain ⟨ad155, e155, hx155_0, hx155_1⟩ := at_T41 HR0.out x3_1 p155 q155
        have hw155_1 := hx155_1
        have hw155_0 := hx155_0
        obtain rfl : ad153 = ad155 := (by injection e155)
        replace hx155_0 := (HB.out.cell (World.block_lt_of_cell? w _ hx155_0)).trans hx155_0
        replace hx155_1 := (HB.out.cell (World.block_lt_of_cell? w _ hx155_1)).trans hx155_1
        replace p155 := eq_true p155
        replace q155 := eq_true q155
        have p157 : 0 ≤ (x3_1 : Int) := of_decide_eq_true XShort.asm
        have q157 : x3_1 < (l0.length : Int) := of_decide_eq_true XShort.asm
        obtain ⟨ad157, e157, hx157_0, hx157_1⟩ := at_T41 HR0.out x3_1 p157 q157
        have hw157_1 := hx157_1
        have hw157_0 := hx157_0
        obtain rfl : ad153 = ad157 := (by injection e157)
        replace hx157_0 := (HB.out.cell (World.block_lt_of_cell? w _ hx157_0)).trans hx157_0
        replace hx157_1 := (HB.out.cell (World.block_lt_of_cell? w _ hx157_1)).trans hx157_1
        replace p157 := eq_true p157
        replace q157 := eq_true q157
        have p158 : 0 ≤ (x3_1 : Int) := of_decide_eq_true XShort.asm
        have q158 : x3_1 < (l0.length : Int) := of_decide_eq_true XShort.asm
        obtain ⟨ad158, e158, hx158_0, hx158_1⟩ := at_T41 HR0.out x3_1 p158 q158
        have hw158_1 := hx158_1
        have hw158_0 := hx158_0
        obtain rfl : ad153 = ad158 := (by injection e158)
        replace hx158_0 := (HB.out.cell (World.block_lt_of_cell? w _ hx158_0)).trans hx158_0
        replace hx158_1 := (HB.out.cell (World.block_lt_of_cell? w _ hx158_1)).trans hx158_1
        replace p158 := eq_true p158
        replace q158 := eq_true q158
        refine start_ (n := 25) (S := fun w' => w'.cell? (ad153.add ((x3_1).toNat * 2)) = some (.int .i32 ((rd_T41 l0 x3_1).f0)) ∧ w'.cell? ⟨(ad153.add ((x3_1).toNat * 2)).block, (ad153.add ((x3_1).toNat * 2)).off + 1, none⟩ = some (.int .i32 ((rd_T41 l0 x3_1).f1)) ∧ w'.cell? (ad153.add ((x3_1).toNat * 2)) = some (.int .i32 ((rd_T41 l0 x3_1).f0)) ∧ w'.cell? ⟨(ad153.add ((x3_1).toNat * 2)).block, (ad153.add ((x3_1).toNat * 2)).off + 1, none⟩ = some (.int .i32 ((rd_T41 l0 x3_1).f1)) ∧ w'.cell? (ad153.add ((x3_1).toNat * 2)) = some (.int .i32 ((rd_T41 l0 x3_1).f0)) ∧ w'.cell? ⟨(ad153.add ((x3_1).toNat * 2)).block, (ad153.add ((x3_1).toNat * 2)).off + 1, none⟩ = some (.int .i32 ((rd_T41 l0 x3_1).f1))) (ds := []) #[i,i,i,i,i,i,i,i,i,i,i,i,i,i,i,i,i,i,i,i,i,i,i,i,i] (by kernel_rfl) rfl rfl ⟨((HB.out.cell (World.block_lt_of_cell? w _ hw155_0)).trans hw155_0), ((HB.out.cell (World.block_lt_of_cell? w _ hw155_1)).trans hw155_1), ((HB.out.cell (World.block_lt_of_cell? w _ hw157_0)).trans hw157_0), ((HB.out.cell (World.block_lt_of_cell? w _ hw157_1)).trans hw157_1), ((HB.out.cell (World.block_lt_of_cell? w _ hw158_0)).trans hw158_0), ((HB.out.cell (World.block_lt_of_cell? w _ hw158_1)).trans hw158_1)⟩ (fun hHeld => ?_); refine with_tabW thistleref02_Check.tab5 thistleref02_Check.bits5 (fun HT_ HW_ => ?_)
        generalize w6.drew = w11 at HB hx155_0 hx155_1 hx157_0 hx157_1 hx158_0 hx158_1 hHeld ⊢
        refine pure_ (i := 0) (N := some 17) (v := ?_) (a' := ?_) #[o,i,i,i,i,i,i,i,i,i,i,i,i,i,i,i,i,i,i,i,i,i,i,i,i] rfl rfl (any_of HT_.out (by kernel_rfl)) (fun _ _ _ h => h) (Or.inl ⟨by rfl, ?_⟩) ?_ ?_
        rotate_left
        ·intro w'
         go_simp
         with_reducible rfl
        rotate_left
        ·exact XShort.put
        refine pure_ (i := 1) (N := some 18) (v := ?_) (a' := ?_) #[o,o,i,i,i,i,i,i,i,i,i,i,i,i,i,i,i,i,i,i,i,i,i,i,i] rfl rfl (any_of HT_.out (by kernel_rfl)) (fun _ _ _ h => h) (Or.inl ⟨by rfl, ?_⟩) ?_ ?_
        rotate_left
        ·intro w'
         go_simp
         with_reducible rfl
        rotate_left
        ·exact XShort.put
        refine pure_ (i := 2) (N := some 19) (v := ?_) (a' := ?_) #[o,o,o,i,i,i,i,i,i,i,i,i,i,i,i,i,i,i,i,i,i,i,i,i,i] rfl rfl (any_of HT_.out (by kernel_rfl)) (fun _ _ _ h => h) (Or.inl ⟨by rfl, ?_⟩) ?_ ?_
        rotate_left
        ·intro w'
         go_simp
         with_reducible rfl
        rotate_left
        ·exact XShort.put
        refine pure_ (i := 3) (N := some 20) (v := ?_) (a' := ?_) #[o,o,o,o,i,i,i,i,i,i,i,i,i,i,i,i,i,i,i,i,i,i,i,i,i] rfl rfl (any_of HT_.out (by kernel_rfl)) (fun _ _ _ h => h) (Or.inl ⟨by rfl, ?_⟩) ?_ ?_
        rotate_left
        ·intro w'
         go_simp
         with_reducible rfl
        rotate_left
        ·exact XShort.put
        refine pure_ (i := 4) (N := some 21) (v := ?_) (a' := ?_) #[o,o,o,o,o,i,i,i,i,i,i,i,i,i,i,i,i,i,i,i,i,i,i,i,i] rfl rfl (any_of HT_.out (by kernel_rfl)) (fun _ _ _ h => h) (Or.inl ⟨by rfl, ?_⟩) ?_ ?_
        rotate_left
        ·intro w'
         go_simp
         with_reducible rfl
        rotate_left
        ·exact XShort.put
        refine pure_ (i := 5) (N := some 22) (v := ?_) (a' := ?_) #[o,o,o,o,o,o,i,i,i,i,i,i,i,i,i,i,i,i,i,i,i,i,i,i,i] rfl rfl (any_of HT_.out (by kernel_rfl)) (fun _ _ _ h => h) (Or.inl ⟨by rfl, ?_⟩) ?_ ?_
        rotate_left
        ·intro w'
         go_simp
         with_reducible rfl
        rotate_left
        ·exact XShort.put
        refine pure_ (i := 6) (N := some 23) (v := ?_) (a' := ?_) #[o,o,o,o,o,o,o,i,i,i,i,i,i,i,i,i,i,i,i,i,i,i,i,i,i] rfl rfl (any_of HT_.out (by kernel_rfl)) (fun _ _ _ h => h) (Or.inl ⟨by rfl, ?_⟩) ?_ ?_
        rotate_left
        ·intro w'
         go_simp
         with_reducible rfl
        rotate_left
        ·exact XShort.put
        refine pure_ (i := 7) (N := some 24) (v := ?_) (a' := ?_) #[o,o,o,o,o,o,o,o,i,i,i,i,i,i,i,i,i,i,i,i,i,i,i,i,i] rfl rfl (any_of HT_.out (by kernel_rfl)) (fun _ _ _ h => h) (Or.inl ⟨by rfl, ?_⟩) ?_ ?_
        rotate_left
        ·intro w'
         go_simp
         with_reducible rfl
        rotate_left
        ·exact XShort.put
        refine take_ (i := 8) (N := some 25) (v := ?_) (a' := ?_) #[o,o,o,o,o,o,o,o,o,i,i,i,i,i,i,i,i,i,i,i,i,i,i,i,i] rfl rfl (take_ofW HT_.out HW_.out (by kernel_rfl)) (fun _ _ _ h => h) (Or.inl ⟨by rfl, ?_⟩) hHeld ?_ ?_
        rotate_left
        ·rintro w' ⟨s0, s1, s2, s3, s4, s5⟩
         go_simp
         with_reducible rfl
        rotate_left
        ·exact XShort.put
        refine one_ (i := 9) (N := some 26) #[o,o,o,o,o,o,o,o,o,o,i,i,i,i,i,i,i,i,i,i,i,i,i,i,i] rfl rfl (one_of HT_.out (by kernel_rfl)) (by decide) (fun K hK => ?_)
        refine goes_ Tryd.func38 (by kernel_rfl) rfl #[.int .i32 ((rd_T41 l0 x3_1).f1)] (by rfl) rfl rfl (by (try simp only [List.map_toArray, List.map_cons, List.map_nil]); first | done | rfl | (simp only [List.length_drop, List.length_take]; rfl)) ?_
        with_reducible refine (thistleref02_block.calls k1 ((rd_T41 l0 x3_1).f1) t156 _ A9.out).mono ?_
        rintro e w12 ⟨rfl, hb⟩
        refine ⟨_, rfl, ?_⟩
        have n0_ := Aside0.mk (below_step XShort.bel hb)
        clear HB
        have HB := n0_
        clear n0_
        (try clear hb)
        (try clear hb2)
        (try clear hk)
        (try clear hi)
        refine hK.out _ _ ⟨((HB.out.cell (World.block_lt_of_cell? w _ hw155_0)).trans hw155_0), ((HB.out.cell (World.block_lt_of_cell? w _ hw155_1)).trans hw155_1), ((HB.out.cell (World.block_lt_of_cell? w _ hw157_0)).trans hw157_0), ((HB.out.cell (World.block_lt_of_cell? w _ hw157_1)).trans hw157_1), ((HB.out.cell (World.block_lt_of_cell? w _ hw158_0)).trans hw158_0), ((HB.out.cell (World.block_lt_of_cell? w _ hw158_1)).trans hw158_1)⟩ (fun hHeld => ?_)
        clear hK K
        refine norm_ (a' := ?_) ?_ ?_
        rotate_left
        ·show Act.put _ (some 26) _ = _
         simp only [Act.put, List.setIfInBounds_toArray, List.set_cons_zero, List.set_cons_succ, i64_w, i32_w]
         rfl
        refine pure_ (i := 10) (N := some 27) (v := ?_) (a' := ?_) #[o,o,o,o,o,o,o,o,o,o,o,i,i,i,i,i,i,i,i,i,i,i,i,i,i] rfl rfl (any_of HT_.out (by kernel_rfl)) (fun _ _ _ h => h) (Or.inl ⟨by rfl, ?_⟩) ?_ ?_
        rotate_left
        ·intro w'
         go_simp
         with_reducible rfl
        rotate_left
        ·exact XShort.put
        refine pure_ (i := 11) (N := some 28) (v := ?_) (a' := ?_) #[o,o,o,o,o,o,o,o,o,o,o,o,i,i,i,i,i,i,i,i,i,i,i,i,i] rfl rfl (any_of HT_.out (by kernel_rfl)) (fun _ _ _ h => h) (Or.inl ⟨by rfl, ?_⟩) ?_ ?_
        rotate_left
        ·intro w'
         go_simp
         with_reducible rfl
        rotate_left
        ·exact XShort.put
        refine pure_ (i := 12) (N := some 29) (v := ?_) (a' := ?_) #[o,o,o,o,o,o,o,o,o,o,o,o,o,i,i,i,i,i,i,i,i,i,i,i,i] rfl rfl (any_of HT_.out (by kernel_rfl)) (fun _ _ _ h => h) (Or.inl ⟨by rfl, ?_⟩) ?_ ?_
        rotate_left
        ·intro w'
         go_simp
         with_reducible rfl
        rotate_left
        ·exact XShort.put
        refine pure_ (i := 13) (N := some 30) (v := ?_) (a' := ?_) #[o,o,o,o,o,o,o,o,o,o,o,o,o,o,i,i,i,i,i,i,i,i,i,i,i] rfl rfl (any_of HT_.out (by kernel_rfl)) (fun _ _ _ h => h) (Or.inl ⟨by rfl, ?_⟩) ?_ ?_
        rotate_left
        ·intro w'
         go_simp
         with_reducible rfl
        rotate_left
        ·exact XShort.put
        refine pure_ (i := 14) (N := some 31) (v := ?_) (a' := ?_) #[o,o,o,o,o,o,o,o,o,o,o,o,o,o,o,i,i,i,i,i,i,i,i,i,i] rfl rfl (any_of HT_.out (by kernel_rfl)) (fun _ _ _ h => h) (Or.inl ⟨by rfl, ?_⟩) ?_ ?_
        rotate_left
        ·intro w'
         go_simp
         with_reducible rfl
        rotate_left
        ·exact XShort.put
        refine pure_ (i := 15) (N := some 32) (v := ?_) (a' := ?_) #[o,o,o,o,o,o,o,o,o,o,o,o,o,o,o,o,i,i,i,i,i,i,i,i,i] rfl rfl (any_of HT_.out (by kernel_rfl)) (fun _ _ _ h => h) (Or.inl ⟨by rfl, ?_⟩) ?_ ?_
        rotate_left
        ·intro w'
         go_simp
         with_reducible rfl
        rotate_left
        ·exact XShort.put
        refine pure_ (i := 16) (N := some 33) (v := ?_) (a' := ?_) #[o,o,o,o,o,o,o,o,o,o,o,o,o,o,o,o,o,i,i,i,i,i,i,i,i] rfl rfl (any_of HT_.out (by kernel_rfl)) (fun _ _ _ h => h) (Or.inl ⟨by rfl, ?_⟩) ?_ ?_
        rotate_left
        ·intro w'
         go_simp
         with_reducible rfl
        rotate_left
        ·exact XShort.put
        refine pure_ (i := 18) (N := some 35) (v := ?_) (a' := ?_) #[o,o,o,o,o,o,o,o,o,o,o,o,o,o,o,o,o,i,o,i,i,i,i,i,i] rfl rfl (any_of HT_.out (by kernel_rfl)) (fun _ _ _ h => h) (Or.inl ⟨by rfl, ?_⟩) ?_ ?_
        rotate_left
        ·intro w'
         go_simp
         with_reducible rfl
        rotate_left
        ·exact XShort.put
        refine pure_ (i := 19) (N := some 36) (v := ?_) (a' := ?_) #[o,o,o,o,o,o,o,o,o,o,o,o,o,o,o,o,o,i,o,o,i,i,i,i,i] rfl rfl (any_of HT_.out (by kernel_rfl)) (fun _ _ _ h => h) (Or.inl ⟨by rfl, ?_⟩) ?_ ?_
        rotate_left
        ·intro w'
         go_simp
         with_reducible rfl
        rotate_left
        ·exact XShort.put
        refine pure_ (i := 20) (N := some 37) (v := ?_) (a' := ?_) #[o,o,o,o,o,o,o,o,o,o,o,o,o,o,o,o,o,i,o,o,o,i,i,i,i] rfl rfl (any_of HT_.out (by kernel_rfl)) (fun _ _ _ h => h) (Or.inl ⟨by rfl, ?_⟩) ?_ ?_
        rotate_left
        ·intro w'
         go_simp
         with_reducible rfl
        rotate_left
        ·exact XShort.put
        refine pure_ (i := 21) (N := some 38) (v := ?_) (a' := ?_) #[o,o,o,o,o,o,o,o,o,o,o,o,o,o,o,o,o,i,o,o,o,o,i,i,i] rfl rfl (any_of HT_.out (by kernel_rfl)) (fun _ _ _ h => h) (Or.inl ⟨by rfl, ?_⟩) ?_ ?_
        rotate_left
        ·intro w'
         go_simp
         with_reducible rfl
        rotate_left
        ·exact XShort.put
        refine take_ (i := 17) (N := some 34) (v := ?_) (a' := ?_) #[o,o,o,o,o,o,o,o,o,o,o,o,o,o,o,o,o,o,o,o,o,o,i,i,i] rfl rfl (take_ofW HT_.out HW_.out (by kernel_rfl)) (fun _ _ _ h => h) (Or.inl ⟨by rfl, ?_⟩) hHeld ?_ ?_
        rotate_left
        ·rintro w' ⟨s0, s1, s2, s3, s4, s5⟩
         go_simp
         with_reducible rfl
        rotate_left
        ·exact XShort.put
        refine take_ (i := 22) (N := some 39) (v := ?_) (a' := ?_) #[o,o,o,o,o,o,o,o,o,o,o,o,o,o,o,o,o,o,o,o,o,o,o,i,i] rfl rfl (take_ofW HT_.out HW_.out (by kernel_rfl)) (fun _ _ _ h => h) (Or.inl ⟨by rfl, ?_⟩) hHeld ?_ ?_
        rotate_left
        ·rintro w' ⟨s0, s1, s2, s3, s4, s5⟩
         go_simp
         with_reducible rfl
        rotate_left
        ·exact XShort.put
        refine pure_ (i := 23) (N := some 40) (v := ?_) (a' := ?_) #[o,o,o,o,o,o,o,o,o,o,o,o,o,o,o,o,o,o,o,o,o,o,o,o,i] rfl rfl (any_of HT_.out (by kernel_rfl)) (fun _ _ _ h => h) (Or.inl ⟨by rfl, ?_⟩) ?_ ?_
        rotate_left
        ·intro w'
         go_simp
         with_reducible rfl
        rotate_left
        ·exact XShort.put
        refine pure_ (i := 24) (N := some 41) (v := ?_) (a' := ?_) #[o,o,o,o,o,o,o,o,o,o,o,o,o,o,o,o,o,o,o,o,o,o,o,o,o] rfl rfl (any_of HT_.out (by kernel_rfl)) (fun _ _ _ h => h) (Or.inl ⟨by rfl, ?_⟩) ?_ ?_
        rotate_left
        ·intro w'
         go_simp
         with_reducible rfl
        rotate_left
        ·exact XShort.put
        refine done_ (done_of HT_.out (by kernel_rfl)) ?_
        try go_wp2
        go_meet
        case rel => exact ⟨_, (decide (((rd_T41 l0 x3_1).f0) > ((rd_T41 l0 x3_1).f1))), XShort.eqs, H', ⟨by have := HK1.out; first | omega | exact Nat.le_refl _⟩, ⟨XShort.bel⟩⟩
       ·rw [if_neg c10] at H
        have c10b0 : (t154 == t156) = false := beq_eq_false_iff_ne.mpr c10
        have c10b1 : (t154 != t156) = true := bne_iff_ne.mpr c10
        have H' := Aside0.mk H
        clear H
        try go_wp2
        have n0_ := Aside0.mk (below_drew1 HB.out)
        clear HB
        have HB := n0_
        clear n0_
        have p155 : 0 ≤ (x3_1 : Int) := of_decide_eq_true XShort.asm
        have q155 : x3_1 < (l0.length : Int) := of_decide_eq_true XShort.asm
        obtain ⟨ad155, e155, hx155_0, hx155_1⟩ := at_T41 HR0.out x3_1 p155 q155
        have hw155_1 := hx155_1
        have hw155_0 := hx155_0
        obtain rfl : ad153 = ad155 := (by injection e155)
        replace hx155_0 := (HB.out.cell (World.block_lt_of_cell? w _ hx155_0)).trans hx155_0
        replace hx155_1 := (HB.out.cell (World.block_lt_of_cell? w _ hx155_1)).trans hx155_1
        replace p155 := eq_true p155
        replace q155 := eq_true q155
        refine start_ (n := 25) (S := fun w' => w'.cell? (ad153.add ((x3_1).toNat * 2)) = some (.int .i32 ((rd_T41 l0 x3_1).f0)) ∧ w'.cell? ⟨(ad153.add ((x3_1).toNat * 2)).block, (ad153.add ((x3_1).toNat * 2)).off + 1, none⟩ = some (.int .i32 ((rd_T41 l0 x3_1).f1))) (ds := []) #[i,i,i,i,i,i,i,i,i,i,i,i,i,i,i,i,i,i,i,i,i,i,i,i,i] (by kernel_rfl) rfl rfl ⟨((HB.out.cell (World.block_lt_of_cell? w _ hw155_0)).trans hw155_0), ((HB.out.cell (World.block_lt_of_cell? w _ hw155_1)).trans hw155_1)⟩ (fun hHeld => ?_); refine with_tabW thistleref02_Check.tab5 thistleref02_Check.bits5 (fun HT_ HW_ => ?_)
        generalize w6.drew = w13 at HB hx155_0 hx155_1 hHeld ⊢
        refine pure_ (i := 0) (N := some 17) (v := ?_) (a' := ?_) #[o,i,i,i,i,i,i,i,i,i,i,i,i,i,i,i,i,i,i,i,i,i,i,i,i] rfl rfl (any_of HT_.out (by kernel_rfl)) (fun _ _ _ h => h) (Or.inl ⟨by rfl, ?_⟩) ?_ ?_
        rotate_left
        ·intro w'
         go_simp
         with_reducible rfl
        rotate_left
        ·exact XShort.put
        refine pure_ (i := 1) (N := some 18) (v := ?_) (a' := ?_) #[o,o,i,i,i,i,i,i,i,i,i,i,i,i,i,i,i,i,i,i,i,i,i,i,i] rfl rfl (any_of HT_.out (by kernel_rfl)) (fun _ _ _ h => h) (Or.inl ⟨by rfl, ?_⟩) ?_ ?_
        rotate_left
        ·intro w'
         go_simp
         with_reducible rfl
        rotate_left
        ·exact XShort.put
        refine pure_ (i := 2) (N := some 19) (v := ?_) (a' := ?_) #[o,o,o,i,i,i,i,i,i,i,i,i,i,i,i,i,i,i,i,i,i,i,i,i,i] rfl rfl (any_of HT_.out (by kernel_rfl)) (fun _ _ _ h => h) (Or.inl ⟨by rfl, ?_⟩) ?_ ?_
        rotate_left
        ·intro w'
         go_simp
         with_reducible rfl
        rotate_left
        ·exact XShort.put
        refine pure_ (i := 3) (N := some 20) (v := ?_) (a' := ?_) #[o,o,o,o,i,i,i,i,i,i,i,i,i,i,i,i,i,i,i,i,i,i,i,i,i] rfl rfl (any_of HT_.out (by kernel_rfl)) (fun _ _ _ h => h) (Or.inl ⟨by rfl, ?_⟩) ?_ ?_
        rotate_left
        ·intro w'
         go_simp
         with_reducible rfl
        rotate_left
        ·exact XShort.put
        refine pure_ (i := 4) (N := some 21) (v := ?_) (a' := ?_) #[o,o,o,o,o,i,i,i,i,i,i,i,i,i,i,i,i,i,i,i,i,i,i,i,i] rfl rfl (any_of HT_.out (by kernel_rfl)) (fun _ _ _ h => h) (Or.inl ⟨by rfl, ?_⟩) ?_ ?_
        rotate_left
        ·intro w'
         go_simp
         with_reducible rfl
        rotate_left
        ·exact XShort.put
        refine pure_ (i := 5) (N := some 22) (v := ?_) (a' := ?_) #[o,o,o,o,o,o,i,i,i,i,i,i,i,i,i,i,i,i,i,i,i,i,i,i,i] rfl rfl (any_of HT_.out (by kernel_rfl)) (fun _ _ _ h => h) (Or.inl ⟨by rfl, ?_⟩) ?_ ?_
        rotate_left
        ·intro w'
         go_simp
         with_reducible rfl
        rotate_left
        ·exact XShort.put
        refine pure_ (i := 6) (N := some 23) (v := ?_) (a' := ?_) #[o,o,o,o,o,o,o,i,i,i,i,i,i,i,i,i,i,i,i,i,i,i,i,i,i] rfl rfl (any_of HT_.out (by kernel_rfl)) (fun _ _ _ h => h) (Or.inl ⟨by rfl, ?_⟩) ?_ ?_
        rotate_left
        ·intro w'
         go_simp
         with_reducible rfl
        rotate_left
        ·exact XShort.put
        refine pure_ (i := 7) (N := some 24) (v := ?_) (a' := ?_) #[o,o,o,o,o,o,o,o,i,i,i,i,i,i,i,i,i,i,i,i,i,i,i,i,i] rfl rfl (any_of HT_.out (by kernel_rfl)) (fun _ _ _ h => h) (Or.inl ⟨by rfl, ?_⟩) ?_ ?_
        rotate_left
        ·intro w'
         go_simp
         with_reducible rfl
        rotate_left
        ·exact XShort.put
        refine take_ (i := 8) (N := some 25) (v := ?_) (a' := ?_) #[o,o,o,o,o,o,o,o,o,i,i,i,i,i,i,i,i,i,i,i,i,i,i,i,i] rfl rfl (take_ofW HT_.out HW_.out (by kernel_rfl)) (fun _ _ _ h => h) (Or.inl ⟨by rfl, ?_⟩) hHeld ?_ ?_
        rotate_left
        ·rintro w' ⟨s0, s1⟩
         go_simp
         with_reducible rfl
        rotate_left
        ·exact XShort.put
        refine one_ (i := 9) (N := some 26) #[o,o,o,o,o,o,o,o,o,o,i,i,i,i,i,i,i,i,i,i,i,i,i,i,i] rfl rfl (one_of HT_.out (by kernel_rfl)) (by decide) (fun K hK => ?_)
        refine goes_ Tryd.func38 (by kernel_rfl) rfl #[.int .i32 ((rd_T41 l0 x3_1).f1)] (by rfl) rfl rfl (by (try simp only [List.map_toArray, List.map_cons, List.map_nil]); first | done | rfl | (simp only [List.length_drop, List.length_take]; rfl)) ?_
        with_reducible refine (thistleref02_block.calls k1 ((rd_T41 l0 x3_1).f1) t156 _ A9.out).mono ?_
        rintro e w14 ⟨rfl, hb⟩
        refine ⟨_, rfl, ?_⟩
        have n0_ := Aside0.mk (below_step XShort.bel hb)
        clear HB
        have HB := n0_
        clear n0_
        (try clear hb)
        (try clear hb2)
        (try clear hk)
        (try clear hi)
        refine hK.out _ _ ⟨((HB.out.cell (World.block_lt_of_cell? w _ hw155_0)).trans hw155_0), ((HB.out.cell (World.block_lt_of_cell? w _ hw155_1)).trans hw155_1)⟩ (fun hHeld => ?_)
        clear hK K
        refine norm_ (a' := ?_) ?_ ?_
        rotate_left
        ·show Act.put _ (some 26) _ = _
         simp only [Act.put, List.setIfInBounds_toArray, List.set_cons_zero, List.set_cons_succ, i64_w, i32_w]
         rfl
        refine pure_ (i := 10) (N := some 27) (v := ?_) (a' := ?_) #[o,o,o,o,o,o,o,o,o,o,o,i,i,i,i,i,i,i,i,i,i,i,i,i,i] rfl rfl (any_of HT_.out (by kernel_rfl)) (fun _ _ _ h => h) (Or.inl ⟨by rfl, ?_⟩) ?_ ?_
        rotate_left
        ·intro w'
         go_simp
         with_reducible rfl
        rotate_left
        ·exact XShort.put
        refine pure_ (i := 11) (N := some 28) (v := ?_) (a' := ?_) #[o,o,o,o,o,o,o,o,o,o,o,o,i,i,i,i,i,i,i,i,i,i,i,i,i] rfl rfl (any_of HT_.out (by kernel_rfl)) (fun _ _ _ h => h) (Or.inl ⟨by rfl, ?_⟩) ?_ ?_
        rotate_left
        ·intro w'
         go_simp
         with_reducible rfl
        rotate_left
        ·exact XShort.put
        refine pure_ (i := 12) (N := some 29) (v := ?_) (a' := ?_) #[o,o,o,o,o,o,o,o,o,o,o,o,o,i,i,i,i,i,i,i,i,i,i,i,i] rfl rfl (any_of HT_.out (by kernel_rfl)) (fun _ _ _ h => h) (Or.inl ⟨by rfl, ?_⟩) ?_ ?_
        rotate_left
        ·intro w'
         go_simp
         with_reducible rfl
        rotate_left
        ·exact XShort.put
        refine pure_ (i := 13) (N := some 30) (v := undef) (a' := ?_) #[o,o,o,o,o,o,o,o,o,o,o,o,o,o,i,i,i,i,i,i,i,i,i,i,i] rfl rfl (any_of HT_.out (by kernel_rfl)) (fun _ _ _ h => h) (Or.inr ⟨by rfl, rfl⟩) ?_ ?_
        rotate_left
        ·exact XShort.put
        refine pure_ (i := 14) (N := some 31) (v := undef) (a' := ?_) #[o,o,o,o,o,o,o,o,o,o,o,o,o,o,o,i,i,i,i,i,i,i,i,i,i] rfl rfl (any_of HT_.out (by kernel_rfl)) (fun _ _ _ h => h) (Or.inr ⟨by rfl, rfl⟩) ?_ ?_
        rotate_left
        ·exact XShort.put
        refine pure_ (i := 15) (N := some 32) (v := undef) (a' := ?_) #[o,o,o,o,o,o,o,o,o,o,o,o,o,o,o,o,i,i,i,i,i,i,i,i,i] rfl rfl (any_of HT_.out (by kernel_rfl)) (fun _ _ _ h => h) (Or.inr ⟨by rfl, rfl⟩) ?_ ?_
        rotate_left
        ·exact XShort.put
        refine pure_ (i := 16) (N := some 33) (v := undef) (a' := ?_) #[o,o,o,o,o,o,o,o,o,o,o,o,o,o,o,o,o,i,i,i,i,i,i,i,i] rfl rfl (any_of HT_.out (by kernel_rfl)) (fun _ _ _ h => h) (Or.inr ⟨by rfl, rfl⟩) ?_ ?_
        rotate_left
        ·exact XShort.put
        refine pure_ (i := 17) (N := some 34) (v := undef) (a' := ?_) #[o,o,o,o,o,o,o,o,o,o,o,o,o,o,o,o,o,o,i,i,i,i,i,i,i] rfl rfl (any_of HT_.out (by kernel_rfl)) (fun _ _ _ h => h) (Or.inr ⟨by rfl, rfl⟩) ?_ ?_
        rotate_left
        ·exact XShort.put
        refine pure_ (i := 18) (N := some 35) (v := undef) (a' := ?_) #[o,o,o,o,o,o,o,o,o,o,o,o,o,o,o,o,o,o,o,i,i,i,i,i,i] rfl rfl (any_of HT_.out (by kernel_rfl)) (fun _ _ _ h => h) (Or.inr ⟨by rfl, rfl⟩) ?_ ?_
        rotate_left
        ·exact XShort.put
        refine pure_ (i := 19) (N := some 36) (v := undef) (a' := ?_) #[o,o,o,o,o,o,o,o,o,o,o,o,o,o,o,o,o,o,o,o,i,i,i,i,i] rfl rfl (any_of HT_.out (by kernel_rfl)) (fun _ _ _ h => h) (Or.inr ⟨by rfl, rfl⟩) ?_ ?_
        rotate_left
        ·exact XShort.put
        refine pure_ (i := 20) (N := some 37) (v := undef) (a' := ?_) #[o,o,o,o,o,o,o,o,o,o,o,o,o,o,o,o,o,o,o,o,o,i,i,i,i] rfl rfl (any_of HT_.out (by kernel_rfl)) (fun _ _ _ h => h) (Or.inr ⟨by rfl, rfl⟩) ?_ ?_
        rotate_left
        ·exact XShort.put
        refine pure_ (i := 21) (N := some 38) (v := undef) (a' := ?_) #[o,o,o,o,o,o,o,o,o,o,o,o,o,o,o,o,o,o,o,o,o,o,i,i,i] rfl rfl (any_of HT_.out (by kernel_rfl)) (fun _ _ _ h => h) (Or.inr ⟨by rfl, rfl⟩) ?_ ?_
        rotate_left
        ·exact XShort.put
        refine pure_ (i := 22) (N := some 39) (v := undef) (a' := ?_) #[o,o,o,o,o,o,o,o,o,o,o,o,o,o,o,o,o,o,o,o,o,o,o,i,i] rfl rfl (any_of HT_.out (by kernel_rfl)) (fun _ _ _ h => h) (Or.inr ⟨by rfl, rfl⟩) ?_ ?_
        rotate_left
        ·exact XShort.put
        refine pure_ (i := 23) (N := some 40) (v := undef) (a' := ?_) #[o,o,o,o,o,o,o,o,o,o,o,o,o,o,o,o,o,o,o,o,o,o,o,o,i] rfl rfl (any_of HT_.out (by kernel_rfl)) (fun _ _ _ h => h) (Or.inr ⟨by rfl, rfl⟩) ?_ ?_
        rotate_left
        ·exact XShort.put
        refine pure_ (i := 24) (N := some 41) (v := ?_) (a' := ?_) #[o,o,o,o,o,o,o,o,o,o,o,o,o,o,o,o,o,o,o,o,o,o,o,o,o] rfl rfl (any_of HT_.out (by kernel_rfl)) (fun _ _ _ h => h) (Or.inl ⟨by rfl, ?_⟩) ?_ ?_
        rotate_left
        ·intro w'
         go_simp
         with_reducible rfl
        rotate_left
        ·exact XShort.put
        refine done_ (done_of HT_.out (by kernel_rfl)) ?_
        try go_wp2
        go_meet
        case rel => exact ⟨_, (true), XShort.eqs, H', ⟨by have := HK1.out; first | omega | exact Nat.le_refl _⟩, ⟨XShort.bel⟩⟩
     case rest =>
      clear HC5
      try clear c1
      try clear p1
      try clear q1
      try clear hx1
      try clear p2
      try clear c3
      try clear c7
      try clear c7b0
      try clear c10
      try clear c10b0
      try clear c10b1
      try clear hx155_0
      try clear hx155_1
      try clear hx157_0
      try clear hx157_1
      try clear hx158_0
      try clear hx158_1
      try clear p155
      try clear p157
      try clear p158
      try clear q155
      try clear q157
      try clear q158
      obtain ⟨kq, x41_4, rfl, HA, HJ4, HB⟩ := hcut
      cases kq with
      | zero => exact absurd HA.out (by simp [thistleref02_Check.j1])
      | succ kj4 =>
       have H := HA.out
       clear HA
       simp only [thistleref02_Check.j1] at H
       by_cases c15 : x41_4 = true
       ·subst c15
        have H1 : (some 1) = some r := by rw [if_pos rfl] at H; exact H
        clear H
        have H := H1
        clear H1
        obtain rfl := Option.some.inj H
        go_wp2
        go_ret
        exact ⟨by first | rfl | (simp [errW_none, errW_some] <;> rfl) | (simp [*, errW_none, errW_some] <;> rfl), XShort.bel⟩
       ·replace c15 := Bool.eq_false_iff.mpr c15
        subst c15
        have H1 : (if x3_1 > 0 then (if 0 ≤ x3_1 then (if x3_1 < (l0.length : Int) then (if 0 ≤ (wrap64 (x3_1 - 1)) then (if (wrap64 (x3_1 - 1)) < (l0.length : Int) then (if (wrap64 ((rd_T41 l0 x3_1).f0)) ≤ (wrap64 ((wrap64 ((rd_T41 l0 (wrap64 (x3_1 - 1))).f1)) + 1)) then (some 1) else (thistleref02_Check.l0 kj4 l0 (wrap64 (x3_1 + 1)))) else (none)) else (none)) else (none)) else (none)) else (thistleref02_Check.l0 kj4 l0 (wrap64 (x3_1 + 1)))) = some r := by rw [if_neg (show ¬ (false = true) by decide)] at H; exact H
        clear H
        have H := H1
        clear H1
        by_cases c16 : x3_1 > 0
        ·rw [if_pos c16] at H
         have c16b0 : decide (0 < x3_1) = true := decide_eq_true c16
         clear c16
         by_cases c17 : 0 ≤ x3_1
         ·rw [if_pos c17] at H
          have c17b0 : decide (0 ≤ x3_1) = true := decide_eq_true c17
          clear c17
          by_cases c18 : x3_1 < (l0.length : Int)
          ·rw [if_pos c18] at H
           have c18b0 : decide (x3_1 < (l0.length : Int)) = true := decide_eq_true c18
           clear c18
           obtain ⟨ji19, hji19⟩ : ∃ j_ : Int, (wrap64 (x3_1 - 1)) = j_ := ⟨_, rfl⟩
           replace H : (if 0 ≤ (ji19) then (if (ji19) < (l0.length : Int) then (if (wrap64 ((rd_T41 l0 x3_1).f0)) ≤ (wrap64 ((wrap64 ((rd_T41 l0 (ji19)).f1)) + 1)) then (some 1) else (thistleref02_Check.l0 kj4 l0 (wrap64 (x3_1 + 1)))) else (none)) else (none)) = some r := by first | (rw [hji19] at H; exact H) | (simp only [hji19] at H ⊢; exact H)
           have hji19w : (IntKind.i64.wrap (x3_1 - 1)) = ji19 := (i64_w _).trans hji19
           by_cases c20 : 0 ≤ (ji19)
           ·rw [if_pos c20] at H
            have c20b0 : decide (0 ≤ (ji19)) = true := decide_eq_true c20
            clear c20
            by_cases c21 : (ji19) < (l0.length : Int)
            ·rw [if_pos c21] at H
             have c21b0 : decide ((ji19) < (l0.length : Int)) = true := decide_eq_true c21
             clear c21
             by_cases c22 : (wrap64 ((rd_T41 l0 x3_1).f0)) ≤ (wrap64 ((wrap64 ((rd_T41 l0 (ji19)).f1)) + 1))
             ·rw [if_pos c22] at H
              have c22b0 : decide ((wrap64 ((rd_T41 l0 x3_1).f0)) ≤ (wrap64 ((wrap64 ((rd_T41 l0 (ji19)).f1)) + 1))) = true := decide_eq_true c22
              clear c22
              obtain rfl := Option.some.inj H
              try go_wp2
              have n0_ := Aside0.mk (below_drew1 HB.out)
              clear HB
              have HB := n0_
              clear n0_
              have p159 : 0 ≤ (x3_1 : Int) := of_decide_eq_true XShort.asm
              have q159 : x3_1 < (l0.length : Int) := of_decide_eq_true XShort.asm
              obtain ⟨ad159, e159, hx159_0, hx159_1⟩ := at_T41 HR0.out x3_1 p159 q159
              have hw159_1 := hx159_1
              have hw159_0 := hx159_0
              obtain rfl : ad153 = ad159 := (by injection e159)
              replace hx159_0 := (HB.out.cell (World.block_lt_of_cell? w _ hx159_0)).trans hx159_0
              replace hx159_1 := (HB.out.cell (World.block_lt_of_cell? w _ hx159_1)).trans hx159_1
              replace p159 := eq_true p159
              replace q159 := eq_true q159
              have p160 : 0 ≤ ((ji19) : Int) := of_decide_eq_true XShort.asm
              have q160 : (ji19) < (l0.length : Int) := of_decide_eq_true XShort.asm
              obtain ⟨ad160, e160, hx160_0, hx160_1⟩ := at_T41 HR0.out (ji19) p160 q160
              have hw160_1 := hx160_1
              have hw160_0 := hx160_0
              obtain rfl : ad153 = ad160 := (by injection e160)
              replace hx160_0 := (HB.out.cell (World.block_lt_of_cell? w _ hx160_0)).trans hx160_0
              replace hx160_1 := (HB.out.cell (World.block_lt_of_cell? w _ hx160_1)).trans hx160_1
              replace p160 := eq_true p160
              replace q160 := eq_true q160
              refine start_ (n := 19) (S := fun w' => w'.cell? (ad153.add ((x3_1).toNat * 2)) = some (.int .i32 ((rd_T41 l0 x3_1).f0)) ∧ w'.cell? ⟨(ad153.add ((x3_1).toNat * 2)).block, (ad153.add ((x3_1).toNat * 2)).off + 1, none⟩ = some (.int .i32 ((rd_T41 l0 x3_1).f1)) ∧ w'.cell? (ad153.add (((ji19)).toNat * 2)) = some (.int .i32 ((rd_T41 l0 (ji19)).f0)) ∧ w'.cell? ⟨(ad153.add (((ji19)).toNat * 2)).block, (ad153.add (((ji19)).toNat * 2)).off + 1, none⟩ = some (.int .i32 ((rd_T41 l0 (ji19)).f1))) (ds := []) #[i,i,i,i,i,i,i,i,i,i,i,i,i,i,i,i,i,i,i] (by kernel_rfl) rfl rfl ⟨((HB.out.cell (World.block_lt_of_cell? w _ hw159_0)).trans hw159_0), ((HB.out.cell (World.block_lt_of_cell? w _ hw159_1)).trans hw159_1), ((HB.out.cell (World.block_lt_of_cell? w _ hw160_0)).trans hw160_0), ((HB.out.cell (World.block_lt_of_cell? w _ hw160_1)).trans hw160_1)⟩ (fun hHeld => ?_); refine with_tabW thistleref02_Check.tab7 thistleref02_Check.bits7 (fun HT_ HW_ => ?_)
              generalize wc.drew = w23 at HB hx159_0 hx159_1 hx160_0 hx160_1 hHeld ⊢
              refine pure_ (i := 0) (N := some 42) (v := ?_) (a' := ?_) #[o,i,i,i,i,i,i,i,i,i,i,i,i,i,i,i,i,i,i] rfl rfl (any_of HT_.out (by kernel_rfl)) (fun _ _ _ h => h) (Or.inl ⟨by rfl, ?_⟩) ?_ ?_
              rotate_left
              ·intro w'
               go_simp
               with_reducible rfl
              rotate_left
              ·exact XShort.put
              refine pure_ (i := 1) (N := some 43) (v := ?_) (a' := ?_) #[o,o,i,i,i,i,i,i,i,i,i,i,i,i,i,i,i,i,i] rfl rfl (any_of HT_.out (by kernel_rfl)) (fun _ _ _ h => h) (Or.inl ⟨by rfl, ?_⟩) ?_ ?_
              rotate_left
              ·intro w'
               go_simp
               with_reducible rfl
              rotate_left
              ·exact XShort.put
              refine pure_ (i := 2) (N := some 44) (v := ?_) (a' := ?_) #[o,o,o,i,i,i,i,i,i,i,i,i,i,i,i,i,i,i,i] rfl rfl (any_of HT_.out (by kernel_rfl)) (fun _ _ _ h => h) (Or.inl ⟨by rfl, ?_⟩) ?_ ?_
              rotate_left
              ·intro w'
               go_simp
               with_reducible rfl
              rotate_left
              ·exact XShort.put
              refine pure_ (i := 3) (N := some 45) (v := ?_) (a' := ?_) #[o,o,o,o,i,i,i,i,i,i,i,i,i,i,i,i,i,i,i] rfl rfl (any_of HT_.out (by kernel_rfl)) (fun _ _ _ h => h) (Or.inl ⟨by rfl, ?_⟩) ?_ ?_
              rotate_left
              ·intro w'
               go_simp
               with_reducible rfl
              rotate_left
              ·exact XShort.put
              refine pure_ (i := 4) (N := some 46) (v := ?_) (a' := ?_) #[o,o,o,o,o,i,i,i,i,i,i,i,i,i,i,i,i,i,i] rfl rfl (any_of HT_.out (by kernel_rfl)) (fun _ _ _ h => h) (Or.inl ⟨by rfl, ?_⟩) ?_ ?_
              rotate_left
              ·intro w'
               go_simp
               with_reducible rfl
              rotate_left
              ·exact XShort.put
              refine pure_ (i := 5) (N := some 47) (v := ?_) (a' := ?_) #[o,o,o,o,o,o,i,i,i,i,i,i,i,i,i,i,i,i,i] rfl rfl (any_of HT_.out (by kernel_rfl)) (fun _ _ _ h => h) (Or.inl ⟨by rfl, ?_⟩) ?_ ?_
              rotate_left
              ·intro w'
               go_simp
               with_reducible rfl
              rotate_left
              ·exact XShort.put
              refine pure_ (i := 6) (N := some 48) (v := ?_) (a' := ?_) #[o,o,o,o,o,o,o,i,i,i,i,i,i,i,i,i,i,i,i] rfl rfl (any_of HT_.out (by kernel_rfl)) (fun _ _ _ h => h) (Or.inl ⟨by rfl, ?_⟩) ?_ ?_
              rotate_left
              ·intro w'
               go_simp
               with_reducible rfl
              rotate_left
              ·exact XShort.put
              refine pure_ (i := 9) (N := some 51) (v := ?_) (a' := ?_) #[o,o,o,o,o,o,o,i,i,o,i,i,i,i,i,i,i,i,i] rfl rfl (any_of HT_.out (by kernel_rfl)) (fun _ _ _ h => h) (Or.inl ⟨by rfl, ?_⟩) ?_ ?_
              rotate_left
              ·intro w'
               go_simp
               with_reducible rfl
              rotate_left
              ·exact XShort.put
              refine pure_ (i := 10) (N := some 52) (v := ?_) (a' := ?_) #[o,o,o,o,o,o,o,i,i,o,o,i,i,i,i,i,i,i,i] rfl rfl (any_of HT_.out (by kernel_rfl)) (fun _ _ _ h => h) (Or.inl ⟨by rfl, ?_⟩) ?_ ?_
              rotate_left
              ·intro w'
               go_simp
               with_reducible rfl
              rotate_left
              ·exact XShort.put
              refine pure_ (i := 11) (N := some 53) (v := ?_) (a' := ?_) #[o,o,o,o,o,o,o,i,i,o,o,o,i,i,i,i,i,i,i] rfl rfl (any_of HT_.out (by kernel_rfl)) (fun _ _ _ h => h) (Or.inl ⟨by rfl, ?_⟩) ?_ ?_
              rotate_left
              ·intro w'
               go_simp
               with_reducible rfl
              rotate_left
              ·exact XShort.put
              refine pure_ (i := 12) (N := some 54) (v := ?_) (a' := ?_) #[o,o,o,o,o,o,o,i,i,o,o,o,o,i,i,i,i,i,i] rfl rfl (any_of HT_.out (by kernel_rfl)) (fun _ _ _ h => h) (Or.inl ⟨by rfl, ?_⟩) ?_ ?_
              rotate_left
              ·intro w'
               go_simp
               with_reducible rfl
              rotate_left
              ·exact XShort.put
              refine pure_ (i := 13) (N := some 55) (v := ?_) (a' := ?_) #[o,o,o,o,o,o,o,i,i,o,o,o,o,o,i,i,i,i,i] rfl rfl (any_of HT_.out (by kernel_rfl)) (fun _ _ _ h => h) (Or.inl ⟨by rfl, ?_⟩) ?_ ?_
              rotate_left
              ·intro w'
               go_simp
               with_reducible rfl
              rotate_left
              ·exact XShort.put
              refine take_ (i := 7) (N := some 49) (v := ?_) (a' := ?_) #[o,o,o,o,o,o,o,o,i,o,o,o,o,o,i,i,i,i,i] rfl rfl (take_ofW HT_.out HW_.out (by kernel_rfl)) (fun _ _ _ h => h) (Or.inl ⟨by rfl, ?_⟩) hHeld ?_ ?_
              rotate_left
              ·rintro w' ⟨s0, s1, s2, s3⟩
               go_simp
               with_reducible rfl
              rotate_left
              ·exact XShort.put
              refine pure_ (i := 8) (N := some 50) (v := ?_) (a' := ?_) #[o,o,o,o,o,o,o,o,o,o,o,o,o,o,i,i,i,i,i] rfl rfl (any_of HT_.out (by kernel_rfl)) (fun _ _ _ h => h) (Or.inl ⟨by rfl, ?_⟩) ?_ ?_
              rotate_left
              ·intro w'
               go_simp
               with_reducible rfl
              rotate_left
              ·exact XShort.put
              refine take_ (i := 14) (N := some 56) (v := ?_) (a' := ?_) #[o,o,o,o,o,o,o,o,o,o,o,o,o,o,o,i,i,i,i] rfl rfl (take_ofW HT_.out HW_.out (by kernel_rfl)) (fun _ _ _ h => h) (Or.inl ⟨by rfl, ?_⟩) hHeld ?_ ?_
              rotate_left
              ·rintro w' ⟨s0, s1, s2, s3⟩
               go_simp
               with_reducible rfl
              rotate_left
              ·exact XShort.put
              refine pure_ (i := 15) (N := some 57) (v := ?_) (a' := ?_) #[o,o,o,o,o,o,o,o,o,o,o,o,o,o,o,o,i,i,i] rfl rfl (any_of HT_.out (by kernel_rfl)) (fun _ _ _ h => h) (Or.inl ⟨by rfl, ?_⟩) ?_ ?_
              rotate_left
              ·intro w'
               go_simp
               with_reducible rfl
              rotate_left
              ·exact XShort.put
              refine pure_ (i := 16) (N := some 58) (v := ?_) (a' := ?_) #[o,o,o,o,o,o,o,o,o,o,o,o,o,o,o,o,o,i,i] rfl rfl (any_of HT_.out (by kernel_rfl)) (fun _ _ _ h => h) (Or.inl ⟨by rfl, ?_⟩) ?_ ?_
              rotate_left
              ·intro w'
               go_simp
               with_reducible rfl
              rotate_left
              ·exact XShort.put
              refine pure_ (i := 17) (N := some 59) (v := ?_) (a' := ?_) #[o,o,o,o,o,o,o,o,o,o,o,o,o,o,o,o,o,o,i] rfl rfl (any_of HT_.out (by kernel_rfl)) (fun _ _ _ h => h) (Or.inl ⟨by rfl, ?_⟩) ?_ ?_
              rotate_left
              ·intro w'
               go_simp
               with_reducible rfl
              rotate_left
              ·exact XShort.put
              refine pure_ (i := 18) (N := some 60) (v := ?_) (a' := ?_) #[o,o,o,o,o,o,o,o,o,o,o,o,o,o,o,o,o,o,o] rfl rfl (any_of HT_.out (by kernel_rfl)) (fun _ _ _ h => h) (Or.inl ⟨by rfl, ?_⟩) ?_ ?_
              rotate_left
              ·intro w'
               go_simp
               with_reducible rfl
              rotate_left
              ·exact XShort.put
              refine done_ (done_of HT_.out (by kernel_rfl)) ?_
              try go_wp2
              go_ret
              exact ⟨by first | rfl | (simp [errW_none, errW_some] <;> rfl) | (simp only [← hji19]; first | rfl | (simp [errW_none, errW_some] <;> rfl)) | (simp [*, errW_none, errW_some] <;> rfl), XShort.bel⟩
             ·rw [if_neg c22] at H
              have c22b0 : decide ((wrap64 ((rd_T41 l0 x3_1).f0)) ≤ (wrap64 ((wrap64 ((rd_T41 l0 (ji19)).f1)) + 1))) = false := decide_eq_false c22
              clear c22
              have H' := Aside0.mk H
              clear H
              try go_wp2
              have n0_ := Aside0.mk (below_drew1 HB.out)
              clear HB
              have HB := n0_
              clear n0_
              have p159 : 0 ≤ (x3_1 : Int) := of_decide_eq_true XShort.asm
              have q159 : x3_1 < (l0.length : Int) := of_decide_eq_true XShort.asm
              obtain ⟨ad159, e159, hx159_0, hx159_1⟩ := at_T41 HR0.out x3_1 p159 q159
              have hw159_1 := hx159_1
              have hw159_0 := hx159_0
              obtain rfl : ad153 = ad159 := (by injection e159)
              replace hx159_0 := (HB.out.cell (World.block_lt_of_cell? w _ hx159_0)).trans hx159_0
              replace hx159_1 := (HB.out.cell (World.block_lt_of_cell? w _ hx159_1)).trans hx159_1
              replace p159 := eq_true p159
              replace q159 := eq_true q159
              have p160 : 0 ≤ ((ji19) : Int) := of_decide_eq_true XShort.asm
              have q160 : (ji19) < (l0.length : Int) := of_decide_eq_true XShort.asm
              obtain ⟨ad160, e160, hx160_0, hx160_1⟩ := at_T41 HR0.out (ji19) p160 q160
              have hw160_1 := hx160_1
              have hw160_0 := hx160_0
              obtain rfl : ad153 = ad160 := (by injection e160)
              replace hx160_0 := (HB.out.cell (World.block_lt_of_cell? w _ hx160_0)).trans hx160_0
              replace hx160_1 := (HB.out.cell (World.block_lt_of_cell? w _ hx160_1)).trans hx160_1
              replace p160 := eq_true p160
              replace q160 := eq_true q160
              refine start_ (n := 19) (S := fun w' => w'.cell? (ad153.add ((x3_1).toNat * 2)) = some (.int .i32 ((rd_T41 l0 x3_1).f0)) ∧ w'.cell? ⟨(ad153.add ((x3_1).toNat * 2)).block, (ad153.add ((x3_1).toNat * 2)).off + 1, none⟩ = some (.int .i32 ((rd_T41 l0 x3_1).f1)) ∧ w'.cell? (ad153.add (((ji19)).toNat * 2)) = some (.int .i32 ((rd_T41 l0 (ji19)).f0)) ∧ w'.cell? ⟨(ad153.add (((ji19)).toNat * 2)).block, (ad153.add (((ji19)).toNat * 2)).off + 1, none⟩ = some (.int .i32 ((rd_T41 l0 (ji19)).f1))) (ds := []) #[i,i,i,i,i,i,i,i,i,i,i,i,i,i,i,i,i,i,i] (by kernel_rfl) rfl rfl ⟨((HB.out.cell (World.block_lt_of_cell? w _ hw159_0)).trans hw159_0), ((HB.out.cell (World.block_lt_of_cell? w _ hw159_1)).trans hw159_1), ((HB.out.cell (World.block_lt_of_cell? w _ hw160_0)).trans hw160_0), ((HB.out.cell (World.block_lt_of_cell? w _ hw160_1)).trans hw160_1)⟩ (fun hHeld => ?_); refine with_tabW thistleref02_Check.tab7 thistleref02_Check.bits7 (fun HT_ HW_ => ?_)
              generalize wc.drew = w24 at HB hx159_0 hx159_1 hx160_0 hx160_1 hHeld ⊢
              refine pure_ (i := 0) (N := some 42) (v := ?_) (a' := ?_) #[o,i,i,i,i,i,i,i,i,i,i,i,i,i,i,i,i,i,i] rfl rfl (any_of HT_.out (by kernel_rfl)) (fun _ _ _ h => h) (Or.inl ⟨by rfl, ?_⟩) ?_ ?_
              rotate_left
              ·intro w'
               go_simp
               with_reducible rfl
              rotate_left
              ·exact XShort.put
              refine pure_ (i := 1) (N := some 43) (v := ?_) (a' := ?_) #[o,o,i,i,i,i,i,i,i,i,i,i,i,i,i,i,i,i,i] rfl rfl (any_of HT_.out (by kernel_rfl)) (fun _ _ _ h => h) (Or.inl ⟨by rfl, ?_⟩) ?_ ?_
              rotate_left
              ·intro w'
               go_simp
               with_reducible rfl
              rotate_left
              ·exact XShort.put
              refine pure_ (i := 2) (N := some 44) (v := ?_) (a' := ?_) #[o,o,o,i,i,i,i,i,i,i,i,i,i,i,i,i,i,i,i] rfl rfl (any_of HT_.out (by kernel_rfl)) (fun _ _ _ h => h) (Or.inl ⟨by rfl, ?_⟩) ?_ ?_
              rotate_left
              ·intro w'
               go_simp
               with_reducible rfl
              rotate_left
              ·exact XShort.put
              refine pure_ (i := 3) (N := some 45) (v := ?_) (a' := ?_) #[o,o,o,o,i,i,i,i,i,i,i,i,i,i,i,i,i,i,i] rfl rfl (any_of HT_.out (by kernel_rfl)) (fun _ _ _ h => h) (Or.inl ⟨by rfl, ?_⟩) ?_ ?_
              rotate_left
              ·intro w'
               go_simp
               with_reducible rfl
              rotate_left
              ·exact XShort.put
              refine pure_ (i := 4) (N := some 46) (v := ?_) (a' := ?_) #[o,o,o,o,o,i,i,i,i,i,i,i,i,i,i,i,i,i,i] rfl rfl (any_of HT_.out (by kernel_rfl)) (fun _ _ _ h => h) (Or.inl ⟨by rfl, ?_⟩) ?_ ?_
              rotate_left
              ·intro w'
               go_simp
               with_reducible rfl
              rotate_left
              ·exact XShort.put
              refine pure_ (i := 5) (N := some 47) (v := ?_) (a' := ?_) #[o,o,o,o,o,o,i,i,i,i,i,i,i,i,i,i,i,i,i] rfl rfl (any_of HT_.out (by kernel_rfl)) (fun _ _ _ h => h) (Or.inl ⟨by rfl, ?_⟩) ?_ ?_
              rotate_left
              ·intro w'
               go_simp
               with_reducible rfl
              rotate_left
              ·exact XShort.put
              refine pure_ (i := 6) (N := some 48) (v := ?_) (a' := ?_) #[o,o,o,o,o,o,o,i,i,i,i,i,i,i,i,i,i,i,i] rfl rfl (any_of HT_.out (by kernel_rfl)) (fun _ _ _ h => h) (Or.inl ⟨by rfl, ?_⟩) ?_ ?_
              rotate_left
              ·intro w'
               go_simp
               with_reducible rfl
              rotate_left
              ·exact XShort.put
              refine pure_ (i := 9) (N := some 51) (v := ?_) (a' := ?_) #[o,o,o,o,o,o,o,i,i,o,i,i,i,i,i,i,i,i,i] rfl rfl (any_of HT_.out (by kernel_rfl)) (fun _ _ _ h => h) (Or.inl ⟨by rfl, ?_⟩) ?_ ?_
              rotate_left
              ·intro w'
               go_simp
               with_reducible rfl
              rotate_left
              ·exact XShort.put
              refine pure_ (i := 10) (N := some 52) (v := ?_) (a' := ?_) #[o,o,o,o,o,o,o,i,i,o,o,i,i,i,i,i,i,i,i] rfl rfl (any_of HT_.out (by kernel_rfl)) (fun _ _ _ h => h) (Or.inl ⟨by rfl, ?_⟩) ?_ ?_
              rotate_left
              ·intro w'
               go_simp
               with_reducible rfl
              rotate_left
              ·exact XShort.put
              refine pure_ (i := 11) (N := some 53) (v := ?_) (a' := ?_) #[o,o,o,o,o,o,o,i,i,o,o,o,i,i,i,i,i,i,i] rfl rfl (any_of HT_.out (by kernel_rfl)) (fun _ _ _ h => h) (Or.inl ⟨by rfl, ?_⟩) ?_ ?_
              rotate_left
              ·intro w'
               go_simp
               with_reducible rfl
              rotate_left
              ·exact XShort.put
              refine pure_ (i := 12) (N := some 54) (v := ?_) (a' := ?_) #[o,o,o,o,o,o,o,i,i,o,o,o,o,i,i,i,i,i,i] rfl rfl (any_of HT_.out (by kernel_rfl)) (fun _ _ _ h => h) (Or.inl ⟨by rfl, ?_⟩) ?_ ?_
              rotate_left
              ·intro w'
               go_simp
               with_reducible rfl
              rotate_left
              ·exact XShort.put
              refine pure_ (i := 13) (N := some 55) (v := ?_) (a' := ?_) #[o,o,o,o,o,o,o,i,i,o,o,o,o,o,i,i,i,i,i] rfl rfl (any_of HT_.out (by kernel_rfl)) (fun _ _ _ h => h) (Or.inl ⟨by rfl, ?_⟩) ?_ ?_
              rotate_left
              ·intro w'
               go_simp
               with_reducible rfl
              rotate_left
              ·exact XShort.put
              refine take_ (i := 7) (N := some 49) (v := ?_) (a' := ?_) #[o,o,o,o,o,o,o,o,i,o,o,o,o,o,i,i,i,i,i] rfl rfl (take_ofW HT_.out HW_.out (by kernel_rfl)) (fun _ _ _ h => h) (Or.inl ⟨by rfl, ?_⟩) hHeld ?_ ?_
              rotate_left
              ·rintro w' ⟨s0, s1, s2, s3⟩
               go_simp
               with_reducible rfl
              rotate_left
              ·exact XShort.put
              refine pure_ (i := 8) (N := some 50) (v := ?_) (a' := ?_) #[o,o,o,o,o,o,o,o,o,o,o,o,o,o,i,i,i,i,i] rfl rfl (any_of HT_.out (by kernel_rfl)) (fun _ _ _ h => h) (Or.inl ⟨by rfl, ?_⟩) ?_ ?_
              rotate_left
              ·intro w'
               go_simp
               with_reducible rfl
              rotate_left
              ·exact XShort.put
              refine take_ (i := 14) (N := some 56) (v := ?_) (a' := ?_) #[o,o,o,o,o,o,o,o,o,o,o,o,o,o,o,i,i,i,i] rfl rfl (take_ofW HT_.out HW_.out (by kernel_rfl)) (fun _ _ _ h => h) (Or.inl ⟨by rfl, ?_⟩) hHeld ?_ ?_
              rotate_left
              ·rintro w' ⟨s0, s1, s2, s3⟩
               go_simp
               with_reducible rfl
              rotate_left
              ·exact XShort.put
              refine pure_ (i := 15) (N := some 57) (v := ?_) (a' := ?_) #[o,o,o,o,o,o,o,o,o,o,o,o,o,o,o,o,i,i,i] rfl rfl (any_of HT_.out (by kernel_rfl)) (fun _ _ _ h => h) (Or.inl ⟨by rfl, ?_⟩) ?_ ?_
              rotate_left
              ·intro w'
               go_simp
               with_reducible rfl
              rotate_left
              ·exact XShort.put
              refine pure_ (i := 16) (N := some 58) (v := ?_) (a' := ?_) #[o,o,o,o,o,o,o,o,o,o,o,o,o,o,o,o,o,i,i] rfl rfl (any_of HT_.out (by kernel_rfl)) (fun _ _ _ h => h) (Or.inl ⟨by rfl, ?_⟩) ?_ ?_
              rotate_left
              ·intro w'
               go_simp
               with_reducible rfl
              rotate_left
              ·exact XShort.put
              refine pure_ (i := 17) (N := some 59) (v := ?_) (a' := ?_) #[o,o,o,o,o,o,o,o,o,o,o,o,o,o,o,o,o,o,i] rfl rfl (any_of HT_.out (by kernel_rfl)) (fun _ _ _ h => h) (Or.inl ⟨by rfl, ?_⟩) ?_ ?_
              rotate_left
              ·intro w'
               go_simp
               with_reducible rfl
              rotate_left
              ·exact XShort.put
              refine pure_ (i := 18) (N := some 60) (v := ?_) (a' := ?_) #[o,o,o,o,o,o,o,o,o,o,o,o,o,o,o,o,o,o,o] rfl rfl (any_of HT_.out (by kernel_rfl)) (fun _ _ _ h => h) (Or.inl ⟨by rfl, ?_⟩) ?_ ?_
              rotate_left
              ·intro w'
               go_simp
               with_reducible rfl
              rotate_left
              ·exact XShort.put
              refine done_ (done_of HT_.out (by kernel_rfl)) ?_
              try go_wp2
              go_roundg kj4
              case measure => have := HK1.out; have := HJ4.out; omega
              case rel => exact ⟨(wrap64 (x3_1 + 1)), XShort.eqs, H', ⟨by have := HK1.out; have := HJ4.out; omega⟩, ⟨XShort.bel⟩⟩
            ·rw [if_neg c21] at H
             exact absurd H (by simp)
           ·rw [if_neg c20] at H
            exact absurd H (by simp)
          ·rw [if_neg c18] at H
           exact absurd H (by simp)
         ·rw [if_neg c17] at H
          exact absurd H (by simp)
        ·rw [if_neg c16] at H
         have c16b0 : decide (0 < x3_1) = false := decide_eq_false c16
         clear c16
         have H' := Aside0.mk H
         clear H
         try go_wp2
         have n0_ := Aside0.mk (below_drew1 HB.out)
         clear HB
         have HB := n0_
         clear n0_
         refine start_ (n := 19) (S := fun w' => True) (ds := []) #[i,i,i,i,i,i,i,i,i,i,i,i,i,i,i,i,i,i,i] (by kernel_rfl) rfl rfl trivial (fun hHeld => ?_); refine with_tabW thistleref02_Check.tab7 thistleref02_Check.bits7 (fun HT_ HW_ => ?_)
         generalize wc.drew = w25 at HB hHeld ⊢
         refine pure_ (i := 0) (N := some 42) (v := ?_) (a' := ?_) #[o,i,i,i,i,i,i,i,i,i,i,i,i,i,i,i,i,i,i] rfl rfl (any_of HT_.out (by kernel_rfl)) (fun _ _ _ h => h) (Or.inl ⟨by rfl, ?_⟩) ?_ ?_
         rotate_left
         ·intro w'
          go_simp
          with_reducible rfl
         rotate_left
         ·exact XShort.put
         refine pure_ (i := 1) (N := some 43) (v := ?_) (a' := ?_) #[o,o,i,i,i,i,i,i,i,i,i,i,i,i,i,i,i,i,i] rfl rfl (any_of HT_.out (by kernel_rfl)) (fun _ _ _ h => h) (Or.inl ⟨by rfl, ?_⟩) ?_ ?_
         rotate_left
         ·intro w'
          go_simp
          with_reducible rfl
         rotate_left
         ·exact XShort.put
         refine pure_ (i := 2) (N := some 44) (v := ?_) (a' := ?_) #[o,o,o,i,i,i,i,i,i,i,i,i,i,i,i,i,i,i,i] rfl rfl (any_of HT_.out (by kernel_rfl)) (fun _ _ _ h => h) (Or.inl ⟨by rfl, ?_⟩) ?_ ?_
         rotate_left
         ·intro w'
          go_simp
          with_reducible rfl
         rotate_left
         ·exact XShort.put
         refine pure_ (i := 3) (N := some 45) (v := undef) (a' := ?_) #[o,o,o,o,i,i,i,i,i,i,i,i,i,i,i,i,i,i,i] rfl rfl (any_of HT_.out (by kernel_rfl)) (fun _ _ _ h => h) (Or.inr ⟨by rfl, rfl⟩) ?_ ?_
         rotate_left
         ·exact XShort.put
         refine pure_ (i := 4) (N := some 46) (v := undef) (a' := ?_) #[o,o,o,o,o,i,i,i,i,i,i,i,i,i,i,i,i,i,i] rfl rfl (any_of HT_.out (by kernel_rfl)) (fun _ _ _ h => h) (Or.inr ⟨by rfl, rfl⟩) ?_ ?_
         rotate_left
         ·exact XShort.put
         refine pure_ (i := 5) (N := some 47) (v := undef) (a' := ?_) #[o,o,o,o,o,o,i,i,i,i,i,i,i,i,i,i,i,i,i] rfl rfl (any_of HT_.out (by kernel_rfl)) (fun _ _ _ h => h) (Or.inr ⟨by rfl, rfl⟩) ?_ ?_
         rotate_left
         ·exact XShort.put
         refine pure_ (i := 6) (N := some 48) (v := undef) (a' := ?_) #[o,o,o,o,o,o,o,i,i,i,i,i,i,i,i,i,i,i,i] rfl rfl (any_of HT_.out (by kernel_rfl)) (fun _ _ _ h => h) (Or.inr ⟨by rfl, rfl⟩) ?_ ?_
         rotate_left
         ·exact XShort.put
         refine pure_ (i := 7) (N := some 49) (v := undef) (a' := ?_) #[o,o,o,o,o,o,o,o,i,i,i,i,i,i,i,i,i,i,i] rfl rfl (any_of HT_.out (by kernel_rfl)) (fun _ _ _ h => h) (Or.inr ⟨by rfl, rfl⟩) ?_ ?_
         rotate_left
         ·exact XShort.put
         refine pure_ (i := 8) (N := some 50) (v := undef) (a' := ?_) #[o,o,o,o,o,o,o,o,o,i,i,i,i,i,i,i,i,i,i] rfl rfl (any_of HT_.out (by kernel_rfl)) (fun _ _ _ h => h) (Or.inr ⟨by rfl, rfl⟩) ?_ ?_
         rotate_left
         ·exact XShort.put
         refine pure_ (i := 9) (N := some 51) (v := undef) (a' := ?_) #[o,o,o,o,o,o,o,o,o,o,i,i,i,i,i,i,i,i,i] rfl rfl (any_of HT_.out (by kernel_rfl)) (fun _ _ _ h => h) (Or.inr ⟨by rfl, rfl⟩) ?_ ?_
         rotate_left
         ·exact XShort.put
         refine pure_ (i := 10) (N := some 52) (v := undef) (a' := ?_) #[o,o,o,o,o,o,o,o,o,o,o,i,i,i,i,i,i,i,i] rfl rfl (any_of HT_.out (by kernel_rfl)) (fun _ _ _ h => h) (Or.inr ⟨by rfl, rfl⟩) ?_ ?_
         rotate_left
         ·exact XShort.put
         refine pure_ (i := 11) (N := some 53) (v := undef) (a' := ?_) #[o,o,o,o,o,o,o,o,o,o,o,o,i,i,i,i,i,i,i] rfl rfl (any_of HT_.out (by kernel_rfl)) (fun _ _ _ h => h) (Or.inr ⟨by rfl, rfl⟩) ?_ ?_
         rotate_left
         ·exact XShort.put
         refine pure_ (i := 12) (N := some 54) (v := undef) (a' := ?_) #[o,o,o,o,o,o,o,o,o,o,o,o,o,i,i,i,i,i,i] rfl rfl (any_of HT_.out (by kernel_rfl)) (fun _ _ _ h => h) (Or.inr ⟨by rfl, rfl⟩) ?_ ?_
         rotate_left
         ·exact XShort.put
         refine pure_ (i := 13) (N := some 55) (v := undef) (a' := ?_) #[o,o,o,o,o,o,o,o,o,o,o,o,o,o,i,i,i,i,i] rfl rfl (any_of HT_.out (by kernel_rfl)) (fun _ _ _ h => h) (Or.inr ⟨by rfl, rfl⟩) ?_ ?_
         rotate_left
         ·exact XShort.put
         refine pure_ (i := 14) (N := some 56) (v := undef) (a' := ?_) #[o,o,o,o,o,o,o,o,o,o,o,o,o,o,o,i,i,i,i] rfl rfl (any_of HT_.out (by kernel_rfl)) (fun _ _ _ h => h) (Or.inr ⟨by rfl, rfl⟩) ?_ ?_
         rotate_left
         ·exact XShort.put
         refine pure_ (i := 15) (N := some 57) (v := undef) (a' := ?_) #[o,o,o,o,o,o,o,o,o,o,o,o,o,o,o,o,i,i,i] rfl rfl (any_of HT_.out (by kernel_rfl)) (fun _ _ _ h => h) (Or.inr ⟨by rfl, rfl⟩) ?_ ?_
         rotate_left
         ·exact XShort.put
         refine pure_ (i := 16) (N := some 58) (v := undef) (a' := ?_) #[o,o,o,o,o,o,o,o,o,o,o,o,o,o,o,o,o,i,i] rfl rfl (any_of HT_.out (by kernel_rfl)) (fun _ _ _ h => h) (Or.inr ⟨by rfl, rfl⟩) ?_ ?_
         rotate_left
         ·exact XShort.put
         refine pure_ (i := 17) (N := some 59) (v := undef) (a' := ?_) #[o,o,o,o,o,o,o,o,o,o,o,o,o,o,o,o,o,o,i] rfl rfl (any_of HT_.out (by kernel_rfl)) (fun _ _ _ h => h) (Or.inr ⟨by rfl, rfl⟩) ?_ ?_
         rotate_left
         ·exact XShort.put
         refine pure_ (i := 18) (N := some 60) (v := ?_) (a' := ?_) #[o,o,o,o,o,o,o,o,o,o,o,o,o,o,o,o,o,o,o] rfl rfl (any_of HT_.out (by kernel_rfl)) (fun _ _ _ h => h) (Or.inl ⟨by rfl, ?_⟩) ?_ ?_
         rotate_left
         ·intro w'
          go_simp
          with_reducible rfl
         rotate_left
         ·exact XShort.put
         refine done_ (done_of HT_.out (by kernel_rfl)) ?_
         try go_wp2
         go_roundg kj4
         case measure => have := HK1.out; have := HJ4.out; omega
         case rel => exact ⟨(wrap64 (x3_1 + 1)), XShort.eqs, H', ⟨by have := HK1.out; have := HJ4.out; omega⟩, ⟨XShort.bel⟩⟩
    ·rw [if_neg c3] at H
     exact absurd H (by simp)
   ·rw [if_neg c2] at H
    have c2b0 : decide (x3_1 < (l0.length : Int)) = false := decide_eq_false c2
    clear c2
    obtain rfl := Option.some.inj H
    go_wp2
    go_ret
    exact ⟨by first | rfl | (simp [errW_none, errW_some] <;> rfl) | (simp [*, errW_none, errW_some] <;> rfl), XShort.bel⟩

end Go.Proofs.YtcpjflgiimjfmaaDoor.XF
