/- WRITTEN BY A PROGRAM OF THIS SESSION (wip/tools/xprint.py, over the kit's printer): contracts of the functions that the seat's laws reach. -/
import Derived.Test.YtcpjflgiimjfmaaDoorXLibShort
import Derived.Test.YtcpjflgiimjfmaaDoorXF0
import Derived.Test.YtcpjflgiimjfmaaDoorXF5
import Derived.Test.YtcpjflgiimjfmaaDoorXF12
import Derived.Test.YtcpjflgiimjfmaaDoorXF16
namespace Go.Proofs.YtcpjflgiimjfmaaDoor.XF
open Go.Proofs.YtcpjflgiimjfmaaDoor.XShort (o i)
open Go.RowKit Go.Proofs.YtcpjflgiimjfmaaDoorW.PrintWords Go.Proofs.YtcpjflgiimjfmaaDoorW.PrintLast Go.Proofs.YtcpjflgiimjfmaaDoorW.PrintMore
attribute [local go_sem] max2_int min2_int max_two min_two max_three min_three max_four min_four
set_option linter.unusedVariables false
set_option linter.unusedSimpArgs false

/-! ### thistlelaw03_FoldSets: function 3 -/
def thistlelaw03_FoldSets.l0 : Nat → List (List (S41)) → Int → Option (Bool)
 | 0, _, _ => none
 | k + 1, x0, x3 => if x3 < (x0.length : Int) then (if 0 ≤ x3 then ((thistleref03_Close.f k (rd_L7 x0 x3)).bind fun bt375 => ((thistleref02_CopyRanges.f (rd_L7 x0 x3)).bind fun t380 => ((fold_Close.f k t380).bind fun bt383 => (if bt383.2 = bt375.2 then ((thistleref02_SameRanges.f k bt383.1 bt375.1).bind fun t387 => (if t387 = true then (thistlelaw03_FoldSets.l0 k x0 (wrap64 (x3 + 1))) else (some false))) else (some false))))) else (none)) else (some true)
def thistlelaw03_FoldSets.f (k : Nat) (l0 : List (List (S41))) : Option (Bool) := (thistlelaw03_awake.f k).bind fun t373 => (if t373 = true then (thistlelaw03_FoldSets.l0 k l0 0) else (some false))
theorem thistlelaw03_FoldSets.mono_l : ∀ k, (∀ y0 y1, LeO (thistlelaw03_FoldSets.l0 k y0 y1) (thistlelaw03_FoldSets.l0 (k + 1) y0 y1))
 | 0 => fun _ _ r h => by simp [thistlelaw03_FoldSets.l0] at h
 | k + 1 => by
  have ih0 := thistlelaw03_FoldSets.mono_l k
  ·intro y0 y1
   unfold thistlelaw03_FoldSets.l0
   repeat' first
   | (with_reducible exact ih0 _ _)
   | (with_reducible exact fold_Close.mono _ _)
   | (with_reducible exact thistlelaw03_awake.mono _)
   | (with_reducible exact thistleref02_SameRanges.mono _ _ _)
   | (with_reducible exact thistleref03_Close.mono _ _)
   | (with_reducible exact LeO.refl _)
   | (with_reducible exact LeO.none _)
   | (with_reducible refine LeO.ite ?_ ?_)
   | (with_reducible refine LeO.bind ?_ (fun _ => ?_))
   | exact ih0 _ _
   | exact fold_Close.mono _ _
   | exact thistlelaw03_awake.mono _
   | exact thistleref02_SameRanges.mono _ _ _
   | exact thistleref03_Close.mono _ _
   | exact LeO.none _
   | refine LeO.ite ?_ ?_
   | refine LeO.bind ?_ (fun _ => ?_)
theorem thistlelaw03_FoldSets.mono : ∀ a0 k, LeO (thistlelaw03_FoldSets.f k a0) (thistlelaw03_FoldSets.f (k + 1) a0) := by
 intro a0 k
 have ih0 := thistlelaw03_FoldSets.mono_l k
 unfold thistlelaw03_FoldSets.f
 repeat' first
   | (with_reducible exact ih0 _ _)
   | (with_reducible exact fold_Close.mono _ _)
   | (with_reducible exact thistlelaw03_awake.mono _)
   | (with_reducible exact thistleref02_SameRanges.mono _ _ _)
   | (with_reducible exact thistleref03_Close.mono _ _)
   | (with_reducible exact LeO.refl _)
   | (with_reducible exact LeO.none _)
   | (with_reducible refine LeO.ite ?_ ?_)
   | (with_reducible refine LeO.bind ?_ (fun _ => ?_))
   | exact ih0 _ _
   | exact fold_Close.mono _ _
   | exact thistlelaw03_awake.mono _
   | exact thistleref02_SameRanges.mono _ _ _
   | exact thistleref03_Close.mono _ _
   | exact LeO.none _
   | refine LeO.ite ?_ ?_
   | refine LeO.bind ?_ (fun _ => ?_)
set_option maxHeartbeats 8000000 in
set_option maxRecDepth 100000 in
theorem thistlelaw03_FoldSets.calls (k : Nat) (A0 : Option Addr) (c0 : Nat) (l0 : List (List (S41))) (r : Bool) (w : World) (hr0 : Kd.C (Kd.slice 41 k41) w A0 l0.length l0) (hc0 : l0.length ≤ c0) (h : thistlelaw03_FoldSets.f k l0 = some r) (hG : GOK w := by first | (with_reducible exact HG_.out) | exact GOK.below HG_.out (by repeat (first | (with_reducible exact Below.refl _ _) | (with_reducible first | exact HB.out | apply below_alloc | apply pw_below_drewN | apply below_drew1 | refine below_set ?_ (Aside0.out (by assumption))) | exact HB.out)) | exact GOK.drewN HG_.out _ | exact GOK.drewN (GOK.drewN HG_.out _) _ | exact GOK.drew HG_.out) :
  Calls Tryd.prog 3 #[.slice A0 l0.length c0] w fun e w' => e = .returned (.bool r) ∧ Below w.heap.size w w' := by
 have HG_ := Aside0.mk hG
 clear hG
 have HR0 := Aside0.mk hr0
 have HC0 := Aside0.mk hc0
 clear hr0 hc0
 have HB := Aside0.mk (Below.refl w.heap.size w)
 have H : ((thistlelaw03_awake.f k).bind fun t373 => (if t373 = true then (thistlelaw03_FoldSets.l0 k l0 0) else (some false))) = some r := h
 clear h
 replace H := Option.bind_eq_some_iff.mp H
 obtain ⟨t373, A20, H⟩ := H
 replace H : (if t373 = true then (thistlelaw03_FoldSets.l0 k l0 0) else (some false)) = some r := H
 have A2 := Aside0.mk A20
 clear A20
 by_cases c3 : t373 = true
 ·subst c3
  have H1 : (thistlelaw03_FoldSets.l0 k l0 0) = some r := by rw [if_pos rfl] at H; exact H
  clear H
  have H := H1
  clear H1
  have H' := Aside0.mk H
  clear H
  go_enter Tryd.func3, Tryd.ntmps3
  go_wp2_with (first | ((with_reducible refine gate_callee (f := 5) rfl ?_); refine goesL_ (some 8) rfl rfl Tryd.func5 (by kernel_rfl) rfl #[] rfl (by (try simp only [List.map_toArray, List.map_cons, List.map_nil]); first | done | rfl | (simp only [List.length_drop, List.length_take]; rfl)) ?_; (with_reducible refine (thistlelaw03_awake.calls k  true _ A2.out).mono ?_); rintro e w4 ⟨rfl, hb⟩; refine ⟨_, rfl, ?_⟩; have n0_ := Aside0.mk (below_step XShort.bel hb); clear HB; have HB := n0_; clear n0_; (try clear hb); (try clear hb2); (try clear hk); (try clear hi)))
  go_loopg [3] k (fun kq v3 w' => ∃ (x3_1 : Int), v3 = .int .i64 x3_1 ∧ Aside0 (thistlelaw03_FoldSets.l0 kq l0 x3_1 = some r) ∧ Aside0 (kq ≤ k) ∧ Aside0 (Below w.heap.size w w'))
  case atStart => exact ⟨(0), XShort.eqs, H', ⟨Nat.le_refl _⟩, ⟨XShort.bel⟩⟩
  case round =>
   clear H'
   try clear p2
   try clear c3
   obtain ⟨x3_1, rfl, HA, HK1, HB⟩ := hrel
   cases gk with
   | zero => exact absurd HA.out (by simp [thistlelaw03_FoldSets.l0])
   | succ k1 =>
    have H := HA.out
    clear HA
    simp only [thistlelaw03_FoldSets.l0] at H
    by_cases c5 : x3_1 < (l0.length : Int)
    ·rw [if_pos c5] at H
     have c5b0 : decide (x3_1 < (l0.length : Int)) = true := decide_eq_true c5
     clear c5
     by_cases c6 : 0 ≤ x3_1
     ·rw [if_pos c6] at H
      have c6b0 : decide (0 ≤ x3_1) = true := decide_eq_true c6
      clear c6
      replace H := Option.bind_eq_some_iff.mp H
      obtain ⟨⟨t375, t376⟩, A70, H⟩ := H
      replace H : ((thistleref02_CopyRanges.f (rd_L7 l0 x3_1)).bind fun t380 => ((fold_Close.f k1 t380).bind fun bt383 => (if bt383.2 = t376 then ((thistleref02_SameRanges.f k1 bt383.1 t375).bind fun t387 => (if t387 = true then (thistlelaw03_FoldSets.l0 k1 l0 (wrap64 (x3_1 + 1))) else (some false))) else (some false)))) = some r := H
      have A7 := Aside0.mk A70
      clear A70
      replace H := Option.bind_eq_some_iff.mp H
      obtain ⟨t380, A80, H⟩ := H
      replace H : ((fold_Close.f k1 t380).bind fun bt383 => (if bt383.2 = t376 then ((thistleref02_SameRanges.f k1 bt383.1 t375).bind fun t387 => (if t387 = true then (thistlelaw03_FoldSets.l0 k1 l0 (wrap64 (x3_1 + 1))) else (some false))) else (some false))) = some r := H
      have A8 := Aside0.mk A80
      clear A80
      replace H := Option.bind_eq_some_iff.mp H
      obtain ⟨⟨t383, t384⟩, A90, H⟩ := H
      replace H : (if t384 = t376 then ((thistleref02_SameRanges.f k1 t383 t375).bind fun t387 => (if t387 = true then (thistlelaw03_FoldSets.l0 k1 l0 (wrap64 (x3_1 + 1))) else (some false))) else (some false)) = some r := H
      have A9 := Aside0.mk A90
      clear A90
      by_cases c10 : t384 = t376
      ·rw [if_pos c10] at H
       have c10b0 : (t384 == t376) = true := beq_iff_eq.mpr c10
       have c10b1 : (t384 != t376) = false := bne_eq_false_iff_eq.mpr c10
       clear c10
       replace H := Option.bind_eq_some_iff.mp H
       obtain ⟨t387, A110, H⟩ := H
       replace H : (if t387 = true then (thistlelaw03_FoldSets.l0 k1 l0 (wrap64 (x3_1 + 1))) else (some false)) = some r := H
       have A11 := Aside0.mk A110
       clear A110
       by_cases c12 : t387 = true
       ·subst c12
        have H1 : (thistlelaw03_FoldSets.l0 k1 l0 (wrap64 (x3_1 + 1))) = some r := by rw [if_pos rfl] at H; exact H
        clear H
        have H := H1
        clear H1
        have H' := Aside0.mk H
        clear H
        have p374 : 0 ≤ (x3_1 : Int) := of_decide_eq_true XShort.asm
        have q374 : x3_1 < (l0.length : Int) := of_decide_eq_true XShort.asm
        obtain ⟨ad374, A374_0, c374_0, e374, hx374_0, hl374_0, hi374_0⟩ := at_L7 HR0.out x3_1 p374 q374
        cases e374
        replace hx374_0 := (HB.out.cell (World.block_lt_of_cell? w _ hx374_0)).trans hx374_0
        have HR374_0 := Aside0.mk hi374_0
        have HC374_0 := Aside0.mk hl374_0
        clear hi374_0 hl374_0
        replace p374 := eq_true p374
        replace q374 := eq_true q374
        go_wp2_with (first | ((with_reducible refine gate_callee (f := 6) rfl ?_); refine goesL_ (some 21) rfl rfl Tryd.func6 (by kernel_rfl) rfl #[.slice A374_0 (rd_L7 l0 x3_1).length c374_0] rfl (by (try simp only [List.map_toArray, List.map_cons, List.map_nil]); first | done | rfl | (simp only [List.length_drop, List.length_take]; rfl)) ?_; (with_reducible refine (thistleref03_Close.calls k1 _ _ (rd_L7 l0 x3_1) t375 t376 _ ?side1 ?side2 A7.out).mono ?_); (case side1 => repeat (first | exact (Kd.C_below HR374_0.out HB.out) | (with_reducible refine Kd.C_alloc ?_ _) | (with_reducible refine Kd.C_drewN ?_ _) | (with_reducible refine Kd.C_drew ?_))); (case side2 => exact HC374_0.out); rintro e w13 ⟨v377, rfl, ho0, hb⟩; refine ⟨_, rfl, ?_⟩; have n0_ := Aside0.mk (Kd.R_lower ho0 (below_size XShort.bel)); have n1_ := Aside0.mk (below_step XShort.bel hb); clear HB; have HO378 := n0_; have HB := n1_; clear n0_ n1_; (try clear hb); (try clear hb2); (try clear hk); (try clear hi); (try clear ho0); have p379 : 0 ≤ (x3_1 : Int) := of_decide_eq_true XShort.asm; have q379 : x3_1 < (l0.length : Int) := of_decide_eq_true XShort.asm; obtain ⟨ad379, A379_0, c379_0, e379, hx379_0, hl379_0, hi379_0⟩ := at_L7 HR0.out x3_1 p379 q379; obtain rfl : ad374 = ad379 := (by injection e379); replace hx379_0 := (HB.out.cell (World.block_lt_of_cell? w _ hx379_0)).trans hx379_0; have HR379_0 := Aside0.mk hi379_0; have HC379_0 := Aside0.mk hl379_0; clear hi379_0 hl379_0; replace p379 := eq_true p379; replace q379 := eq_true q379) | ((with_reducible refine gate_callee (f := 8) rfl ?_); refine goesL_ (some 29) rfl rfl Tryd.func8 (by kernel_rfl) rfl #[.slice A379_0 (rd_L7 l0 x3_1).length c379_0] rfl (by (try simp only [List.map_toArray, List.map_cons, List.map_nil]); first | done | rfl | (simp only [List.length_drop, List.length_take]; rfl)) ?_; (with_reducible refine (thistleref02_CopyRanges.calls _ _ (rd_L7 l0 x3_1) t380 _ ?side1 ?side2 A8.out).mono ?_); (case side1 => repeat (first | exact (Kd.C_below HR379_0.out HB.out) | (with_reducible refine Kd.C_alloc ?_ _) | (with_reducible refine Kd.C_drewN ?_ _) | (with_reducible refine Kd.C_drew ?_))); (case side2 => exact HC379_0.out); rintro e w14 ⟨v381, rfl, ho0, hb⟩; refine ⟨_, rfl, ?_⟩; have n0_ := Aside0.mk (Kd.R_elder' (XShort.rr HO378.out) (Kd.R_base ho0) hb); have n1_ := Aside0.mk (Kd.R_lower (Kd.R_new' ho0 (Kd.R_lt (XShort.rr HO378.out))) (below_size XShort.bel)); have n2_ := Aside0.mk (below_step XShort.bel hb); clear HO378; clear HB; have HO378 := n0_; have HO382 := n1_; have HB := n2_; clear n0_ n1_ n2_; (try clear hb); (try clear hb2); (try clear hk); (try clear hi); (try clear ho0); obtain ⟨Ao15, co15, eo15⟩ := Kd.R_slice HO382.out; subst eo15) | ((with_reducible refine gate_callee (f := 7) rfl ?_); refine goesL_ (some 30) rfl rfl Tryd.func7 (by kernel_rfl) rfl #[.slice Ao15 t380.length co15] rfl (by (try simp only [List.map_toArray, List.map_cons, List.map_nil]); first | done | rfl | (simp only [List.length_drop, List.length_take]; rfl)) ?_; (with_reducible refine (fold_Close.calls k1 _ _ t380 t383 t384 _ ?side1 ?side2 A9.out).mono ?_); (case side1 => repeat (first | exact (Kd.R_reads' HO382.out).2.2 | (with_reducible refine Kd.C_alloc ?_ _) | (with_reducible refine Kd.C_drewN ?_ _) | (with_reducible refine Kd.C_drew ?_))); (case side2 => exact (Kd.R_reads' HO382.out).2.1); rintro e w16 ⟨v385, rfl, ho0, hb⟩; refine ⟨_, rfl, ?_⟩; have n0_ := Aside0.mk (Kd.R_elder' (XShort.rr HO378.out) (Kd.R_base ho0) hb); have n1_ := Aside0.mk (Kd.R_elder' (XShort.rr HO382.out) (Kd.R_base ho0) hb); have n2_ := Aside0.mk (Kd.R_lower (Kd.R_new' (Kd.R_new' ho0 (Kd.R_lt (XShort.rr HO378.out))) (Kd.R_lt (XShort.rr HO382.out))) (below_size XShort.bel)); have n3_ := Aside0.mk (below_step XShort.bel hb); clear HO378; clear HO382; clear HB; have HO378 := n0_; have HO382 := n1_; have HO386 := n2_; have HB := n3_; clear n0_ n1_ n2_ n3_; (try clear hb); (try clear hb2); (try clear hk); (try clear hi); (try clear ho0); obtain ⟨Ao17, co17, eo17⟩ := Kd.R_slice HO386.out; subst eo17; obtain ⟨Ao18, co18, eo18⟩ := Kd.R_slice HO378.out; subst eo18) | (go_at_call 9; (with_reducible refine (thistleref02_SameRanges.calls k1 _ _ t383 _ _ t375 true _ ?side1 ?side2 ?side3 ?side4 A11.out).mono ?_); (case side1 => repeat (first | exact (Kd.R_reads' HO386.out).2.2 | (with_reducible refine Kd.C_alloc ?_ _) | (with_reducible refine Kd.C_drewN ?_ _) | (with_reducible refine Kd.C_drew ?_))); (case side2 => exact (Kd.R_reads' HO386.out).2.1); (case side3 => repeat (first | exact (Kd.R_reads' HO378.out).2.2 | (with_reducible refine Kd.C_alloc ?_ _) | (with_reducible refine Kd.C_drewN ?_ _) | (with_reducible refine Kd.C_drew ?_))); (case side4 => exact (Kd.R_reads' HO378.out).2.1); rintro e w' ⟨rfl, ⟨nd, rfl⟩⟩))
        go_roundg k1
        case measure => have := HK1.out; omega
        case rel => exact ⟨(wrap64 (x3_1 + 1)), XShort.eqs, H', ⟨by have := HK1.out; omega⟩, ⟨XShort.bel⟩⟩
       ·replace c12 := Bool.eq_false_iff.mpr c12
        subst c12
        have H1 : (some false) = some r := by rw [if_neg (show ¬ (false = true) by decide)] at H; exact H
        clear H
        have H := H1
        clear H1
        obtain rfl := Option.some.inj H
        have p374 : 0 ≤ (x3_1 : Int) := of_decide_eq_true XShort.asm
        have q374 : x3_1 < (l0.length : Int) := of_decide_eq_true XShort.asm
        obtain ⟨ad374, A374_0, c374_0, e374, hx374_0, hl374_0, hi374_0⟩ := at_L7 HR0.out x3_1 p374 q374
        cases e374
        replace hx374_0 := (HB.out.cell (World.block_lt_of_cell? w _ hx374_0)).trans hx374_0
        have HR374_0 := Aside0.mk hi374_0
        have HC374_0 := Aside0.mk hl374_0
        clear hi374_0 hl374_0
        replace p374 := eq_true p374
        replace q374 := eq_true q374
        go_wp2_with (first | ((with_reducible refine gate_callee (f := 6) rfl ?_); refine goesL_ (some 21) rfl rfl Tryd.func6 (by kernel_rfl) rfl #[.slice A374_0 (rd_L7 l0 x3_1).length c374_0] rfl (by (try simp only [List.map_toArray, List.map_cons, List.map_nil]); first | done | rfl | (simp only [List.length_drop, List.length_take]; rfl)) ?_; (with_reducible refine (thistleref03_Close.calls k1 _ _ (rd_L7 l0 x3_1) t375 t376 _ ?side1 ?side2 A7.out).mono ?_); (case side1 => repeat (first | exact (Kd.C_below HR374_0.out HB.out) | (with_reducible refine Kd.C_alloc ?_ _) | (with_reducible refine Kd.C_drewN ?_ _) | (with_reducible refine Kd.C_drew ?_))); (case side2 => exact HC374_0.out); rintro e w19 ⟨v377, rfl, ho0, hb⟩; refine ⟨_, rfl, ?_⟩; have n0_ := Aside0.mk (Kd.R_lower ho0 (below_size XShort.bel)); have n1_ := Aside0.mk (below_step XShort.bel hb); clear HB; have HO378 := n0_; have HB := n1_; clear n0_ n1_; (try clear hb); (try clear hb2); (try clear hk); (try clear hi); (try clear ho0); have p379 : 0 ≤ (x3_1 : Int) := of_decide_eq_true XShort.asm; have q379 : x3_1 < (l0.length : Int) := of_decide_eq_true XShort.asm; obtain ⟨ad379, A379_0, c379_0, e379, hx379_0, hl379_0, hi379_0⟩ := at_L7 HR0.out x3_1 p379 q379; obtain rfl : ad374 = ad379 := (by injection e379); replace hx379_0 := (HB.out.cell (World.block_lt_of_cell? w _ hx379_0)).trans hx379_0; have HR379_0 := Aside0.mk hi379_0; have HC379_0 := Aside0.mk hl379_0; clear hi379_0 hl379_0; replace p379 := eq_true p379; replace q379 := eq_true q379) | ((with_reducible refine gate_callee (f := 8) rfl ?_); refine goesL_ (some 29) rfl rfl Tryd.func8 (by kernel_rfl) rfl #[.slice A379_0 (rd_L7 l0 x3_1).length c379_0] rfl (by (try simp only [List.map_toArray, List.map_cons, List.map_nil]); first | done | rfl | (simp only [List.length_drop, List.length_take]; rfl)) ?_; (with_reducible refine (thistleref02_CopyRanges.calls _ _ (rd_L7 l0 x3_1) t380 _ ?side1 ?side2 A8.out).mono ?_); (case side1 => repeat (first | exact (Kd.C_below HR379_0.out HB.out) | (with_reducible refine Kd.C_alloc ?_ _) | (with_reducible refine Kd.C_drewN ?_ _) | (with_reducible refine Kd.C_drew ?_))); (case side2 => exact HC379_0.out); rintro e w20 ⟨v381, rfl, ho0, hb⟩; refine ⟨_, rfl, ?_⟩; have n0_ := Aside0.mk (Kd.R_elder' (XShort.rr HO378.out) (Kd.R_base ho0) hb); have n1_ := Aside0.mk (Kd.R_lower (Kd.R_new' ho0 (Kd.R_lt (XShort.rr HO378.out))) (below_size XShort.bel)); have n2_ := Aside0.mk (below_step XShort.bel hb); clear HO378; clear HB; have HO378 := n0_; have HO382 := n1_; have HB := n2_; clear n0_ n1_ n2_; (try clear hb); (try clear hb2); (try clear hk); (try clear hi); (try clear ho0); obtain ⟨Ao21, co21, eo21⟩ := Kd.R_slice HO382.out; subst eo21) | ((with_reducible refine gate_callee (f := 7) rfl ?_); refine goesL_ (some 30) rfl rfl Tryd.func7 (by kernel_rfl) rfl #[.slice Ao21 t380.length co21] rfl (by (try simp only [List.map_toArray, List.map_cons, List.map_nil]); first | done | rfl | (simp only [List.length_drop, List.length_take]; rfl)) ?_; (with_reducible refine (fold_Close.calls k1 _ _ t380 t383 t384 _ ?side1 ?side2 A9.out).mono ?_); (case side1 => repeat (first | exact (Kd.R_reads' HO382.out).2.2 | (with_reducible refine Kd.C_alloc ?_ _) | (with_reducible refine Kd.C_drewN ?_ _) | (with_reducible refine Kd.C_drew ?_))); (case side2 => exact (Kd.R_reads' HO382.out).2.1); rintro e w22 ⟨v385, rfl, ho0, hb⟩; refine ⟨_, rfl, ?_⟩; have n0_ := Aside0.mk (Kd.R_elder' (XShort.rr HO378.out) (Kd.R_base ho0) hb); have n1_ := Aside0.mk (Kd.R_elder' (XShort.rr HO382.out) (Kd.R_base ho0) hb); have n2_ := Aside0.mk (Kd.R_lower (Kd.R_new' (Kd.R_new' ho0 (Kd.R_lt (XShort.rr HO378.out))) (Kd.R_lt (XShort.rr HO382.out))) (below_size XShort.bel)); have n3_ := Aside0.mk (below_step XShort.bel hb); clear HO378; clear HO382; clear HB; have HO378 := n0_; have HO382 := n1_; have HO386 := n2_; have HB := n3_; clear n0_ n1_ n2_ n3_; (try clear hb); (try clear hb2); (try clear hk); (try clear hi); (try clear ho0); obtain ⟨Ao23, co23, eo23⟩ := Kd.R_slice HO386.out; subst eo23; obtain ⟨Ao24, co24, eo24⟩ := Kd.R_slice HO378.out; subst eo24) | (go_at_call 9; (with_reducible refine (thistleref02_SameRanges.calls k1 _ _ t383 _ _ t375 false _ ?side1 ?side2 ?side3 ?side4 A11.out).mono ?_); (case side1 => repeat (first | exact (Kd.R_reads' HO386.out).2.2 | (with_reducible refine Kd.C_alloc ?_ _) | (with_reducible refine Kd.C_drewN ?_ _) | (with_reducible refine Kd.C_drew ?_))); (case side2 => exact (Kd.R_reads' HO386.out).2.1); (case side3 => repeat (first | exact (Kd.R_reads' HO378.out).2.2 | (with_reducible refine Kd.C_alloc ?_ _) | (with_reducible refine Kd.C_drewN ?_ _) | (with_reducible refine Kd.C_drew ?_))); (case side4 => exact (Kd.R_reads' HO378.out).2.1); rintro e w' ⟨rfl, ⟨nd, rfl⟩⟩))
        go_ret
        exact ⟨by first | rfl | (simp [errW_none, errW_some] <;> rfl) | (simp [*, errW_none, errW_some] <;> rfl), XShort.bel⟩
      ·rw [if_neg c10] at H
       have c10b0 : (t384 == t376) = false := beq_eq_false_iff_ne.mpr c10
       have c10b1 : (t384 != t376) = true := bne_iff_ne.mpr c10
       obtain rfl := Option.some.inj H
       have p374 : 0 ≤ (x3_1 : Int) := of_decide_eq_true XShort.asm
       have q374 : x3_1 < (l0.length : Int) := of_decide_eq_true XShort.asm
       obtain ⟨ad374, A374_0, c374_0, e374, hx374_0, hl374_0, hi374_0⟩ := at_L7 HR0.out x3_1 p374 q374
       cases e374
       replace hx374_0 := (HB.out.cell (World.block_lt_of_cell? w _ hx374_0)).trans hx374_0
       have HR374_0 := Aside0.mk hi374_0
       have HC374_0 := Aside0.mk hl374_0
       clear hi374_0 hl374_0
       replace p374 := eq_true p374
       replace q374 := eq_true q374
       go_wp2_with (first | ((with_reducible refine gate_callee (f := 6) rfl ?_); refine goesL_ (some 21) rfl rfl Tryd.func6 (by kernel_rfl) rfl #[.slice A374_0 (rd_L7 l0 x3_1).length c374_0] rfl (by (try simp only [List.map_toArray, List.map_cons, List.map_nil]); first | done | rfl | (simp only [List.length_drop, List.length_take]; rfl)) ?_; (with_reducible refine (thistleref03_Close.calls k1 _ _ (rd_L7 l0 x3_1) t375 t376 _ ?side1 ?side2 A7.out).mono ?_); (case side1 => repeat (first | exact (Kd.C_below HR374_0.out HB.out) | (with_reducible refine Kd.C_alloc ?_ _) | (with_reducible refine Kd.C_drewN ?_ _) | (with_reducible refine Kd.C_drew ?_))); (case side2 => exact HC374_0.out); rintro e w25 ⟨v377, rfl, ho0, hb⟩; refine ⟨_, rfl, ?_⟩; have n0_ := Aside0.mk (Kd.R_lower ho0 (below_size XShort.bel)); have n1_ := Aside0.mk (below_step XShort.bel hb); clear HB; have HO378 := n0_; have HB := n1_; clear n0_ n1_; (try clear hb); (try clear hb2); (try clear hk); (try clear hi); (try clear ho0); have p379 : 0 ≤ (x3_1 : Int) := of_decide_eq_true XShort.asm; have q379 : x3_1 < (l0.length : Int) := of_decide_eq_true XShort.asm; obtain ⟨ad379, A379_0, c379_0, e379, hx379_0, hl379_0, hi379_0⟩ := at_L7 HR0.out x3_1 p379 q379; obtain rfl : ad374 = ad379 := (by injection e379); replace hx379_0 := (HB.out.cell (World.block_lt_of_cell? w _ hx379_0)).trans hx379_0; have HR379_0 := Aside0.mk hi379_0; have HC379_0 := Aside0.mk hl379_0; clear hi379_0 hl379_0; replace p379 := eq_true p379; replace q379 := eq_true q379) | ((with_reducible refine gate_callee (f := 8) rfl ?_); refine goesL_ (some 29) rfl rfl Tryd.func8 (by kernel_rfl) rfl #[.slice A379_0 (rd_L7 l0 x3_1).length c379_0] rfl (by (try simp only [List.map_toArray, List.map_cons, List.map_nil]); first | done | rfl | (simp only [List.length_drop, List.length_take]; rfl)) ?_; (with_reducible refine (thistleref02_CopyRanges.calls _ _ (rd_L7 l0 x3_1) t380 _ ?side1 ?side2 A8.out).mono ?_); (case side1 => repeat (first | exact (Kd.C_below HR379_0.out HB.out) | (with_reducible refine Kd.C_alloc ?_ _) | (with_reducible refine Kd.C_drewN ?_ _) | (with_reducible refine Kd.C_drew ?_))); (case side2 => exact HC379_0.out); rintro e w26 ⟨v381, rfl, ho0, hb⟩; refine ⟨_, rfl, ?_⟩; have n0_ := Aside0.mk (Kd.R_elder' (XShort.rr HO378.out) (Kd.R_base ho0) hb); have n1_ := Aside0.mk (Kd.R_lower (Kd.R_new' ho0 (Kd.R_lt (XShort.rr HO378.out))) (below_size XShort.bel)); have n2_ := Aside0.mk (below_step XShort.bel hb); clear HO378; clear HB; have HO378 := n0_; have HO382 := n1_; have HB := n2_; clear n0_ n1_ n2_; (try clear hb); (try clear hb2); (try clear hk); (try clear hi); (try clear ho0); obtain ⟨Ao27, co27, eo27⟩ := Kd.R_slice HO382.out; subst eo27) | ((with_reducible refine gate_callee (f := 7) rfl ?_); refine goesL_ (some 30) rfl rfl Tryd.func7 (by kernel_rfl) rfl #[.slice Ao27 t380.length co27] rfl (by (try simp only [List.map_toArray, List.map_cons, List.map_nil]); first | done | rfl | (simp only [List.length_drop, List.length_take]; rfl)) ?_; (with_reducible refine (fold_Close.calls k1 _ _ t380 t383 t384 _ ?side1 ?side2 A9.out).mono ?_); (case side1 => repeat (first | exact (Kd.R_reads' HO382.out).2.2 | (with_reducible refine Kd.C_alloc ?_ _) | (with_reducible refine Kd.C_drewN ?_ _) | (with_reducible refine Kd.C_drew ?_))); (case side2 => exact (Kd.R_reads' HO382.out).2.1); rintro e w28 ⟨v385, rfl, ho0, hb⟩; refine ⟨_, rfl, ?_⟩; have n0_ := Aside0.mk (Kd.R_elder' (XShort.rr HO378.out) (Kd.R_base ho0) hb); have n1_ := Aside0.mk (Kd.R_elder' (XShort.rr HO382.out) (Kd.R_base ho0) hb); have n2_ := Aside0.mk (Kd.R_lower (Kd.R_new' (Kd.R_new' ho0 (Kd.R_lt (XShort.rr HO378.out))) (Kd.R_lt (XShort.rr HO382.out))) (below_size XShort.bel)); have n3_ := Aside0.mk (below_step XShort.bel hb); clear HO378; clear HO382; clear HB; have HO378 := n0_; have HO382 := n1_; have HO386 := n2_; have HB := n3_; clear n0_ n1_ n2_ n3_; (try clear hb); (try clear hb2); (try clear hk); (try clear hi); (try clear ho0)))
       go_ret
       exact ⟨by first | rfl | (simp [errW_none, errW_some] <;> rfl) | (simp [*, errW_none, errW_some] <;> rfl), XShort.bel⟩
     ·rw [if_neg c6] at H
      exact absurd H (by simp)
    ·rw [if_neg c5] at H
     have c5b0 : decide (x3_1 < (l0.length : Int)) = false := decide_eq_false c5
     clear c5
     obtain rfl := Option.some.inj H
     go_wp2
     go_ret
     exact ⟨by first | rfl | (simp [errW_none, errW_some] <;> rfl) | (simp [*, errW_none, errW_some] <;> rfl), XShort.bel⟩
 ·replace c3 := Bool.eq_false_iff.mpr c3
  subst c3
  have H1 : (some false) = some r := by rw [if_neg (show ¬ (false = true) by decide)] at H; exact H
  clear H
  have H := H1
  clear H1
  obtain rfl := Option.some.inj H
  go_enter Tryd.func3, Tryd.ntmps3
  go_wp2_with (first | ((with_reducible refine gate_callee (f := 5) rfl ?_); refine goesL_ (some 8) rfl rfl Tryd.func5 (by kernel_rfl) rfl #[] rfl (by (try simp only [List.map_toArray, List.map_cons, List.map_nil]); first | done | rfl | (simp only [List.length_drop, List.length_take]; rfl)) ?_; (with_reducible refine (thistlelaw03_awake.calls k  false _ A2.out).mono ?_); rintro e w29 ⟨rfl, hb⟩; refine ⟨_, rfl, ?_⟩; have n0_ := Aside0.mk (below_step XShort.bel hb); clear HB; have HB := n0_; clear n0_; (try clear hb); (try clear hb2); (try clear hk); (try clear hi)))
  go_ret
  exact ⟨by first | rfl | (simp [errW_none, errW_some] <;> rfl) | (simp [*, errW_none, errW_some] <;> rfl), XShort.bel⟩

end Go.Proofs.YtcpjflgiimjfmaaDoor.XF
