/- WRITTEN BY A PROGRAM OF THIS SESSION (wip/tools/xprint.py, over the kit's printer): contracts of the functions that the seat's laws reach. -/
import Derived.Test.YtpfhppgklklhcaaXF0
import Derived.Test.YtpfhppgklklhcaaXF3
import Derived.Test.YtpfhppgklklhcaaXF6
import Derived.Test.YtpfhppgklklhcaaXF7
import Derived.Test.YtpfhppgklklhcaaXF11
namespace Go.Proofs.Ytpfhppgklklhcaa.XF
open Go.RowKit Go.Proofs.YtpfhppgklklhcaaW.PrintWords Go.Proofs.YtpfhppgklklhcaaW.PrintLast Go.Proofs.YtpfhppgklklhcaaW.PrintMore
attribute [local go_sem] max2_int min2_int max_two min_two max_three min_three max_four min_four   -- for this text's walks alone
set_option linter.unusedVariables false
set_option linter.unusedSimpArgs false

/-! ### thistleref01_Text: function 32 -/
def thistleref01_Text.l0 : Nat → List Int → List Int → Int → Option (ByteArray × Int)
  | 0, _, _, _ => none
  | k + 1, x0, x4, x5 => if x5 < (x0.length : Int) then (if 0 ≤ x5 then ((thistleref01_IsUnit.f (rd x0 x5)).bind fun t322 => (if t322 = true then ((thistleref01_Bytes.f (rd x0 x5)).bind fun t324 => (if x4.length + t324.length < 140737488355328 then (thistleref01_Text.l0 k x0 (x4 ++ t324) (wrap64 (x5 + 1))) else (none))) else (some ((⟨#[]⟩ : ByteArray), 2)))) else (none)) else (some (strOfNums x4, 0))
def thistleref01_Text.f (k : Nat) (l0 : List Int) : Option (ByteArray × Int) := thistleref01_Text.l0 k l0 ([] : List Int) 0
theorem thistleref01_Text.mono_l : ∀ k, (∀ y0 y1 y2, LeO (thistleref01_Text.l0 k y0 y1 y2) (thistleref01_Text.l0 (k + 1) y0 y1 y2))
  | 0 => fun _ _ _ r h => by simp [thistleref01_Text.l0] at h
  | k + 1 => by
    have ih0 := thistleref01_Text.mono_l k
    · intro y0 y1 y2
      unfold thistleref01_Text.l0
      repeat' first
      | (with_reducible exact ih0 _ _ _)
      | (with_reducible exact LeO.refl _)
      | (with_reducible exact LeO.none _)
      | (with_reducible refine LeO.ite ?_ ?_)
      | (with_reducible refine LeO.bind ?_ (fun _ => ?_))
      | exact ih0 _ _ _
      | exact LeO.none _
      | refine LeO.ite ?_ ?_
      | refine LeO.bind ?_ (fun _ => ?_)
theorem thistleref01_Text.mono : ∀ a0 k, LeO (thistleref01_Text.f k a0) (thistleref01_Text.f (k + 1) a0) := by
  intro a0 k
  have ih0 := thistleref01_Text.mono_l k
  unfold thistleref01_Text.f
  repeat' first
      | (with_reducible exact ih0 _ _ _)
      | (with_reducible exact LeO.refl _)
      | (with_reducible exact LeO.none _)
      | (with_reducible refine LeO.ite ?_ ?_)
      | (with_reducible refine LeO.bind ?_ (fun _ => ?_))
      | exact ih0 _ _ _
      | exact LeO.none _
      | refine LeO.ite ?_ ?_
      | refine LeO.bind ?_ (fun _ => ?_)
set_option maxHeartbeats 8000000 in
set_option maxRecDepth 100000 in
theorem thistleref01_Text.calls (k : Nat) (A0 : Option Addr) (c0 : Nat) (l0 : List Int) (r1 : ByteArray) (r2 : Int) (w : World) (hr0 : Kd.C (Kd.int .i32) w A0 l0.length l0) (hc0 : l0.length ≤ c0) (h : thistleref01_Text.f k l0 = some (r1, r2)) :
    Calls Try.prog 32 #[.slice A0 l0.length c0] w fun e w' => e = .returned (.tuple #[.string r1, .int .i64 r2]) ∧ Below w.heap.size w w' := by
  have HR0 := Aside0.mk hr0
  have HC0 := Aside0.mk hc0
  clear hr0 hc0
  have HB := Aside0.mk (Below.refl w.heap.size w)
  have H : (thistleref01_Text.l0 k l0 ([] : List Int) 0) = some (r1, r2) := h
  clear h
  have H' := Aside0.mk H
  clear H
  go_enter Try.func32, Try.ntmps32
  go_wp2
  go_loopg [4, 5] k (fun kq v4 v5 w' => ∃ (x4_1 : List Int) (x5_1 : Int), v5 = .int .i64 x5_1 ∧ Aside0 (thistleref01_Text.l0 kq l0 x4_1 x5_1 = some (r1, r2)) ∧ Aside0 (kq ≤ k) ∧ Aside0 (Kd.R (Kd.int .u8) 5 w' w.heap.size (fun _ => True) v4 x4_1) ∧ Aside0 (Below w.heap.size w w'))
  case atStart => exact ⟨(([] : List Int)), (0), (by first | rfl | (simp; done) | (simp [*]; done)), H', ⟨Nat.le_refl _⟩, ⟨by first | exact Kd.R_nil _ _ _ _ _ | exact Kd.N_nil _ _ _ _ _ | exact Kd.V_nil _ _ _ _ _ | exact Kd.Q_nil _ _ _ _ _ | exact Kd.S_nil _ _ _ _ _⟩, ⟨by repeat (first | (with_reducible first | exact HB.out | apply below_alloc | apply pw_below_drewN | apply below_drew1) | exact HB.out)⟩⟩
  case round =>
    clear H'
    obtain ⟨x4_1, x5_1, rfl, HA, HK1, HO_4, HB⟩ := hrel
    cases gk with
    | zero => exact absurd HA.out (by simp [thistleref01_Text.l0])
    | succ k1 =>
      have H := HA.out
      clear HA
      simp only [thistleref01_Text.l0] at H
      by_cases c2 : x5_1 < (l0.length : Int)
      · rw [if_pos c2] at H
        have c2b0 : decide (x5_1 < (l0.length : Int)) = true := decide_eq_true c2
        clear c2
        by_cases c3 : 0 ≤ x5_1
        · rw [if_pos c3] at H
          have c3b0 : decide (0 ≤ x5_1) = true := decide_eq_true c3
          clear c3
          replace H := Option.bind_eq_some_iff.mp H
          obtain ⟨t322, A40, H⟩ := H
          replace H : (if t322 = true then ((thistleref01_Bytes.f (rd l0 x5_1)).bind fun t324 => (if x4_1.length + t324.length < 140737488355328 then (thistleref01_Text.l0 k1 l0 (x4_1 ++ t324) (wrap64 (x5_1 + 1))) else (none))) else (some ((⟨#[]⟩ : ByteArray), 2))) = some (r1, r2) := H
          have A4 := Aside0.mk A40
          clear A40
          by_cases c5 : t322 = true
          · subst c5
            have H1 : ((thistleref01_Bytes.f (rd l0 x5_1)).bind fun t324 => (if x4_1.length + t324.length < 140737488355328 then (thistleref01_Text.l0 k1 l0 (x4_1 ++ t324) (wrap64 (x5_1 + 1))) else (none))) = some (r1, r2) := by rw [if_pos rfl] at H; exact H
            clear H
            have H := H1
            clear H1
            replace H := Option.bind_eq_some_iff.mp H
            obtain ⟨t324, A60, H⟩ := H
            replace H : (if x4_1.length + t324.length < 140737488355328 then (thistleref01_Text.l0 k1 l0 (x4_1 ++ t324) (wrap64 (x5_1 + 1))) else (none)) = some (r1, r2) := H
            have A6 := Aside0.mk A60
            clear A60
            by_cases c7 : x4_1.length + t324.length < 140737488355328
            · rw [if_pos c7] at H
              have LMc7 := Aside0.mk c7
              clear c7
              obtain ⟨y327, hy327⟩ : ∃ y_ : List Int, y_ = (x4_1 ++ t324) := ⟨_, rfl⟩
              replace H : (thistleref01_Text.l0 k1 l0 y327 (wrap64 (x5_1 + 1))) = some (r1, r2) := by first | (rw [hy327]; with_reducible exact H) | (have H2_ := (Option.bind_some _ _).symm.trans H; rw [hy327]; with_reducible exact H2_) | (have H2_ := (Option.bind_some _ _).symm.trans H; with_reducible exact H2_) | with_reducible exact H | (rw [hy327]; exact H) | exact H
              have Ny327 := Aside0.mk hy327
              clear hy327
              have H' := Aside0.mk H
              clear H
              have p321 : 0 ≤ (x5_1 : Int) := of_decide_eq_true (by first | (with_reducible assumption) | assumption)
              have q321 : x5_1 < (l0.length : Int) := of_decide_eq_true (by first | (with_reducible assumption) | assumption)
              obtain ⟨ad321, e321, hx321_0⟩ := Kd.at_int HR0.out x5_1 p321 q321
              cases e321
              replace hx321_0 := (HB.out.cell (World.block_lt_of_cell? w _ hx321_0)).trans hx321_0
              replace p321 := eq_true p321
              replace q321 := eq_true q321
              go_wp2_with (first | ((with_reducible refine gate_callee (f := 15) rfl ?_); refine goesL_ (some 16) rfl rfl Try.func15 (by kernel_rfl) rfl #[.int .i32 (rd l0 x5_1)] rfl (by (try simp only [List.map_toArray, List.map_cons, List.map_nil]); first | done | rfl | (simp only [List.length_drop, List.length_take]; rfl)) ?_; (with_reducible refine (thistleref01_IsUnit.calls (rd l0 x5_1) true _ A4.out).mono ?_); rintro e w' ⟨rfl, ⟨nd, rfl⟩⟩; refine ⟨_, rfl, ?_⟩; have p323 : 0 ≤ (x5_1 : Int) := of_decide_eq_true (by first | (with_reducible assumption) | assumption); have q323 : x5_1 < (l0.length : Int) := of_decide_eq_true (by first | (with_reducible assumption) | assumption); obtain ⟨ad323, e323, hx323_0⟩ := Kd.at_int HR0.out x5_1 p323 q323; obtain rfl : ad321 = ad323 := (by injection e323); replace hx323_0 := (HB.out.cell (World.block_lt_of_cell? w _ hx323_0)).trans hx323_0; replace p323 := eq_true p323; replace q323 := eq_true q323) | ((with_reducible refine gate_callee (f := 48) rfl ?_); refine goesL_ (some 23) rfl rfl Try.func48 (by kernel_rfl) rfl #[.int .i32 (rd l0 x5_1)] rfl (by (try simp only [List.map_toArray, List.map_cons, List.map_nil]); first | done | rfl | (simp only [List.length_drop, List.length_take]; rfl)) ?_; (with_reducible refine (thistleref01_Bytes.calls (rd l0 x5_1) t324 _ A6.out).mono ?_); rintro e w8 ⟨v325, rfl, ho0, hb⟩; refine ⟨_, rfl, ?_⟩; have n0_ := Aside0.mk (Kd.R_elder' (by (with_reducible repeat (first | apply Kd.R_alloc | apply Kd.R_drewN | apply Kd.R_drew)); exact HO_4.out) (Kd.R_base ho0) hb); have n1_ := Aside0.mk (Kd.R_lower (Kd.R_new' ho0 (Kd.R_lt (by (with_reducible repeat (first | apply Kd.R_alloc | apply Kd.R_drewN | apply Kd.R_drew)); exact HO_4.out))) (below_size (by repeat (first | (with_reducible first | exact HB.out | apply below_alloc | apply pw_below_drewN | apply below_drew1) | exact HB.out)))); have n2_ := Aside0.mk (below_step (by repeat (first | (with_reducible first | exact HB.out | apply below_alloc | apply pw_below_drewN | apply below_drew1) | exact HB.out)) hb); clear HO_4; clear HB; have HO_4 := n0_; have HO326 := n1_; have HB := n2_; clear n0_ n1_ n2_; (try clear hb); (try clear hb2); (try clear hk); (try clear hi); (try clear ho0); obtain ⟨Ao10, co10, eo10⟩ := Kd.R_slice HO326.out; subst eo10) | ((with_reducible refine gate_builtin (b := .append) (xs := #[.tmp 18, .tmp 23]) rfl ?_); at_builtin; refine Kd.R_append_rows (Kd.int .u8) (w0 := w) w.heap.size rfl (.tmp 18) (.tmp 23) 59 5 (.int .u8 0) 1 rfl Try.underlying59 info5 rfl (by decide) (by omega) u4 x4_1 t324 _ _ _ (fun k_ => some k_ ≠ (.slice Ao10 t324.length co10 : Value).ownBlock) (fun _ => False) rfl rfl ?aO ?aR (fun _ _ h => h) (fun _ h => h.elim) ?aF ?aB ?aS ?aL ?_; (case aR => repeat (first | exact (Kd.R_reads' HO326.out).2.2 | (with_reducible refine Kd.C_alloc ?_ _) | (with_reducible refine Kd.C_drewN ?_ _) | (with_reducible refine Kd.C_drew ?_))); (case aB => exact (by repeat (first | (with_reducible first | exact HB.out | apply below_alloc | apply pw_below_drewN | apply below_drew1) | exact HB.out))); (case aF => exact (fun k_ hk => Kd.fresh' (Kd.R_lt (by (with_reducible repeat (first | apply Kd.R_alloc | apply Kd.R_drewN | apply Kd.R_drew)); exact HO326.out)) k_ hk)); (case aO => exact (by (with_reducible repeat (first | apply Kd.R_alloc | apply Kd.R_drewN | apply Kd.R_drew)); exact Kd.R_mono HO_4.out (fun _ hk => hk.2))); (case aS => exact (below_size (by repeat (first | (with_reducible first | exact HB.out | apply below_alloc | apply pw_below_drewN | apply below_drew1) | exact HB.out)))); (case aL => have := LMc7.out; omega); intro v328 w9 ho hb hg hat; rw [← Ny327.out] at ho; have n0_ := Aside0.mk (Kd.R_after (ok := (fun _ => True)) (by (with_reducible repeat (first | apply Kd.R_alloc | apply Kd.R_drewN | apply Kd.R_drew)); exact HO326.out) hg hat); have n1_ := Aside0.mk (hb); have n2_ := Aside0.mk (ho); clear HO326; clear HB; clear HO_4; have HO326 := n0_; have HB := n1_; have HO329 := n2_; clear n0_ n1_ n2_; clear ho hb hg hat))
              go_roundg k1
              case measure => have := HK1.out; omega
              case rel => exact ⟨(y327), (wrap64 (x5_1 + 1)), (by first | rfl | (simp; done) | (simp [*]; done)), H', ⟨by have := HK1.out; omega⟩, ⟨by (with_reducible repeat (first | apply Kd.R_alloc | apply Kd.R_drewN | apply Kd.R_drew)); exact Kd.R_mono HO329.out (fun _ hk => trivial)⟩, ⟨by repeat (first | (with_reducible first | exact HB.out | apply below_alloc | apply pw_below_drewN | apply below_drew1) | exact HB.out)⟩⟩
            · rw [if_neg c7] at H
              exact absurd H (by simp)
          · replace c5 := Bool.eq_false_iff.mpr c5
            subst c5
            have H1 : (some ((⟨#[]⟩ : ByteArray), 2)) = some (r1, r2) := by rw [if_neg (show ¬ (false = true) by decide)] at H; exact H
            clear H
            have H := H1
            clear H1
            simp only [Option.some.injEq, Prod.mk.injEq] at H
            obtain ⟨rfl, rfl⟩ := H
            have p321 : 0 ≤ (x5_1 : Int) := of_decide_eq_true (by first | (with_reducible assumption) | assumption)
            have q321 : x5_1 < (l0.length : Int) := of_decide_eq_true (by first | (with_reducible assumption) | assumption)
            obtain ⟨ad321, e321, hx321_0⟩ := Kd.at_int HR0.out x5_1 p321 q321
            cases e321
            replace hx321_0 := (HB.out.cell (World.block_lt_of_cell? w _ hx321_0)).trans hx321_0
            replace p321 := eq_true p321
            replace q321 := eq_true q321
            go_wp2_with (first | ((with_reducible refine gate_callee (f := 15) rfl ?_); refine goesL_ (some 16) rfl rfl Try.func15 (by kernel_rfl) rfl #[.int .i32 (rd l0 x5_1)] rfl (by (try simp only [List.map_toArray, List.map_cons, List.map_nil]); first | done | rfl | (simp only [List.length_drop, List.length_take]; rfl)) ?_; (with_reducible refine (thistleref01_IsUnit.calls (rd l0 x5_1) false _ A4.out).mono ?_); rintro e w' ⟨rfl, ⟨nd, rfl⟩⟩; refine ⟨_, rfl, ?_⟩))
            go_ret2
            exact ⟨by first | rfl | (simp [errW_none, errW_some] <;> rfl) | (simp [*, errW_none, errW_some] <;> rfl), by repeat (first | (with_reducible first | exact HB.out | apply below_alloc | apply pw_below_drewN | apply below_drew1) | exact HB.out)⟩
        · rw [if_neg c3] at H
          exact absurd H (by simp)
      · rw [if_neg c2] at H
        have c2b0 : decide (x5_1 < (l0.length : Int)) = false := decide_eq_false c2
        clear c2
        simp only [Option.some.injEq, Prod.mk.injEq] at H
        obtain ⟨rfl, rfl⟩ := H
        have hcv11 := own_string (P := Try.prog) Try.underlying59 Try.underlying5 Try.underlying9 (Kd.own_of_R HO_4.out)
        go_wp2
        go_ret2
        exact ⟨by first | rfl | (simp [errW_none, errW_some] <;> rfl) | (simp [*, errW_none, errW_some] <;> rfl), by repeat (first | (with_reducible first | exact HB.out | apply below_alloc | apply pw_below_drewN | apply below_drew1) | exact HB.out)⟩

/-! ### thistleref03_Base: function 18 -/
def thistleref03_Base.l0 : Nat → List Int → Int → Option (ByteArray)
  | 0, _, _ => none
  | k + 1, x3, x4 => if x4 < (x3.length : Int) then (if 0 ≤ x4 then ((thistleref03_Least.f k (rd x3 x4)).bind fun t334 => (thistleref03_Base.l0 k (x3.set (x4 : Int).toNat t334) (wrap64 (x4 + 1)))) else (none)) else ((thistleref01_Text.f k x3).bind fun bt336 => (some bt336.1))
def thistleref03_Base.f (k : Nat) (a0 : ByteArray) : Option (ByteArray) := (thistleref01_Units.f k a0).bind fun t330 => (thistleref03_Base.l0 k t330 0)
theorem thistleref03_Base.mono_l : ∀ k, (∀ y0 y1, LeO (thistleref03_Base.l0 k y0 y1) (thistleref03_Base.l0 (k + 1) y0 y1))
  | 0 => fun _ _ r h => by simp [thistleref03_Base.l0] at h
  | k + 1 => by
    have ih0 := thistleref03_Base.mono_l k
    · intro y0 y1
      unfold thistleref03_Base.l0
      repeat' first
      | (with_reducible exact ih0 _ _)
      | (with_reducible exact thistleref01_Text.mono _ _)
      | (with_reducible exact thistleref01_Units.mono _ _)
      | (with_reducible exact thistleref03_Least.mono _ _)
      | (with_reducible exact LeO.refl _)
      | (with_reducible exact LeO.none _)
      | (with_reducible refine LeO.ite ?_ ?_)
      | (with_reducible refine LeO.bind ?_ (fun _ => ?_))
      | exact ih0 _ _
      | exact thistleref01_Text.mono _ _
      | exact thistleref01_Units.mono _ _
      | exact thistleref03_Least.mono _ _
      | exact LeO.none _
      | refine LeO.ite ?_ ?_
      | refine LeO.bind ?_ (fun _ => ?_)
theorem thistleref03_Base.mono : ∀ a0 k, LeO (thistleref03_Base.f k a0) (thistleref03_Base.f (k + 1) a0) := by
  intro a0 k
  have ih0 := thistleref03_Base.mono_l k
  unfold thistleref03_Base.f
  repeat' first
      | (with_reducible exact ih0 _ _)
      | (with_reducible exact thistleref01_Text.mono _ _)
      | (with_reducible exact thistleref01_Units.mono _ _)
      | (with_reducible exact thistleref03_Least.mono _ _)
      | (with_reducible exact LeO.refl _)
      | (with_reducible exact LeO.none _)
      | (with_reducible refine LeO.ite ?_ ?_)
      | (with_reducible refine LeO.bind ?_ (fun _ => ?_))
      | exact ih0 _ _
      | exact thistleref01_Text.mono _ _
      | exact thistleref01_Units.mono _ _
      | exact thistleref03_Least.mono _ _
      | exact LeO.none _
      | refine LeO.ite ?_ ?_
      | refine LeO.bind ?_ (fun _ => ?_)
set_option maxHeartbeats 8000000 in
set_option maxRecDepth 100000 in
theorem thistleref03_Base.calls (k : Nat) (a0 : ByteArray) (r : ByteArray) (w : World) (h : thistleref03_Base.f k a0 = some r) :
    Calls Try.prog 18 #[.string a0] w fun e w' => e = .returned (.string r) ∧ Below w.heap.size w w' := by
  have HB := Aside0.mk (Below.refl w.heap.size w)
  have H : ((thistleref01_Units.f k a0).bind fun t330 => (thistleref03_Base.l0 k t330 0)) = some r := h
  clear h
  replace H := Option.bind_eq_some_iff.mp H
  obtain ⟨t330, A20, H⟩ := H
  replace H : (thistleref03_Base.l0 k t330 0) = some r := H
  have A2 := Aside0.mk A20
  clear A20
  have H' := Aside0.mk H
  clear H
  go_enter Try.func18, Try.ntmps18
  go_wp2_with (first | ((with_reducible refine gate_callee (f := 31) rfl ?_); refine goesL_ (some 8) rfl rfl Try.func31 (by kernel_rfl) rfl #[.string a0] rfl (by (try simp only [List.map_toArray, List.map_cons, List.map_nil]); first | done | rfl | (simp only [List.length_drop, List.length_take]; rfl)) ?_; (with_reducible refine (thistleref01_Units.calls k a0 t330 _ A2.out).mono ?_); rintro e w3 ⟨v331, rfl, ho0, hb⟩; refine ⟨_, rfl, ?_⟩; have n0_ := Aside0.mk (Kd.R_lower ho0 (below_size (by repeat (first | (with_reducible first | exact HB.out | apply below_alloc | apply pw_below_drewN | apply below_drew1) | exact HB.out)))); have n1_ := Aside0.mk (below_step (by repeat (first | (with_reducible first | exact HB.out | apply below_alloc | apply pw_below_drewN | apply below_drew1) | exact HB.out)) hb); clear HB; have HO332 := n0_; have HB := n1_; clear n0_ n1_; (try clear hb); (try clear hb2); (try clear hk); (try clear hi); (try clear ho0)))
  go_loopg [4] k (fun kq v4 w' => ∃ (x3_1 : List Int) (x4_1 : Int), v4 = .int .i64 x4_1 ∧ Aside0 (thistleref03_Base.l0 kq x3_1 x4_1 = some r) ∧ Aside0 (kq ≤ k) ∧ Aside0 (Kd.R (Kd.int .i32) 21 w' w.heap.size (fun _ => True) v331 x3_1) ∧ Aside0 (Below w.heap.size w w'))
  case atStart => exact ⟨(t330), (0), (by first | rfl | (simp; done) | (simp [*]; done)), H', ⟨Nat.le_refl _⟩, ⟨by (with_reducible repeat (first | apply Kd.R_alloc | apply Kd.R_drewN | apply Kd.R_drew)); exact HO332.out⟩, ⟨by repeat (first | (with_reducible first | exact HB.out | apply below_alloc | apply pw_below_drewN | apply below_drew1) | exact HB.out)⟩⟩
  case round =>
    clear H'
    try clear c1
    try clear p2
    try clear c3
    obtain ⟨x3_1, x4_1, rfl, HA, HK1, HO_3, HB⟩ := hrel
    cases gk with
    | zero => exact absurd HA.out (by simp [thistleref03_Base.l0])
    | succ k1 =>
      have H := HA.out
      clear HA
      simp only [thistleref03_Base.l0] at H
      by_cases c4 : x4_1 < (x3_1.length : Int)
      · rw [if_pos c4] at H
        have c4b0 : decide (x4_1 < (x3_1.length : Int)) = true := decide_eq_true c4
        clear c4
        by_cases c5 : 0 ≤ x4_1
        · rw [if_pos c5] at H
          have c5b0 : decide (0 ≤ x4_1) = true := decide_eq_true c5
          clear c5
          replace H := Option.bind_eq_some_iff.mp H
          obtain ⟨t334, A60, H⟩ := H
          replace H : (thistleref03_Base.l0 k1 (x3_1.set (x4_1 : Int).toNat t334) (wrap64 (x4_1 + 1))) = some r := H
          have A6 := Aside0.mk A60
          clear A60
          obtain ⟨y335, hy335⟩ : ∃ y_ : List Int, y_ = (x3_1.set (x4_1 : Int).toNat t334) := ⟨_, rfl⟩
          replace H : (thistleref03_Base.l0 k1 y335 (wrap64 (x4_1 + 1))) = some r := by first | (rw [hy335]; with_reducible exact H) | (have H2_ := (Option.bind_some _ _).symm.trans H; rw [hy335]; with_reducible exact H2_) | (have H2_ := (Option.bind_some _ _).symm.trans H; with_reducible exact H2_) | with_reducible exact H | (rw [hy335]; exact H) | exact H
          have Ny335 := Aside0.mk hy335
          clear hy335
          have H' := Aside0.mk H
          clear H
          obtain ⟨Ao8, co8, eo8⟩ := Kd.R_slice HO_3.out
          subst eo8
          have p333 : 0 ≤ (x4_1 : Int) := of_decide_eq_true (by first | (with_reducible assumption) | assumption)
          have q333 : x4_1 < (x3_1.length : Int) := of_decide_eq_true (by first | (with_reducible assumption) | assumption)
          obtain ⟨ad333, e333, hx333_0⟩ := Kd.at_int (Kd.R_reads' HO_3.out).2.2 x4_1 p333 q333
          cases e333
          replace p333 := eq_true p333
          replace q333 := eq_true q333
          go_wp2_with (first | ((with_reducible refine gate_callee (f := 11) rfl ?_); refine goesL_ (some 21) rfl rfl Try.func11 (by kernel_rfl) rfl #[.int .i32 (rd x3_1 x4_1)] rfl (by (try simp only [List.map_toArray, List.map_cons, List.map_nil]); first | done | rfl | (simp only [List.length_drop, List.length_take]; rfl)) ?_; (with_reducible refine (thistleref03_Least.calls k1 (rd x3_1 x4_1) t334 _ A6.out).mono ?_); rintro e w9 ⟨rfl, hb⟩; refine ⟨_, rfl, ?_⟩; have n0_ := Aside0.mk (Kd.R_below (by (with_reducible repeat (first | apply Kd.R_alloc | apply Kd.R_drewN | apply Kd.R_drew)); exact HO_3.out) hb); have n1_ := Aside0.mk (below_step (by repeat (first | (with_reducible first | exact HB.out | apply below_alloc | apply pw_below_drewN | apply below_drew1) | exact HB.out)) hb); clear HO_3; clear HB; have HO_3 := n0_; have HB := n1_; clear n0_ n1_; (try clear hb); (try clear hb2); (try clear hk); (try clear hi); have p7 : 0 ≤ (x4_1 : Int) := of_decide_eq_true (by first | (with_reducible assumption) | assumption); have q7 : (x4_1 : Int) < ((x3_1.length : Int) : Int) := of_decide_eq_true (by first | (with_reducible assumption) | assumption); obtain ⟨go7, co7, eo7, gb7, gl7, cl7, HG7⟩ := Kd.R_form HO_3.out (by omega); (first | cases eo7 | (injection eo7 with ea_ en_ ec_; (first | subst ea_ | (injection ea_ with ea_; subst ea_)); subst ec_; clear en_)); have GB7 := Aside0.mk gb7; have GG7 := Aside0.mk HG7; clear gb7 gl7 HG7; (first | simp only [add_plain] at hx333_0 | skip); obtain ⟨hx7_0, hf7_0⟩ := Kd.R_celln 0 HO_3.out (x4_1 : Int) p7 q7; replace p7 := eq_true p7; replace q7 := eq_true q7; obtain ⟨hy10_, hz10_⟩ := Kd.R_celln 0 HO_3.out (x4_1 : Int) (of_decide_eq_true (by first | (with_reducible assumption) | assumption)) (of_decide_eq_true (by first | (with_reducible assumption) | assumption)); have HP10 := Kd.R_putg HO_3.out (x4_1 : Int) t334) | ((with_reducible refine gate_store (t := 21) (p := 22) rfl ?_); refine store_event (t := 21) (p := 22) (v := ?vo_w11) (w1 := (w9.setCell ⟨go7, (x4_1 : Int).toNat, none⟩ (.int .i32 t334))) ?hg ?ho ?hn ?hr ?_; (case ho => rfl); (case hg => rfl); (case hn => rfl); (case hr => first | (go_simp; done) | (go_simp; rfl)); intro w11 hw; have hg : w9.grownBy w11 (some go7) := (by rw [hw]; exact HP10.2); have hp_ : Kd.R (Kd.int .i32) 21 w11 w.heap.size (fun _ => True) (.slice (some ⟨go7, 0, none⟩) x3_1.length co8) y335 := (by rw [hw, Ny335.out]; exact HP10.1); clear HP10; have n0_ := Aside0.mk (hp_); have n1_ := Aside0.mk ((by rw [hw]; exact below_set (HB.out) GB7.out : Below w.heap.size w w11)); clear HO_3; clear HB; have HO_3 := n0_; have HB := n1_; clear n0_ n1_; clear hg hw hp_))
          go_roundg k1
          case measure => have := HK1.out; omega
          case rel => exact ⟨(y335), (wrap64 (x4_1 + 1)), (by first | rfl | (simp; done) | (simp [*]; done)), H', ⟨by have := HK1.out; omega⟩, ⟨by (with_reducible repeat (first | apply Kd.R_alloc | apply Kd.R_drewN | apply Kd.R_drew)); exact HO_3.out⟩, ⟨by repeat (first | (with_reducible first | exact HB.out | apply below_alloc | apply pw_below_drewN | apply below_drew1) | exact HB.out)⟩⟩
        · rw [if_neg c5] at H
          exact absurd H (by simp)
      · rw [if_neg c4] at H
        have c4b0 : decide (x4_1 < (x3_1.length : Int)) = false := decide_eq_false c4
        clear c4
        replace H := Option.bind_eq_some_iff.mp H
        obtain ⟨⟨t336, t337⟩, A120, H⟩ := H
        replace H : (some t336) = some r := H
        have A12 := Aside0.mk A120
        clear A120
        obtain rfl := Option.some.inj H
        obtain ⟨Ao13, co13, eo13⟩ := Kd.R_slice HO_3.out
        subst eo13
        go_wp2_with (first | ((with_reducible refine gate_callee (f := 32) rfl ?_); refine goesL_ (some 25) rfl rfl Try.func32 (by kernel_rfl) rfl #[.slice Ao13 x3_1.length co13] rfl (by (try simp only [List.map_toArray, List.map_cons, List.map_nil]); first | done | rfl | (simp only [List.length_drop, List.length_take]; rfl)) ?_; (with_reducible refine (thistleref01_Text.calls k1 _ _ x3_1 t336 t337 _ ?side1 ?side2 A12.out).mono ?_); (case side1 => repeat (first | exact (Kd.R_reads' HO_3.out).2.2 | (with_reducible refine Kd.C_alloc ?_ _) | (with_reducible refine Kd.C_drewN ?_ _) | (with_reducible refine Kd.C_drew ?_))); (case side2 => exact (Kd.R_reads' HO_3.out).2.1); rintro e w14 ⟨rfl, hb⟩; refine ⟨_, rfl, ?_⟩; have n0_ := Aside0.mk (Kd.R_below (by (with_reducible repeat (first | apply Kd.R_alloc | apply Kd.R_drewN | apply Kd.R_drew)); exact HO_3.out) hb); have n1_ := Aside0.mk (below_step (by repeat (first | (with_reducible first | exact HB.out | apply below_alloc | apply pw_below_drewN | apply below_drew1) | exact HB.out)) hb); clear HO_3; clear HB; have HO_3 := n0_; have HB := n1_; clear n0_ n1_; (try clear hb); (try clear hb2); (try clear hk); (try clear hi)))
        go_ret
        exact ⟨by first | rfl | (simp [errW_none, errW_some] <;> rfl) | (simp [*, errW_none, errW_some] <;> rfl), by repeat (first | (with_reducible first | exact HB.out | apply below_alloc | apply pw_below_drewN | apply below_drew1) | exact HB.out)⟩

/-! ### utf_Units: function 21 -/
def utf_Units.l0 : Nat → ByteArray → Nat → List Int → Option (List Int)
  | 0, _, _, _ => none
  | k + 1, s, p, acc => if p < s.size then ((utf_number.f s (p : Int) ((Utf8.decode s p).1 : Int)).bind fun u => if acc.length < 35184372088832 then utf_Units.l0 k s (p + (Utf8.decode s p).2) (acc ++ [u]) else none) else some acc
def utf_Units.f (k : Nat) (a0 : ByteArray) : Option (List Int) := utf_Units.l0 k a0 0 []
theorem utf_Units.mono_l : ∀ k s p acc, LeO (utf_Units.l0 k s p acc) (utf_Units.l0 (k + 1) s p acc)
  | 0, _, _, _ => fun r h => by simp [utf_Units.l0] at h
  | k + 1, s, p, acc => by
    rw [utf_Units.l0, utf_Units.l0]
    refine LeO.ite ?_ (LeO.refl _)
    exact LeO.bind (LeO.refl _) (fun u => LeO.ite (utf_Units.mono_l k s _ _) (LeO.refl _))
theorem utf_Units.mono : ∀ a0 k, LeO (utf_Units.f k a0) (utf_Units.f (k + 1) a0) := fun a0 k => utf_Units.mono_l k a0 0 []
set_option maxHeartbeats 1600000 in
set_option maxRecDepth 100000 in
theorem utf_Units.calls (k : Nat) (a0 : ByteArray) (r : List Int) (w : World) (h : utf_Units.f k a0 = some r) :
    Calls Try.prog 21 #[.string a0] w fun e w' => ∃ v0_ : Value, e = .returned (v0_) ∧ Kd.R (Kd.int .i32) 21 w' w.heap.size (fun _ => True) v0_ r ∧ Below w.heap.size w w' := by
  have HIT := Aside0.mk (heap_alloc_new w (.stringIter a0 0))
  have HBK := Aside0.mk (below_alloc (Below.refl w.heap.size w) (.stringIter a0 0))
  have HF := Aside0.mk h
  clear h
  go_enter Try.func21, Try.ntmps21
  go_wp2_with fail
  go_loopw [3] (fun v3 wr => ∃ (fu p : Nat) (acc : List Int), Aside0 (Kd.R (Kd.int .i32) 21 wr w.heap.size (fun _ => True) v3 acc) ∧ Aside0 (wr.heap[w.heap.size]? = some (.stringIter a0 p)) ∧ Aside0 (Below w.heap.size w wr) ∧ Aside0 (utf_Units.l0 fu a0 p acc = some r)) (fun _ wr => a0.size - wr.iterPos w.heap.size)
  case atStart => exact ⟨k, 0, [], ⟨Kd.R_nil _ _ _ _ _⟩, HIT, HBK, HF⟩
  case round =>
    clear HIT HBK HF
    obtain ⟨fu, p, acc, HR, HI, HB, HF⟩ := hrel
    have HPOS := Aside0.mk (XLib.iterPos_of HI.out)
    cases fu with
    | zero => exact absurd HF.out (by simp [utf_Units.l0])
    | succ fu =>
    have hF := HF.out
    rw [utf_Units.l0] at hF
    by_cases hp : p < a0.size
    · rw [if_pos hp] at hF
      obtain ⟨u, hu, hF⟩ := Option.bind_eq_some_iff.mp hF
      by_cases hl : acc.length < 35184372088832
      · rw [if_pos hl] at hF
        have HU := Aside0.mk hu
        have HL := Aside0.mk hl
        have HF2 := Aside0.mk hF
        have HW := Aside0.mk (XLib.width_pos a0 p hp)
        have HP := Aside0.mk (XLib.putIter_heap (s := a0) (p := p + (Utf8.decode a0 p).2) HI.out)
        have HBP := Aside0.mk (XLib.putIter_below (s := a0) (p := p + (Utf8.decode a0 p).2) HB.out (Nat.le_refl _))
        have HRP := Aside0.mk (XLib.R_putIter (s := a0) (p := p + (Utf8.decode a0 p).2) HR.out HI.out)
        clear hu hl hF HF
        go_wp2_with ((with_reducible refine XLib.wpList_next rfl _ rfl w.heap.size a0 p rfl HI.out ?_ ?_); rotate_left; (exact fun hx => absurd hp hx); (intro _))
        refine (utf_number.calls a0 (p : Int) ((Utf8.decode a0 p).1 : Int) u _ HU.out).mono ?_
        rintro e w3 ⟨rfl, hd⟩
        have HR3 := Aside0.mk (XLib.R_drawn HRP.out hd)
        have HB3 := Aside0.mk (XLib.below_drawn HBP.out hd)
        have HI3 := Aside0.mk (XLib.blk_drawn HP.out hd)
        clear hd HR HI HB HP HBP HRP
        go_wp2_with ((with_reducible refine gate_builtin (b := .append) (xs := #[.tmp 12, .tmp 17]) rfl ?_); at_builtin; refine Kd.R_append (Kd.int .i32) (w0 := w) w.heap.size rfl (.tmp 12) (.tmp 17) 22 21 (.int .i32 0) 4 rfl Try.underlying22 info21 rfl (by decide) (by omega) _ acc u [.int .i32 u] (fun _ => True) (fun _ => False) rfl rfl rfl (fun _ hk => hk.elim) (fun _ _ => trivial) HR3.out HB3.out HB3.out.size (by have := HL.out; (try simp only [List.length_append, List.length_cons, List.length_nil]); omega) ?_; intro v5 w5 ho hb hg hat; have HR5 := Aside0.mk ho; have HB5 := Aside0.mk hb; have HI5 := Aside0.mk (blk_grown HI3.out hg (XLib.R_ne_iter HR3.out HI3.out)); clear HR3 HB3 HI3; clear ho hb hg hat)
        go_roundw
        case rel => exact ⟨fu, _, _, HR5, HI5, HB5, HF2⟩
        case measure => rw [XLib.iterPos_of HI5.out, HPOS.out]; have := HW.out; omega
      · rw [if_neg hl] at hF
        cases hF
    · rw [if_neg hp] at hF
      obtain rfl := Option.some.inj hF
      go_wp2_with ((with_reducible refine XLib.wpList_next rfl _ rfl w.heap.size a0 p rfl HI.out ?_ ?_); (exact fun hx => absurd hx hp); (intro _))
      go_ret
      exact ⟨_, rfl, HR.out, HB.out⟩

-- NOT PRINTED: function 33 (slices_EqualFunc_rune_rune_rune_rune)

/-! ### fold_Same: function 19 -/
def fold_Same.eqL (k : Nat) : List Int → List Int → Option Bool
  | [], _ => some true
  | _ :: _, [] => none
  | u :: us, v :: vs => (fold_Least.f k u).bind fun a => (fold_Least.f k v).bind fun b => if a = b then fold_Same.eqL k us vs else some false
def fold_Same.f (k : Nat) (a0 : ByteArray) (a1 : ByteArray) : Option Bool := (utf_Units.f k a0).bind fun us => (utf_Units.f k a1).bind fun vs => if us.length ≤ 140737488355328 then (if us.length = vs.length then fold_Same.eqL k us vs else some false) else none
theorem fold_Same.mono_eqL (k : Nat) : ∀ us vs, LeO (fold_Same.eqL k us vs) (fold_Same.eqL (k + 1) us vs)
  | [], _ => LeO.refl _
  | _ :: _, [] => LeO.refl _
  | u :: us, v :: vs => by
    rw [fold_Same.eqL, fold_Same.eqL]
    exact LeO.bind (fold_Least.mono _ _) (fun _ => LeO.bind (fold_Least.mono _ _) (fun _ => LeO.ite (fold_Same.mono_eqL k us vs) (LeO.refl _)))
theorem fold_Same.mono : ∀ a0 a1 k, LeO (fold_Same.f k a0 a1) (fold_Same.f (k + 1) a0 a1) := fun a0 a1 k => LeO.bind (utf_Units.mono _ _) (fun _ => LeO.bind (utf_Units.mono _ _) (fun _ => LeO.ite (LeO.ite (fold_Same.mono_eqL k _ _) (LeO.refl _)) (LeO.refl _)))
set_option maxHeartbeats 1600000 in
set_option maxRecDepth 100000 in
theorem fold_Same1.calls (k : Nat) (u v a b : Int) (w : World) (ha : fold_Least.f k u = some a) (hb : fold_Least.f k v = some b) : Calls Try.prog 34 #[.int .i32 u, .int .i32 v] w fun e w' => e = .returned (.bool (a == b)) ∧ Below w.heap.size w w' := by
  have HA := Aside0.mk ha
  have HBB := Aside0.mk hb
  clear ha hb
  go_enter Try.func34, Try.ntmps34
  go_wp2_with fail
  refine (fold_Least.calls k u a _ HA.out).mono ?_
  rintro e w1 ⟨rfl, hb⟩
  have HB1 := Aside0.mk hb
  clear hb
  go_wp2_with fail
  refine (fold_Least.calls k v b _ HBB.out).mono ?_
  rintro e w2 ⟨rfl, hb⟩
  have HB2 := Aside0.mk (below_step HB1.out hb)
  clear hb
  go_wp2_with fail
  go_ret
  exact ⟨rfl, HB2.out⟩
theorem drop_rd2 (l : List Int) (x : Int) (h0 : 0 ≤ x) (h : x < (l.length : Int)) : l.drop x.toNat = rd l x :: l.drop (x + 1).toNat := by
  have h1 : x.toNat < l.length := by omega
  have h2 : (x + 1).toNat = x.toNat + 1 := by omega
  rw [List.drop_eq_getElem_cons h1, h2]
  simp [rd, List.getD, h1]
set_option maxHeartbeats 1600000 in
set_option maxRecDepth 100000 in
theorem equalFunc_Same.calls (k : Nat) (A0 : Option Addr) (c0 : Nat) (l0 : List Int) (A1 : Option Addr) (c1 : Nat) (l1 : List Int) (r : Bool) (w : World) (hr0 : Kd.C (Kd.int .i32) w A0 l0.length l0) (hr1 : Kd.C (Kd.int .i32) w A1 l1.length l1) (hl : l0.length ≤ 140737488355328)
    (h : (if l0.length = l1.length then fold_Same.eqL k l0 l1 else some false) = some r) :
    Calls Try.prog 33 #[.slice A0 l0.length c0, .slice A1 l1.length c1, .func (Fn.func 34) #[] #[]] w fun e w' => e = .returned (.bool r) ∧ Below w.heap.size w w' := by
  have HC0 := Aside0.mk hr0
  have HC1 := Aside0.mk hr1
  have HLL := Aside0.mk hl
  clear hr0 hr1 hl
  by_cases hlen : l0.length = l1.length
  · rw [if_pos hlen] at h
    have HLE := Aside0.mk hlen
    have d0 : ((l0.length : Int) != (l1.length : Int)) = false := bne_eq_false_iff_eq.mpr (by omega)
    have HF := Aside0.mk h
    clear h hlen
    go_enter Try.func33, Try.ntmps33
    go_wp2_with fail
    go_loopw [17] (fun v9 wr => ∃ (x : Int), v9 = .int .i64 x ∧ 0 ≤ x ∧ x ≤ (l0.length : Int) ∧ Aside0 (Below w.heap.size w wr) ∧ Aside0 (fold_Same.eqL k (l0.drop x.toNat) (l1.drop x.toNat) = some r)) (fun v9 _ => l0.length - (intOf v9).toNat)
    case atStart => exact ⟨0, rfl, by omega, by omega, ⟨Below.refl _ w⟩, HF⟩
    case round =>
      clear HF
      obtain ⟨x, rfl, hx0, hx1, HB, HF⟩ := hrel
      by_cases hlt : x < (l0.length : Int)
      · have d1 : decide (x < (l0.length : Int)) = true := decide_eq_true hlt
        have hlt1 : x < (l1.length : Int) := by have := HLE.out; omega
        have hF := HF.out
        rw [drop_rd2 l0 x hx0 hlt, drop_rd2 l1 x hx0 hlt1, fold_Same.eqL] at hF
        obtain ⟨a, ha, hF⟩ := Option.bind_eq_some_iff.mp hF
        obtain ⟨b, hb, hF⟩ := Option.bind_eq_some_iff.mp hF
        have HSA := Aside0.mk ha
        have HSB := Aside0.mk hb
        clear ha hb
        have HCR0 := Aside0.mk (Kd.C_below HC0.out HB.out)
        have HCR1 := Aside0.mk (Kd.C_below HC1.out HB.out)
        obtain ⟨ad101, e101, hx101_0⟩ := Kd.at_int HCR0.out x hx0 hlt
        cases e101
        obtain ⟨ad102, e102, hx102_0⟩ := Kd.at_int HCR1.out x hx0 hlt1
        cases e102
        have hwr : wrap64 (x + 1) = x + 1 := by have h2 := HLL.out; unfold wrap64; omega
        have p101 := eq_true hx0
        have q101 := eq_true hlt
        have q102 := eq_true hlt1
        have HX := Aside0.mk hx0
        have HX1 := Aside0.mk hlt
        clear hx1 hlt hx0 hlt1
        by_cases hab : a = b
        · rw [if_pos hab] at hF
          have HF2 := Aside0.mk hF
          have dab : (a == b) = true := beq_iff_eq.mpr hab
          clear hF hab HF
          go_wp2_with fail
          refine (fold_Same1.calls k _ _ a b _ HSA.out HSB.out).mono ?_
          rintro e w3 ⟨rfl, hb⟩
          have HB3 := Aside0.mk (below_step HB.out hb)
          clear hb
          go_wp2_with fail
          go_roundw
          case rel => exact ⟨x + 1, by rw [hwr], by have := HX.out; omega, by have := HX1.out; omega, HB3, HF2⟩
          case measure => rw [hwr]; simp [intOf]; have := HX.out; have := HX1.out; omega
        · rw [if_neg hab] at hF
          obtain rfl := Option.some.inj hF
          have dab : (a == b) = false := beq_eq_false_iff_ne.mpr hab
          clear hF hab HF
          go_wp2_with fail
          refine (fold_Same1.calls k _ _ a b _ HSA.out HSB.out).mono ?_
          rintro e w3 ⟨rfl, hb⟩
          have HB3 := Aside0.mk (below_step HB.out hb)
          clear hb
          go_wp2_with fail
          go_ret
          exact ⟨rfl, HB3.out⟩
      · have hx2 : x = (l0.length : Int) := by omega
        subst hx2
        have d1 : decide ((l0.length : Int) < (l0.length : Int)) = false := decide_eq_false (by omega)
        have hF := HF.out
        rw [Int.toNat_natCast, List.drop_length, fold_Same.eqL] at hF
        obtain rfl := Option.some.inj hF
        go_wp2_with fail
        go_ret
        exact ⟨rfl, HB.out⟩
  · rw [if_neg hlen] at h
    obtain rfl := Option.some.inj h
    have d0 : ((l0.length : Int) != (l1.length : Int)) = true := bne_iff_ne.mpr (by omega)
    go_enter Try.func33, Try.ntmps33
    go_wp2_with fail
    go_ret
    exact ⟨rfl, Below.refl _ _⟩
set_option maxHeartbeats 1600000 in
set_option maxRecDepth 100000 in
theorem fold_Same.calls (k : Nat) (a0 : ByteArray) (a1 : ByteArray) (r : Bool) (w : World) (h : fold_Same.f k a0 a1 = some r) :
    Calls Try.prog 19 #[.string a0, .string a1] w fun e w' => e = .returned (.bool r) ∧ Below w.heap.size w w' := by
  obtain ⟨us, hu, h⟩ := Option.bind_eq_some_iff.mp h
  obtain ⟨vs, hv, h⟩ := Option.bind_eq_some_iff.mp h
  by_cases hl : us.length ≤ 140737488355328
  case neg => rw [if_neg hl] at h; cases h
  rw [if_pos hl] at h
  have HL := Aside0.mk hl
  have HH := Aside0.mk h
  have HU := Aside0.mk hu
  have HV := Aside0.mk hv
  clear hl h hu hv
  go_enter Try.func19, Try.ntmps19
  go_wp2_with fail
  refine (utf_Units.calls k a0 us _ HU.out).mono ?_
  rintro e w1 ⟨v1, rfl, hv, hb⟩
  have HR1 := Aside0.mk (Kd.R_lower hv (Nat.le_refl _))
  have HB1 := Aside0.mk hb
  clear hv hb
  go_wp2_with fail
  refine (utf_Units.calls k a1 vs _ HV.out).mono ?_
  rintro e w2 ⟨v2, rfl, hv, hb⟩
  have HR2 := Aside0.mk hv
  have HR3 := Aside0.mk (Kd.R_below HR1.out hb)
  have HB2 := Aside0.mk (below_step HB1.out hb)
  clear hv hb
  obtain ⟨A3, c3, rfl, hlc3, hC3⟩ := Kd.R_reads HR3.out
  obtain ⟨A4, c4, rfl, hlc4, hC4⟩ := Kd.R_reads HR2.out
  have HC3 := Aside0.mk hC3
  have HC4 := Aside0.mk hC4
  clear hC3 hC4
  go_wp2_with fail
  refine (equalFunc_Same.calls k A3 c3 us A4 c4 vs r _ HC3.out HC4.out HL.out HH.out).mono ?_
  rintro e w3 ⟨rfl, hb⟩
  have HB3 := Aside0.mk (below_step HB2.out hb)
  clear hb
  go_wp2_with fail
  go_ret
  exact ⟨rfl, HB3.out⟩

end Go.Proofs.Ytpfhppgklklhcaa.XF
