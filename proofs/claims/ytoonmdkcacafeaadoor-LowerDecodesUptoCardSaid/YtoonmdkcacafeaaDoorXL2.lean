/- WRITTEN BY A PROGRAM OF THIS SESSION (wip/tools/xprint.py, over the kit's printer): contracts of the functions that the seat's laws reach. -/
import Derived.Test.YtoonmdkcacafeaaDoorXL0
import Derived.Test.YtoonmdkcacafeaaDoorXL1
namespace Go.Proofs.YtoonmdkcacafeaaDoor.XL
open Go.RowKit Go.Proofs.YtoonmdkcacafeaaDoorW.PrintWords Go.Proofs.YtoonmdkcacafeaaDoorW.PrintLast Go.Proofs.YtoonmdkcacafeaaDoorW.PrintMore
attribute [local go_sem] max2_int min2_int max_two min_two max_three min_three max_four min_four   -- for this text's walks alone
set_option linter.unusedVariables false
set_option linter.unusedSimpArgs false

/-! ### thistleref01_Next: function 12 -/
def thistleref01_Next.j0 : Nat → ByteArray → Int → Bool → Option (Int × Int × Int)
  | 0, _, _, _ => none
  | k + 1, x0, x1, x16 => if x16 = true then (some (0, 0, 3)) else (if x1 = (x0.size : Int) then (some (0, 0, 7)) else ((thistleref01_unit.f k x0 x1).bind fun bt122 => (some (bt122.1, bt122.2, 0))))
def thistleref01_Next.f (k : Nat) (a0 : ByteArray) (a1 : Int) : Option (Int × Int × Int) := if a1 < 0 then (thistleref01_Next.j0 k a0 a1 true) else (thistleref01_Next.j0 k a0 a1 (decide (a1 > (a0.size : Int))))
theorem thistleref01_Next.mono_l : ∀ k, (∀ y0 y1 y2, LeO (thistleref01_Next.j0 k y0 y1 y2) (thistleref01_Next.j0 (k + 1) y0 y1 y2))
  | 0 => fun _ _ _ r h => by simp [thistleref01_Next.j0] at h
  | k + 1 => by
    have ih0 := thistleref01_Next.mono_l k
    · intro y0 y1 y2
      unfold thistleref01_Next.j0
      repeat' first
      | (with_reducible exact ih0 _ _ _)
      | (with_reducible exact thistleref01_unit.mono _ _ _)
      | (with_reducible exact LeO.refl _)
      | (with_reducible exact LeO.none _)
      | (with_reducible refine LeO.ite ?_ ?_)
      | (with_reducible refine LeO.bind ?_ (fun _ => ?_))
      | exact ih0 _ _ _
      | exact thistleref01_unit.mono _ _ _
      | exact LeO.none _
      | refine LeO.ite ?_ ?_
      | refine LeO.bind ?_ (fun _ => ?_)
theorem thistleref01_Next.mono : ∀ a0 a1 k, LeO (thistleref01_Next.f k a0 a1) (thistleref01_Next.f (k + 1) a0 a1) := by
  intro a0 a1 k
  have ih0 := thistleref01_Next.mono_l k
  unfold thistleref01_Next.f
  repeat' first
      | (with_reducible exact ih0 _ _ _)
      | (with_reducible exact thistleref01_unit.mono _ _ _)
      | (with_reducible exact LeO.refl _)
      | (with_reducible exact LeO.none _)
      | (with_reducible refine LeO.ite ?_ ?_)
      | (with_reducible refine LeO.bind ?_ (fun _ => ?_))
      | exact ih0 _ _ _
      | exact thistleref01_unit.mono _ _ _
      | exact LeO.none _
      | refine LeO.ite ?_ ?_
      | refine LeO.bind ?_ (fun _ => ?_)
set_option maxHeartbeats 8000000 in
set_option maxRecDepth 100000 in
theorem thistleref01_Next.calls (k : Nat) (a0 : ByteArray) (a1 : Int) (r1 : Int) (r2 : Int) (r3 : Int) (w : World) (h : thistleref01_Next.f k a0 a1 = some (r1, r2, r3)) (hG : GOK w := by first | (with_reducible exact HG_.out) | exact GOK.below HG_.out (by repeat (first | (with_reducible exact Below.refl _ _) | (with_reducible first | exact HB.out | apply below_alloc | apply pw_below_drewN | apply below_drew1 | refine below_set ?_ (Aside0.out (by assumption))) | exact HB.out)) | exact GOK.drewN HG_.out _ | exact GOK.drewN (GOK.drewN HG_.out _) _ | exact GOK.drew HG_.out) :
    Calls Tryd.prog 12 #[.string a0, .int .i64 a1] w fun e w' => e = .returned (.tuple #[.int .i32 r1, .int .i64 r2, .int .i64 r3]) ∧ Drawn0 w w' := by
  have HG_ := Aside0.mk hG
  clear hG
  have H : (if a1 < 0 then (thistleref01_Next.j0 k a0 a1 true) else (thistleref01_Next.j0 k a0 a1 (decide (a1 > (a0.size : Int))))) = some (r1, r2, r3) := h
  clear h
  have HC3 := Aside0.mk H
  clear H
  go_enter Tryd.func12, Tryd.ntmps12
  go_upto_region 1 with (fail)
  go_cut [16] (fun v16 wc => ∃ (kq : Nat) (x16_2 : Bool), v16 = .bool x16_2 ∧ Aside0 (thistleref01_Next.j0 kq a0 a1 x16_2 = some (r1, r2, r3)) ∧ Aside0 (kq ≤ k) ∧ Drawn0 w wc)
  case first =>
    have H := HC3.out
    clear HC3
    by_cases c4 : a1 < 0
    · rw [if_pos c4] at H
      have c4b0 : decide (a1 < 0) = true := decide_eq_true c4
      clear c4
      (first | rw [c4b0] | (simp only [i64_w, i32_w]; rw [c4b0]) | skip)
      have H' := Aside0.mk H
      clear H
      go_wp2
      go_meet
      case rel => exact ⟨_, (true), (by first | rfl | (simp; done) | (simp [*]; done)), H', ⟨by first | omega | exact Nat.le_refl _⟩, by repeat (first | exact Drawn0.refl _ | apply Drawn0.step)⟩
    · rw [if_neg c4] at H
      have c4b0 : decide (a1 < 0) = false := decide_eq_false c4
      clear c4
      (first | rw [c4b0] | (simp only [i64_w, i32_w]; rw [c4b0]) | skip)
      have H' := Aside0.mk H
      clear H
      go_wp2
      go_meet
      case rel => exact ⟨_, (decide (a1 > (a0.size : Int))), (by first | rfl | (simp; done) | (simp [*]; done)), H', ⟨by first | omega | exact Nat.le_refl _⟩, by repeat (first | exact Drawn0.refl _ | apply Drawn0.step)⟩
  case rest =>
    clear HC3
    try clear c1
    try clear p2
    try clear c4
    try clear c4b0
    obtain ⟨kq, x16_2, rfl, HA, HJ2, ⟨mc2, rfl⟩⟩ := hcut
    cases kq with
    | zero => exact absurd HA.out (by simp [thistleref01_Next.j0])
    | succ kj2 =>
      have H := HA.out
      clear HA
      simp only [thistleref01_Next.j0] at H
      by_cases c5 : x16_2 = true
      · subst c5
        have H1 : (some (0, 0, 3)) = some (r1, r2, r3) := by rw [if_pos rfl] at H; exact H
        clear H
        have H := H1
        clear H1
        simp only [Option.some.injEq, Prod.mk.injEq] at H
        obtain ⟨rfl, rfl, rfl⟩ := H
        go_wp2
        go_ret3
        exact ⟨by first | rfl | (simp; done) | (simp [*]; done), by repeat (first | exact Drawn0.refl _ | apply Drawn0.step)⟩
      · replace c5 := Bool.eq_false_iff.mpr c5
        subst c5
        have H1 : (if a1 = (a0.size : Int) then (some (0, 0, 7)) else ((thistleref01_unit.f kj2 a0 a1).bind fun bt122 => (some (bt122.1, bt122.2, 0)))) = some (r1, r2, r3) := by rw [if_neg (show ¬ (false = true) by decide)] at H; exact H
        clear H
        have H := H1
        clear H1
        by_cases c6 : a1 = (a0.size : Int)
        · rw [if_pos c6] at H
          have c6b0 : (a1 == (a0.size : Int)) = true := beq_iff_eq.mpr c6
          have c6b1 : (a1 != (a0.size : Int)) = false := bne_eq_false_iff_eq.mpr c6
          clear c6
          simp only [Option.some.injEq, Prod.mk.injEq] at H
          obtain ⟨rfl, rfl, rfl⟩ := H
          go_wp2
          go_ret3
          exact ⟨by first | rfl | (simp; done) | (simp [*]; done), by repeat (first | exact Drawn0.refl _ | apply Drawn0.step)⟩
        · rw [if_neg c6] at H
          have c6b0 : (a1 == (a0.size : Int)) = false := beq_eq_false_iff_ne.mpr c6
          have c6b1 : (a1 != (a0.size : Int)) = true := bne_iff_ne.mpr c6
          replace H := Option.bind_eq_some_iff.mp H
          obtain ⟨⟨t122, t123⟩, A70, H⟩ := H
          replace H : (some (t122, t123, 0)) = some (r1, r2, r3) := H
          have A7 := Aside0.mk A70
          clear A70
          simp only [Option.some.injEq, Prod.mk.injEq] at H
          obtain ⟨rfl, rfl, rfl⟩ := H
          go_wp2_with (first | ((with_reducible refine gate_callee (f := 43) rfl ?_); refine goesL_ (some 24) rfl rfl Tryd.func43 (by kernel_rfl) rfl #[.string a0, .int .i64 a1] rfl (by (try simp only [List.map_toArray, List.map_cons, List.map_nil]); first | done | rfl | (simp only [List.length_drop, List.length_take]; rfl)) ?_; (with_reducible refine (thistleref01_unit.calls kj2 a0 a1 t122 t123 _ A7.out).mono ?_); rintro e w' ⟨rfl, ⟨nd, rfl⟩⟩; refine ⟨_, rfl, ?_⟩))
          go_ret3
          exact ⟨by first | rfl | (simp; done) | (simp [*]; done), by repeat (first | exact Drawn0.refl _ | apply Drawn0.step)⟩

/-! ### thistleref16_goesOn: function 74 -/
def thistleref16_goesOn.f (k : Nat) (a0 : ByteArray) : Option (Bool) := if a0.size + 3 ≤ 9223372036854775807 then ((thistleref01_Next.f k (a0 ++ (⟨#[128, 128, 128]⟩ : ByteArray)) 0).bind fun bt124 => ((thistleref01_Next.f k (a0 ++ (⟨#[191, 191, 191]⟩ : ByteArray)) 0).bind fun bt127 => (if bt124.2.1 > (a0.size : Int) then (some true) else (some (decide (bt127.2.1 > (a0.size : Int))))))) else (none)
theorem thistleref16_goesOn.mono : ∀ a0 k, LeO (thistleref16_goesOn.f k a0) (thistleref16_goesOn.f (k + 1) a0) := by
  intro a0 k
  unfold thistleref16_goesOn.f
  repeat' first
      | (with_reducible exact thistleref01_Next.mono _ _ _)
      | (with_reducible exact LeO.refl _)
      | (with_reducible exact LeO.none _)
      | (with_reducible refine LeO.ite ?_ ?_)
      | (with_reducible refine LeO.bind ?_ (fun _ => ?_))
      | exact thistleref01_Next.mono _ _ _
      | exact LeO.none _
      | refine LeO.ite ?_ ?_
      | refine LeO.bind ?_ (fun _ => ?_)
set_option maxHeartbeats 8000000 in
set_option maxRecDepth 100000 in
theorem thistleref16_goesOn.calls (k : Nat) (a0 : ByteArray) (r : Bool) (w : World) (h : thistleref16_goesOn.f k a0 = some r) (hG : GOK w := by first | (with_reducible exact HG_.out) | exact GOK.below HG_.out (by repeat (first | (with_reducible exact Below.refl _ _) | (with_reducible first | exact HB.out | apply below_alloc | apply pw_below_drewN | apply below_drew1 | refine below_set ?_ (Aside0.out (by assumption))) | exact HB.out)) | exact GOK.drewN HG_.out _ | exact GOK.drewN (GOK.drewN HG_.out _) _ | exact GOK.drew HG_.out) :
    Calls Tryd.prog 74 #[.string a0] w fun e w' => e = .returned (.bool r) ∧ Drawn0 w w' := by
  have HG_ := Aside0.mk hG
  clear hG
  have H : (if a0.size + 3 ≤ 9223372036854775807 then ((thistleref01_Next.f k (a0 ++ (⟨#[128, 128, 128]⟩ : ByteArray)) 0).bind fun bt124 => ((thistleref01_Next.f k (a0 ++ (⟨#[191, 191, 191]⟩ : ByteArray)) 0).bind fun bt127 => (if bt124.2.1 > (a0.size : Int) then (some true) else (some (decide (bt127.2.1 > (a0.size : Int))))))) else (none)) = some r := h
  clear h
  by_cases c2 : a0.size + 3 ≤ 9223372036854775807
  · rw [if_pos c2] at H
    have c2b0 := eq_true c2
    have c2b1 : decide (a0.size + 3 ≤ 9223372036854775807) = true := decide_eq_true c2
    try have c2b2 : (9223372036854775807 < a0.size + 3) = False := eq_false (Nat.not_lt.2 c2)
    replace H := Option.bind_eq_some_iff.mp H
    obtain ⟨⟨t124, t125, t126⟩, A30, H⟩ := H
    replace H : ((thistleref01_Next.f k (a0 ++ (⟨#[191, 191, 191]⟩ : ByteArray)) 0).bind fun bt127 => (if t125 > (a0.size : Int) then (some true) else (some (decide (bt127.2.1 > (a0.size : Int)))))) = some r := H
    have A3 := Aside0.mk A30
    clear A30
    replace H := Option.bind_eq_some_iff.mp H
    obtain ⟨⟨t127, t128, t129⟩, A40, H⟩ := H
    replace H : (if t125 > (a0.size : Int) then (some true) else (some (decide (t128 > (a0.size : Int))))) = some r := H
    have A4 := Aside0.mk A40
    clear A40
    by_cases c5 : t125 > (a0.size : Int)
    · rw [if_pos c5] at H
      have c5b0 : decide ((a0.size : Int) < t125) = true := decide_eq_true c5
      clear c5
      obtain rfl := Option.some.inj H
      go_enter Tryd.func74, Tryd.ntmps74
      go_wp2_with (first | ((with_reducible refine gate_callee (f := 12) rfl ?_); refine goesL_ (some 12) rfl rfl Tryd.func12 (by kernel_rfl) rfl #[.string (a0 ++ (⟨#[128, 128, 128]⟩ : ByteArray)), .int .i64 0] rfl (by (try simp only [List.map_toArray, List.map_cons, List.map_nil]); first | done | rfl | (simp only [List.length_drop, List.length_take]; rfl)) ?_; (with_reducible refine (thistleref01_Next.calls k (a0 ++ (⟨#[128, 128, 128]⟩ : ByteArray)) 0 t124 t125 t126 _ A3.out).mono ?_); rintro e w' ⟨rfl, ⟨nd, rfl⟩⟩; refine ⟨_, rfl, ?_⟩) | ((with_reducible refine gate_callee (f := 12) rfl ?_); refine goesL_ (some 19) rfl rfl Tryd.func12 (by kernel_rfl) rfl #[.string (a0 ++ (⟨#[191, 191, 191]⟩ : ByteArray)), .int .i64 0] rfl (by (try simp only [List.map_toArray, List.map_cons, List.map_nil]); first | done | rfl | (simp only [List.length_drop, List.length_take]; rfl)) ?_; (with_reducible refine (thistleref01_Next.calls k (a0 ++ (⟨#[191, 191, 191]⟩ : ByteArray)) 0 t127 t128 t129 _ A4.out).mono ?_); rintro e w' ⟨rfl, ⟨nd, rfl⟩⟩; refine ⟨_, rfl, ?_⟩))
      go_ret
      exact ⟨by first | rfl | (simp; done) | (simp [*]; done), by repeat (first | exact Drawn0.refl _ | apply Drawn0.step)⟩
    · rw [if_neg c5] at H
      have c5b0 : decide ((a0.size : Int) < t125) = false := decide_eq_false c5
      clear c5
      obtain rfl := Option.some.inj H
      go_enter Tryd.func74, Tryd.ntmps74
      go_wp2_with (first | ((with_reducible refine gate_callee (f := 12) rfl ?_); refine goesL_ (some 12) rfl rfl Tryd.func12 (by kernel_rfl) rfl #[.string (a0 ++ (⟨#[128, 128, 128]⟩ : ByteArray)), .int .i64 0] rfl (by (try simp only [List.map_toArray, List.map_cons, List.map_nil]); first | done | rfl | (simp only [List.length_drop, List.length_take]; rfl)) ?_; (with_reducible refine (thistleref01_Next.calls k (a0 ++ (⟨#[128, 128, 128]⟩ : ByteArray)) 0 t124 t125 t126 _ A3.out).mono ?_); rintro e w' ⟨rfl, ⟨nd, rfl⟩⟩; refine ⟨_, rfl, ?_⟩) | ((with_reducible refine gate_callee (f := 12) rfl ?_); refine goesL_ (some 19) rfl rfl Tryd.func12 (by kernel_rfl) rfl #[.string (a0 ++ (⟨#[191, 191, 191]⟩ : ByteArray)), .int .i64 0] rfl (by (try simp only [List.map_toArray, List.map_cons, List.map_nil]); first | done | rfl | (simp only [List.length_drop, List.length_take]; rfl)) ?_; (with_reducible refine (thistleref01_Next.calls k (a0 ++ (⟨#[191, 191, 191]⟩ : ByteArray)) 0 t127 t128 t129 _ A4.out).mono ?_); rintro e w' ⟨rfl, ⟨nd, rfl⟩⟩; refine ⟨_, rfl, ?_⟩))
      go_ret
      exact ⟨by first | rfl | (simp; done) | (simp [*]; done), by repeat (first | exact Drawn0.refl _ | apply Drawn0.step)⟩
  · rw [if_neg c2] at H
    exact absurd H (by simp)

/-! ### thistleref16_Held: function 46 -/
def thistleref16_Held.l0 : Nat → ByteArray → Int → Option (ByteArray)
  | 0, _, _ => none
  | k + 1, x0, x3 => if x3 ≥ 1 then (if x3 ≤ (x0.size : Int) then (if 0 ≤ (wrap64 ((x0.size : Int) - x3)) then (if (wrap64 ((x0.size : Int) - x3)) ≤ (x0.size : Int) then ((thistleref16_goesOn.f k (x0.extract ((wrap64 ((x0.size : Int) - x3)) : Int).toNat x0.size)).bind fun t130 => (if t130 = true then (some (x0.extract ((wrap64 ((x0.size : Int) - x3)) : Int).toNat x0.size)) else (thistleref16_Held.l0 k x0 (wrap64 (x3 - 1))))) else (none)) else (none)) else (thistleref16_Held.l0 k x0 (wrap64 (x3 - 1)))) else (some (⟨#[]⟩ : ByteArray))
def thistleref16_Held.f (k : Nat) (a0 : ByteArray) : Option (ByteArray) := thistleref16_Held.l0 k a0 3
theorem thistleref16_Held.mono_l : ∀ k, (∀ y0 y1, LeO (thistleref16_Held.l0 k y0 y1) (thistleref16_Held.l0 (k + 1) y0 y1))
  | 0 => fun _ _ r h => by simp [thistleref16_Held.l0] at h
  | k + 1 => by
    have ih0 := thistleref16_Held.mono_l k
    · intro y0 y1
      unfold thistleref16_Held.l0
      repeat' first
      | (with_reducible exact ih0 _ _)
      | (with_reducible exact thistleref16_goesOn.mono _ _)
      | (with_reducible exact LeO.refl _)
      | (with_reducible exact LeO.none _)
      | (with_reducible refine LeO.ite ?_ ?_)
      | (with_reducible refine LeO.bind ?_ (fun _ => ?_))
      | exact ih0 _ _
      | exact thistleref16_goesOn.mono _ _
      | exact LeO.none _
      | refine LeO.ite ?_ ?_
      | refine LeO.bind ?_ (fun _ => ?_)
theorem thistleref16_Held.mono : ∀ a0 k, LeO (thistleref16_Held.f k a0) (thistleref16_Held.f (k + 1) a0) := by
  intro a0 k
  have ih0 := thistleref16_Held.mono_l k
  unfold thistleref16_Held.f
  repeat' first
      | (with_reducible exact ih0 _ _)
      | (with_reducible exact thistleref16_goesOn.mono _ _)
      | (with_reducible exact LeO.refl _)
      | (with_reducible exact LeO.none _)
      | (with_reducible refine LeO.ite ?_ ?_)
      | (with_reducible refine LeO.bind ?_ (fun _ => ?_))
      | exact ih0 _ _
      | exact thistleref16_goesOn.mono _ _
      | exact LeO.none _
      | refine LeO.ite ?_ ?_
      | refine LeO.bind ?_ (fun _ => ?_)
set_option maxHeartbeats 8000000 in
set_option maxRecDepth 100000 in
theorem thistleref16_Held.calls (k : Nat) (a0 : ByteArray) (r : ByteArray) (w : World) (h : thistleref16_Held.f k a0 = some r) (hG : GOK w := by first | (with_reducible exact HG_.out) | exact GOK.below HG_.out (by repeat (first | (with_reducible exact Below.refl _ _) | (with_reducible first | exact HB.out | apply below_alloc | apply pw_below_drewN | apply below_drew1 | refine below_set ?_ (Aside0.out (by assumption))) | exact HB.out)) | exact GOK.drewN HG_.out _ | exact GOK.drewN (GOK.drewN HG_.out _) _ | exact GOK.drew HG_.out) :
    Calls Tryd.prog 46 #[.string a0] w fun e w' => e = .returned (.string r) ∧ Drawn0 w w' := by
  have HG_ := Aside0.mk hG
  clear hG
  have H : (thistleref16_Held.l0 k a0 3) = some r := h
  clear h
  have H' := Aside0.mk H
  clear H
  go_enter Tryd.func46, Tryd.ntmps46
  go_wp2
  go_loopg [3] k (fun kq v3 w' => ∃ (x3_1 : Int), v3 = .int .i64 x3_1 ∧ Aside0 (thistleref16_Held.l0 kq a0 x3_1 = some r) ∧ Aside0 (kq ≤ k) ∧ Drawn0 w w')
  case atStart => exact ⟨(3), (by first | rfl | (simp; done) | (simp [*]; done)), H', ⟨Nat.le_refl _⟩, by repeat (first | exact Drawn0.refl _ | apply Drawn0.step)⟩
  case round =>
    clear H'
    obtain ⟨x3_1, rfl, HA, HK1, ⟨m1, rfl⟩⟩ := hrel
    cases gk with
    | zero => exact absurd HA.out (by simp [thistleref16_Held.l0])
    | succ k1 =>
      have H := HA.out
      clear HA
      simp only [thistleref16_Held.l0] at H
      by_cases c2 : x3_1 ≥ 1
      · rw [if_pos c2] at H
        have c2b0 : decide (1 ≤ x3_1) = true := decide_eq_true c2
        clear c2
        by_cases c3 : x3_1 ≤ (a0.size : Int)
        · rw [if_pos c3] at H
          have c3b0 : decide (x3_1 ≤ (a0.size : Int)) = true := decide_eq_true c3
          clear c3
          obtain ⟨ji4, hji4⟩ : ∃ j_ : Int, (wrap64 ((a0.size : Int) - x3_1)) = j_ := ⟨_, rfl⟩
          replace H : (if 0 ≤ (ji4) then (if (ji4) ≤ (a0.size : Int) then ((thistleref16_goesOn.f k1 (a0.extract ((ji4) : Int).toNat a0.size)).bind fun t130 => (if t130 = true then (some (a0.extract ((ji4) : Int).toNat a0.size)) else (thistleref16_Held.l0 k1 a0 (wrap64 (x3_1 - 1))))) else (none)) else (none)) = some r := by first | (rw [hji4] at H; exact H) | (simp only [hji4] at H ⊢; exact H)
          have hji4w : (IntKind.i64.wrap ((a0.size : Int) - x3_1)) = ji4 := (i64_w _).trans hji4
          by_cases c5 : 0 ≤ (ji4)
          · rw [if_pos c5] at H
            have c5b0 := eq_true c5
            have c5b1 : decide (0 ≤ (ji4)) = true := decide_eq_true c5
            clear c5
            by_cases c6 : (ji4) ≤ (a0.size : Int)
            · rw [if_pos c6] at H
              have c6b0 := eq_true c6
              have c6b1 : decide ((ji4) ≤ (a0.size : Int)) = true := decide_eq_true c6
              clear c6
              replace H := Option.bind_eq_some_iff.mp H
              obtain ⟨t130, A70, H⟩ := H
              replace H : (if t130 = true then (some (a0.extract ((ji4) : Int).toNat a0.size)) else (thistleref16_Held.l0 k1 a0 (wrap64 (x3_1 - 1)))) = some r := H
              have A7 := Aside0.mk A70
              clear A70
              by_cases c8 : t130 = true
              · subst c8
                have H1 : (some (a0.extract ((ji4) : Int).toNat a0.size)) = some r := by rw [if_pos rfl] at H; exact H
                clear H
                have H := H1
                clear H1
                have c9b0 := eq_true (of_decide_eq_true (by first | (with_reducible assumption) | assumption) : 0 ≤ (ji4))
                have c10b0 := eq_true (of_decide_eq_true (by first | (with_reducible assumption) | assumption) : (ji4) ≤ (a0.size : Int))
                obtain rfl := Option.some.inj H
                go_wp2_with (first | (go_at_call 74; (with_reducible refine (thistleref16_goesOn.calls k1 (a0.extract ((ji4) : Int).toNat a0.size) true _ A7.out).mono ?_); rintro e w' ⟨rfl, ⟨nd, rfl⟩⟩))
                go_ret
                exact ⟨by first | rfl | (simp; done) | (simp only [← hji4] <;> (first | rfl | simp)) | (simp [*]; done), by repeat (first | exact Drawn0.refl _ | apply Drawn0.step)⟩
              · replace c8 := Bool.eq_false_iff.mpr c8
                subst c8
                have H1 : (thistleref16_Held.l0 k1 a0 (wrap64 (x3_1 - 1))) = some r := by rw [if_neg (show ¬ (false = true) by decide)] at H; exact H
                clear H
                have H := H1
                clear H1
                have H' := Aside0.mk H
                clear H
                go_wp2_with (first | (go_at_call 74; (with_reducible refine (thistleref16_goesOn.calls k1 (a0.extract ((ji4) : Int).toNat a0.size) false _ A7.out).mono ?_); rintro e w' ⟨rfl, ⟨nd, rfl⟩⟩))
                go_roundg k1
                case measure => have := HK1.out; omega
                case rel => exact ⟨(wrap64 (x3_1 - 1)), (by first | rfl | (simp; done) | (simp [*]; done)), H', ⟨by have := HK1.out; omega⟩, by repeat (first | exact Drawn0.refl _ | apply Drawn0.step)⟩
            · rw [if_neg c6] at H
              exact absurd H (by simp)
          · rw [if_neg c5] at H
            exact absurd H (by simp)
        · rw [if_neg c3] at H
          have c3b0 : decide (x3_1 ≤ (a0.size : Int)) = false := decide_eq_false c3
          clear c3
          have H' := Aside0.mk H
          clear H
          go_wp2
          go_roundg k1
          case measure => have := HK1.out; omega
          case rel => exact ⟨(wrap64 (x3_1 - 1)), (by first | rfl | (simp; done) | (simp [*]; done)), H', ⟨by have := HK1.out; omega⟩, by repeat (first | exact Drawn0.refl _ | apply Drawn0.step)⟩
      · rw [if_neg c2] at H
        have c2b0 : decide (1 ≤ x3_1) = false := decide_eq_false c2
        clear c2
        obtain rfl := Option.some.inj H
        go_wp2
        go_ret
        exact ⟨by first | rfl | (simp; done) | (simp [*]; done), by repeat (first | exact Drawn0.refl _ | apply Drawn0.step)⟩

/-! ### thistleref16_Certain: function 44 -/
def thistleref16_Certain.f (k : Nat) (a0 : ByteArray) : Option (List Int) := (thistleref16_Held.f k a0).bind fun t131 => (if 0 ≤ (wrap64 ((a0.size : Int) - (t131.size : Int))) then (if (wrap64 ((a0.size : Int) - (t131.size : Int))) ≤ (a0.size : Int) then ((thistleref01_Units.f k (a0.extract 0 ((wrap64 ((a0.size : Int) - (t131.size : Int))) : Int).toNat)).bind fun t132 => (some t132)) else (none)) else (none))
theorem thistleref16_Certain.mono : ∀ a0 k, LeO (thistleref16_Certain.f k a0) (thistleref16_Certain.f (k + 1) a0) := by
  intro a0 k
  unfold thistleref16_Certain.f
  repeat' first
      | (with_reducible exact thistleref01_Units.mono _ _)
      | (with_reducible exact thistleref16_Held.mono _ _)
      | (with_reducible exact LeO.refl _)
      | (with_reducible exact LeO.none _)
      | (with_reducible refine LeO.ite ?_ ?_)
      | (with_reducible refine LeO.bind ?_ (fun _ => ?_))
      | exact thistleref01_Units.mono _ _
      | exact thistleref16_Held.mono _ _
      | exact LeO.none _
      | refine LeO.ite ?_ ?_
      | refine LeO.bind ?_ (fun _ => ?_)
set_option maxHeartbeats 8000000 in
set_option maxRecDepth 100000 in
theorem thistleref16_Certain.calls (k : Nat) (a0 : ByteArray) (r : List Int) (w : World) (h : thistleref16_Certain.f k a0 = some r) (hG : GOK w := by first | (with_reducible exact HG_.out) | exact GOK.below HG_.out (by repeat (first | (with_reducible exact Below.refl _ _) | (with_reducible first | exact HB.out | apply below_alloc | apply pw_below_drewN | apply below_drew1 | refine below_set ?_ (Aside0.out (by assumption))) | exact HB.out)) | exact GOK.drewN HG_.out _ | exact GOK.drewN (GOK.drewN HG_.out _) _ | exact GOK.drew HG_.out) :
    Calls Tryd.prog 44 #[.string a0] w fun e w' => ∃ v0_ : Value, e = .returned (v0_) ∧ Kd.R (Kd.int .i32) 21 w' w.heap.size (fun _ => True) v0_ r ∧ Below w.heap.size w w' := by
  have HG_ := Aside0.mk hG
  clear hG
  have HB := Aside0.mk (Below.refl w.heap.size w)
  have H : ((thistleref16_Held.f k a0).bind fun t131 => (if 0 ≤ (wrap64 ((a0.size : Int) - (t131.size : Int))) then (if (wrap64 ((a0.size : Int) - (t131.size : Int))) ≤ (a0.size : Int) then ((thistleref01_Units.f k (a0.extract 0 ((wrap64 ((a0.size : Int) - (t131.size : Int))) : Int).toNat)).bind fun t132 => (some t132)) else (none)) else (none))) = some r := h
  clear h
  replace H := Option.bind_eq_some_iff.mp H
  obtain ⟨t131, A20, H⟩ := H
  replace H : (if 0 ≤ (wrap64 ((a0.size : Int) - (t131.size : Int))) then (if (wrap64 ((a0.size : Int) - (t131.size : Int))) ≤ (a0.size : Int) then ((thistleref01_Units.f k (a0.extract 0 ((wrap64 ((a0.size : Int) - (t131.size : Int))) : Int).toNat)).bind fun t132 => (some t132)) else (none)) else (none)) = some r := H
  have A2 := Aside0.mk A20
  clear A20
  obtain ⟨ji3, hji3⟩ : ∃ j_ : Int, (wrap64 ((a0.size : Int) - (t131.size : Int))) = j_ := ⟨_, rfl⟩
  replace H : (if 0 ≤ (ji3) then (if (ji3) ≤ (a0.size : Int) then ((thistleref01_Units.f k (a0.extract 0 ((ji3) : Int).toNat)).bind fun t132 => (some t132)) else (none)) else (none)) = some r := by first | (rw [hji3] at H; exact H) | (simp only [hji3] at H ⊢; exact H)
  (try rw [hji3] at A2)
  have hji3w : (IntKind.i64.wrap ((a0.size : Int) - (t131.size : Int))) = ji3 := (i64_w _).trans hji3
  by_cases c4 : 0 ≤ (ji3)
  · rw [if_pos c4] at H
    have c4b0 := eq_true c4
    have c4b1 : decide (0 ≤ (ji3)) = true := decide_eq_true c4
    clear c4
    by_cases c5 : (ji3) ≤ (a0.size : Int)
    · rw [if_pos c5] at H
      have c5b0 := eq_true c5
      have c5b1 : decide ((ji3) ≤ (a0.size : Int)) = true := decide_eq_true c5
      clear c5
      replace H := Option.bind_eq_some_iff.mp H
      obtain ⟨t132, A60, H⟩ := H
      replace H : (some t132) = some r := H
      have A6 := Aside0.mk A60
      clear A60
      obtain rfl := Option.some.inj H
      go_enter Tryd.func44, Tryd.ntmps44
      go_wp2_with (first | ((with_reducible refine gate_callee (f := 46) rfl ?_); refine goesL_ (some 7) rfl rfl Tryd.func46 (by kernel_rfl) rfl #[.string a0] rfl (by (try simp only [List.map_toArray, List.map_cons, List.map_nil]); first | done | rfl | (simp only [List.length_drop, List.length_take]; rfl)) ?_; (with_reducible refine (thistleref16_Held.calls k a0 t131 _ A2.out).mono ?_); rintro e w' ⟨rfl, ⟨nd, rfl⟩⟩; refine ⟨_, rfl, ?_⟩) | ((with_reducible refine gate_callee (f := 45) rfl ?_); refine goesL_ (some 11) rfl rfl Tryd.func45 (by kernel_rfl) rfl #[.string (a0.extract 0 ((ji3) : Int).toNat)] rfl (by (try simp only [List.map_toArray, List.map_cons, List.map_nil]); first | done | (simp only [hji3]; rfl) | rfl | (simp only [List.length_drop, List.length_take]; rfl)) ?_; (with_reducible refine (thistleref01_Units.calls k (a0.extract 0 ((ji3) : Int).toNat) t132 _ A6.out).mono ?_); rintro e w7 ⟨v133, rfl, ho0, hb⟩; refine ⟨_, rfl, ?_⟩; have n0_ := Aside0.mk (Kd.R_lower ho0 (below_size (by repeat (first | (with_reducible first | exact HB.out | apply below_alloc | apply pw_below_drewN | apply below_drew1) | exact HB.out)))); have n1_ := Aside0.mk (below_step (by repeat (first | (with_reducible first | exact HB.out | apply below_alloc | apply pw_below_drewN | apply below_drew1) | exact HB.out)) hb); clear HB; have HO134 := n0_; have HB := n1_; clear n0_ n1_; (try clear hb); (try clear hb2); (try clear hk); (try clear hi); (try clear ho0)))
      go_ret
      exact ⟨_, by first | rfl | (simp [errW_none, errW_some] <;> rfl) | (simp only [← hji3]; first | rfl | (simp [errW_none, errW_some] <;> rfl)) | (simp [*, errW_none, errW_some] <;> rfl), by (with_reducible repeat (first | apply Kd.R_alloc | apply Kd.R_drewN | apply Kd.R_drew)); exact HO134.out, by repeat (first | (with_reducible first | exact HB.out | apply below_alloc | apply pw_below_drewN | apply below_drew1) | exact HB.out)⟩
    · rw [if_neg c5] at H
      exact absurd H (by simp)
  · rw [if_neg c4] at H
    exact absurd H (by simp)

-- NOT PRINTED: function 16 (thistlelaw16_agrees)

-- NOT PRINTED: function 4 (thistlelaw16_LowerDecodes)

/-! ### utf8_ValidRune: function 76 -/
def utf8_ValidRune.j0 : Nat → Int → Bool → Option (Bool)
  | 0, _, _ => none
  | k + 1, x0, x3 => if x3 = true then (some true) else (if 57343 < x0 then (if x0 ≤ 1114111 then (some true) else (some false)) else (some false))
def utf8_ValidRune.f (k : Nat) (a0 : Int) : Option (Bool) := if 0 ≤ a0 then (utf8_ValidRune.j0 k a0 (decide (a0 < 55296))) else (utf8_ValidRune.j0 k a0 false)
theorem utf8_ValidRune.mono_l : ∀ k, (∀ y0 y1, LeO (utf8_ValidRune.j0 k y0 y1) (utf8_ValidRune.j0 (k + 1) y0 y1))
  | 0 => fun _ _ r h => by simp [utf8_ValidRune.j0] at h
  | k + 1 => by
    have ih0 := utf8_ValidRune.mono_l k
    · intro y0 y1
      unfold utf8_ValidRune.j0
      repeat' first
      | (with_reducible exact ih0 _ _)
      | (with_reducible exact LeO.refl _)
      | (with_reducible exact LeO.none _)
      | (with_reducible refine LeO.ite ?_ ?_)
      | (with_reducible refine LeO.bind ?_ (fun _ => ?_))
      | exact ih0 _ _
      | exact LeO.none _
      | refine LeO.ite ?_ ?_
      | refine LeO.bind ?_ (fun _ => ?_)
theorem utf8_ValidRune.mono : ∀ a0 k, LeO (utf8_ValidRune.f k a0) (utf8_ValidRune.f (k + 1) a0) := by
  intro a0 k
  have ih0 := utf8_ValidRune.mono_l k
  unfold utf8_ValidRune.f
  repeat' first
      | (with_reducible exact ih0 _ _)
      | (with_reducible exact LeO.refl _)
      | (with_reducible exact LeO.none _)
      | (with_reducible refine LeO.ite ?_ ?_)
      | (with_reducible refine LeO.bind ?_ (fun _ => ?_))
      | exact ih0 _ _
      | exact LeO.none _
      | refine LeO.ite ?_ ?_
      | refine LeO.bind ?_ (fun _ => ?_)
set_option maxHeartbeats 8000000 in
set_option maxRecDepth 100000 in
theorem utf8_ValidRune.calls (k : Nat) (a0 : Int) (r : Bool) (w : World) (h : utf8_ValidRune.f k a0 = some r) (hG : GOK w := by first | (with_reducible exact HG_.out) | exact GOK.below HG_.out (by repeat (first | (with_reducible exact Below.refl _ _) | (with_reducible first | exact HB.out | apply below_alloc | apply pw_below_drewN | apply below_drew1 | refine below_set ?_ (Aside0.out (by assumption))) | exact HB.out)) | exact GOK.drewN HG_.out _ | exact GOK.drewN (GOK.drewN HG_.out _) _ | exact GOK.drew HG_.out) :
    Calls Tryd.prog 76 #[.int .i32 a0] w fun e w' => e = .returned (.bool r) ∧ Drawn0 w w' := by
  have HG_ := Aside0.mk hG
  clear hG
  have H : (if 0 ≤ a0 then (utf8_ValidRune.j0 k a0 (decide (a0 < 55296))) else (utf8_ValidRune.j0 k a0 false)) = some r := h
  clear h
  have HC2 := Aside0.mk H
  clear H
  go_enter Tryd.func76, Tryd.ntmps76
  go_upto_region 1 with (fail)
  go_cut [3] (fun v3 wc => ∃ (kq : Nat) (x3_1 : Bool), v3 = .bool x3_1 ∧ Aside0 (utf8_ValidRune.j0 kq a0 x3_1 = some r) ∧ Aside0 (kq ≤ k) ∧ Drawn0 w wc)
  case first =>
    have H := HC2.out
    clear HC2
    by_cases c3 : 0 ≤ a0
    · rw [if_pos c3] at H
      have c3b0 : decide (0 ≤ a0) = true := decide_eq_true c3
      clear c3
      (first | rw [c3b0] | (simp only [i64_w, i32_w]; rw [c3b0]) | skip)
      have H' := Aside0.mk H
      clear H
      go_wp2
      go_meet
      case rel => exact ⟨_, (decide (a0 < 55296)), (by first | rfl | (simp; done) | (simp [*]; done)), H', ⟨by first | omega | exact Nat.le_refl _⟩, by repeat (first | exact Drawn0.refl _ | apply Drawn0.step)⟩
    · rw [if_neg c3] at H
      have c3b0 : decide (0 ≤ a0) = false := decide_eq_false c3
      clear c3
      (first | rw [c3b0] | (simp only [i64_w, i32_w]; rw [c3b0]) | skip)
      have H' := Aside0.mk H
      clear H
      go_wp2
      go_meet
      case rel => exact ⟨_, (false), (by first | rfl | (simp; done) | (simp [*]; done)), H', ⟨by first | omega | exact Nat.le_refl _⟩, by repeat (first | exact Drawn0.refl _ | apply Drawn0.step)⟩
  case rest =>
    clear HC2
    try clear p2
    try clear c3
    try clear c3b0
    obtain ⟨kq, x3_1, rfl, HA, HJ1, ⟨mc1, rfl⟩⟩ := hcut
    cases kq with
    | zero => exact absurd HA.out (by simp [utf8_ValidRune.j0])
    | succ kj1 =>
      have H := HA.out
      clear HA
      simp only [utf8_ValidRune.j0] at H
      by_cases c4 : x3_1 = true
      · subst c4
        have H1 : (some true) = some r := by rw [if_pos rfl] at H; exact H
        clear H
        have H := H1
        clear H1
        obtain rfl := Option.some.inj H
        go_wp2
        go_ret
        exact ⟨by first | rfl | (simp; done) | (simp [*]; done), by repeat (first | exact Drawn0.refl _ | apply Drawn0.step)⟩
      · replace c4 := Bool.eq_false_iff.mpr c4
        subst c4
        have H1 : (if 57343 < a0 then (if a0 ≤ 1114111 then (some true) else (some false)) else (some false)) = some r := by rw [if_neg (show ¬ (false = true) by decide)] at H; exact H
        clear H
        have H := H1
        clear H1
        by_cases c5 : 57343 < a0
        · rw [if_pos c5] at H
          have c5b0 : decide (57343 < a0) = true := decide_eq_true c5
          clear c5
          by_cases c6 : a0 ≤ 1114111
          · rw [if_pos c6] at H
            have c6b0 : decide (a0 ≤ 1114111) = true := decide_eq_true c6
            clear c6
            obtain rfl := Option.some.inj H
            go_wp2
            go_ret
            exact ⟨by first | rfl | (simp; done) | (simp [*]; done), by repeat (first | exact Drawn0.refl _ | apply Drawn0.step)⟩
          · rw [if_neg c6] at H
            have c6b0 : decide (a0 ≤ 1114111) = false := decide_eq_false c6
            clear c6
            obtain rfl := Option.some.inj H
            go_wp2
            go_ret
            exact ⟨by first | rfl | (simp; done) | (simp [*]; done), by repeat (first | exact Drawn0.refl _ | apply Drawn0.step)⟩
        · rw [if_neg c5] at H
          have c5b0 : decide (57343 < a0) = false := decide_eq_false c5
          clear c5
          obtain rfl := Option.some.inj H
          go_wp2
          go_ret
          exact ⟨by first | rfl | (simp; done) | (simp [*]; done), by repeat (first | exact Drawn0.refl _ | apply Drawn0.step)⟩

/-! ### utf_unit: function 52 -/
def utf_unit.f (k : Nat) (a0 : Int) : Option (Bool) := (utf8_ValidRune.f k a0).bind fun t135 => (if t135 = true then (some true) else (if a0 ≥ 1114240 then (some (decide (a0 ≤ 1114367))) else (some false)))
theorem utf_unit.mono : ∀ a0 k, LeO (utf_unit.f k a0) (utf_unit.f (k + 1) a0) := by
  intro a0 k
  unfold utf_unit.f
  repeat' first
      | (with_reducible exact utf8_ValidRune.mono _ _)
      | (with_reducible exact LeO.refl _)
      | (with_reducible exact LeO.none _)
      | (with_reducible refine LeO.ite ?_ ?_)
      | (with_reducible refine LeO.bind ?_ (fun _ => ?_))
      | exact utf8_ValidRune.mono _ _
      | exact LeO.none _
      | refine LeO.ite ?_ ?_
      | refine LeO.bind ?_ (fun _ => ?_)
set_option maxHeartbeats 8000000 in
set_option maxRecDepth 100000 in
theorem utf_unit.calls (k : Nat) (a0 : Int) (r : Bool) (w : World) (h : utf_unit.f k a0 = some r) (hG : GOK w := by first | (with_reducible exact HG_.out) | exact GOK.below HG_.out (by repeat (first | (with_reducible exact Below.refl _ _) | (with_reducible first | exact HB.out | apply below_alloc | apply pw_below_drewN | apply below_drew1 | refine below_set ?_ (Aside0.out (by assumption))) | exact HB.out)) | exact GOK.drewN HG_.out _ | exact GOK.drewN (GOK.drewN HG_.out _) _ | exact GOK.drew HG_.out) :
    Calls Tryd.prog 52 #[.int .i32 a0] w fun e w' => e = .returned (.bool r) ∧ Drawn0 w w' := by
  have HG_ := Aside0.mk hG
  clear hG
  have H : ((utf8_ValidRune.f k a0).bind fun t135 => (if t135 = true then (some true) else (if a0 ≥ 1114240 then (some (decide (a0 ≤ 1114367))) else (some false)))) = some r := h
  clear h
  replace H := Option.bind_eq_some_iff.mp H
  obtain ⟨t135, A20, H⟩ := H
  replace H : (if t135 = true then (some true) else (if a0 ≥ 1114240 then (some (decide (a0 ≤ 1114367))) else (some false))) = some r := H
  have A2 := Aside0.mk A20
  clear A20
  by_cases c3 : t135 = true
  · subst c3
    have H1 : (some true) = some r := by rw [if_pos rfl] at H; exact H
    clear H
    have H := H1
    clear H1
    obtain rfl := Option.some.inj H
    go_enter Tryd.func52, Tryd.ntmps52
    go_wp2_with (first | ((with_reducible refine gate_callee (f := 76) rfl ?_); refine goesL_ (some 4) rfl rfl Tryd.func76 (by kernel_rfl) rfl #[.int .i32 a0] rfl (by (try simp only [List.map_toArray, List.map_cons, List.map_nil]); first | done | rfl | (simp only [List.length_drop, List.length_take]; rfl)) ?_; (with_reducible refine (utf8_ValidRune.calls k a0 true _ A2.out).mono ?_); rintro e w' ⟨rfl, ⟨nd, rfl⟩⟩; refine ⟨_, rfl, ?_⟩))
    go_ret
    exact ⟨by first | rfl | (simp; done) | (simp [*]; done), by repeat (first | exact Drawn0.refl _ | apply Drawn0.step)⟩
  · replace c3 := Bool.eq_false_iff.mpr c3
    subst c3
    have H1 : (if a0 ≥ 1114240 then (some (decide (a0 ≤ 1114367))) else (some false)) = some r := by rw [if_neg (show ¬ (false = true) by decide)] at H; exact H
    clear H
    have H := H1
    clear H1
    by_cases c4 : a0 ≥ 1114240
    · rw [if_pos c4] at H
      have c4b0 : decide (1114240 ≤ a0) = true := decide_eq_true c4
      clear c4
      obtain rfl := Option.some.inj H
      go_enter Tryd.func52, Tryd.ntmps52
      go_wp2_with (first | ((with_reducible refine gate_callee (f := 76) rfl ?_); refine goesL_ (some 4) rfl rfl Tryd.func76 (by kernel_rfl) rfl #[.int .i32 a0] rfl (by (try simp only [List.map_toArray, List.map_cons, List.map_nil]); first | done | rfl | (simp only [List.length_drop, List.length_take]; rfl)) ?_; (with_reducible refine (utf8_ValidRune.calls k a0 false _ A2.out).mono ?_); rintro e w' ⟨rfl, ⟨nd, rfl⟩⟩; refine ⟨_, rfl, ?_⟩))
      go_ret
      exact ⟨by first | rfl | (simp; done) | (simp [*]; done), by repeat (first | exact Drawn0.refl _ | apply Drawn0.step)⟩
    · rw [if_neg c4] at H
      have c4b0 : decide (1114240 ≤ a0) = false := decide_eq_false c4
      clear c4
      obtain rfl := Option.some.inj H
      go_enter Tryd.func52, Tryd.ntmps52
      go_wp2_with (first | ((with_reducible refine gate_callee (f := 76) rfl ?_); refine goesL_ (some 4) rfl rfl Tryd.func76 (by kernel_rfl) rfl #[.int .i32 a0] rfl (by (try simp only [List.map_toArray, List.map_cons, List.map_nil]); first | done | rfl | (simp only [List.length_drop, List.length_take]; rfl)) ?_; (with_reducible refine (utf8_ValidRune.calls k a0 false _ A2.out).mono ?_); rintro e w' ⟨rfl, ⟨nd, rfl⟩⟩; refine ⟨_, rfl, ?_⟩))
      go_ret
      exact ⟨by first | rfl | (simp; done) | (simp [*]; done), by repeat (first | exact Drawn0.refl _ | apply Drawn0.step)⟩

-- NOT PRINTED: function 90 (abi_NoEscape)

-- NOT PRINTED: function 77 (strings_Builder_copyCheck)

-- NOT PRINTED: function 53 (strings_Builder_WriteByte)

-- NOT PRINTED: function 91 (utf8_appendRuneNonASCII)

-- NOT PRINTED: function 78 (utf8_AppendRune)

-- NOT PRINTED: function 54 (strings_Builder_WriteRune)

-- NOT PRINTED: function 55 (strings_Builder_String)

/-! ### utf_Text: function 20 -/
def utf_Text.go (k : Nat) : List Int → List UInt8 → Option (ByteArray × Int)
  | [], acc => some (⟨acc.toArray⟩, 0)
  | u :: us, acc => (utf_unit.f k u).bind fun ok => if ok = true then (if acc.length + 4 ≤ 140737488355328 then (if u > 1114111 then utf_Text.go k us (acc ++ [UInt8.ofNat (wrap32 (u - 1114112) % 256).toNat]) else utf_Text.go k us (acc ++ Lib.encodeRune u)) else none) else some (⟨#[]⟩, 2)
def utf_Text.f (k : Nat) (l0 : List Int) : Option (ByteArray × Int) := if l0.length ≤ 140737488355328 then utf_Text.go k l0 [] else none
theorem utf_Text.mono_go (k : Nat) : ∀ l acc, LeO (utf_Text.go k l acc) (utf_Text.go (k + 1) l acc)
  | [], _ => LeO.refl _
  | u :: us, acc => by
    rw [utf_Text.go, utf_Text.go]
    exact LeO.bind (utf_unit.mono _ _) (fun _ => LeO.ite (LeO.ite (LeO.ite (utf_Text.mono_go k us _) (utf_Text.mono_go k us _)) (LeO.refl _)) (LeO.refl _))
theorem utf_Text.mono : ∀ a0 k, LeO (utf_Text.f k a0) (utf_Text.f (k + 1) a0) := fun a0 k => LeO.ite (utf_Text.mono_go k a0 []) (LeO.refl _)
set_option maxHeartbeats 1600000 in
set_option maxRecDepth 100000 in
theorem copyCheck_fresh (b : Nat) (w : World) (h0 : w.cell? ⟨b, 0, none⟩ = some (.pointer none)) (hsh : w.shape? b = some (92, 2)) (hfz : w.frozen? ⟨b, 0, none⟩ = false) :
    Calls Tryd.prog 77 #[.pointer (some ⟨b, 0, none⟩)] w fun e w' => e = .returned (.tuple #[]) ∧ w' = w.setCell ⟨b, 0, none⟩ (.pointer (some ⟨b, 0, none⟩)) := by
  obtain ⟨j, hj, hjs⟩ := Option.map_eq_some_iff.1 Tryd.Builder_Extra_169.sizeBuilder
  go_enter Tryd.func77, Tryd.ntmps77
  go_wp2
  rw [Lib.run_to_unsafe w ⟨b, 0, none⟩ Tryd.underlying90 Tryd.underlying143 hj (by rw [hjs]; decide) hsh (Nat.zero_lt_succ 1)]
  simp only [Result.andThen]
  rw [Oper.upon_value]
  go_wp2
  rw [run_callFunc_extern (Tryd.func90) (by kernel_rfl) (by kernel_rfl) (by kernel_rfl) (e := Extern.AbiNoEscape.same) (by kernel_rfl)]
  rw [Lib.run_noEscape]
  simp only [Result.andThen]
  rw [Oper.upon_value]
  go_wp2
  rw [Lib.run_from_unsafe w ⟨b, 0, none⟩ Tryd.underlying143 Tryd.underlying90 hj hsh Tryd.Builder_Extra_169.liesBuilder]
  simp only [Result.andThen]
  rw [Oper.upon_value]
  go_wp2
  go_end0
  exact ⟨rfl, rfl⟩
set_option maxHeartbeats 1600000 in
set_option maxRecDepth 100000 in
theorem copyCheck_used (b : Nat) (w : World) (h0 : w.cell? ⟨b, 0, none⟩ = some (.pointer (some ⟨b, 0, none⟩))) :
    Calls Tryd.prog 77 #[.pointer (some ⟨b, 0, none⟩)] w fun e w' => e = .returned (.tuple #[]) ∧ w' = w := by
  obtain ⟨j, hj, _⟩ := Option.map_eq_some_iff.1 Tryd.Builder_Extra_169.sizeBuilder
  go_enter Tryd.func77, Tryd.ntmps77
  go_wp2
  rw [Lib.run_neq_ptr_same w _ Tryd.underlying90 hj]
  go_wp2
  go_end0
  exact ⟨rfl, rfl⟩
theorem copyCheck_k (B b : Nat) (bs : List Value) (w : World) (h : Lib.IsBuilderF 92 5 B b bs w) :
    Calls Tryd.prog 77 #[.pointer (some ⟨b, 0, none⟩)] w fun e w' => e = .returned (.tuple #[]) ∧ (Lib.BuilderAtF 92 5 B b (.pointer (some ⟨b, 0, none⟩)) bs w' ∧ Below B w w' ∧ Lib.OthersKept 5 (some b) w w') := by
  rcases h with h | h
  · refine (copyCheck_fresh b w h.cell0 h.shape h.frozen0).mono ?_
    rintro e w' ⟨rfl, rfl⟩
    exact ⟨rfl, h.used _, (Below.refl B w).setCell (p := ⟨b, 0, none⟩) h.1 _, (Lib.OthersKept.refl _ _ w).setCell ⟨b, 0, none⟩ rfl _⟩
  · refine (copyCheck_used b w h.cell0).mono ?_
    rintro e w' ⟨rfl, rfl⟩
    exact ⟨rfl, h, Below.refl B _, Lib.OthersKept.refl _ _ _⟩
set_option maxHeartbeats 2000000 in
set_option maxRecDepth 100000 in
theorem writeByte_k (B b : Nat) (bs : List Value) (c : Int) (w : World) (h : Lib.IsBuilderF 92 5 B b bs w) (hlen : bs.length + 1 ≤ 140737488355328) (hBw : B ≤ w.heap.size) :
    Calls Tryd.prog 53 #[.pointer (some ⟨b, 0, none⟩), .int .u8 c] w fun e w' => e = .returned .nilIface ∧ (Lib.BuilderAtF 92 5 B b (.pointer (some ⟨b, 0, none⟩)) (bs ++ [.int .u8 c]) w' ∧ Below B w w' ∧ Lib.OthersKept 5 (some b) w w') := by
  obtain ⟨i0, hi, hz0, hz1, hz2⟩ := info_parts Tryd.Builder_Extra_169.infoByte
  go_enter Tryd.func53, Tryd.ntmps53
  go_wp2_with (go_at_call 77; refine (copyCheck_k B b bs _ h).mono ?_)
  rintro e w1 ⟨rfl, h1, hb1, hk1⟩
  obtain ⟨hB, v, hbk, hown, hne⟩ := h1
  have c0 : w1.cell? ⟨b, 0, none⟩ = some (.pointer (some ⟨b, 0, none⟩)) := by rw [Lib.cell_of_heap hbk]; rfl
  have c1 : w1.cell? ⟨b, 1, none⟩ = some v := by rw [Lib.cell_of_heap hbk]; rfl
  go_wp2_with (at_builtin; refine wpList_append_ownF _ rfl _ _ 32 rfl B 5 i0 (.int .u8 0) 1 1 Tryd.underlying32 hi hz0 hz1 hz2 rfl (by decide) _ _ _ rfl (hown.alloc _) ⟨w1.heap.size, 0, none⟩ 1 1 [.int .u8 c] rfl rfl ?c1 ?c2 ?c3 ?c4 ?c5 ?_)
  case c1 =>
    intro j u hj
    match j, hj with
    | 0, hj => simp at hj; subst hj; simp [Addr.add]
  case c2 => intro u hu; simp at hu; subst hu; rfl
  case c3 => unfold maxLen; omega
  case c4 => omega
  case c5 => have := hb1.size; simp; omega
  intro v' w2 hown' hgrow _
  have hlt : b < w1.heap.size := by
    rcases Nat.lt_or_ge b w1.heap.size with h' | h'
    · exact h'
    · simp [Array.getElem?_eq_none h'] at hbk
  have hb2 : w2.heap[b]? = some (.cells #[.pointer (some ⟨b, 0, none⟩), v] 92 (0, 0)) := by
    rw [hgrow.block b (by simp; omega) (fun e => hne e.symm), Lib.alloc_old w1 _ b hlt]
    exact hbk
  have d0 : w2.cell? ⟨b, 0, none⟩ = some (.pointer (some ⟨b, 0, none⟩)) := by rw [Lib.cell_of_heap hb2]; rfl
  have d1 : w2.cell? ⟨b, 1, none⟩ = some v := by rw [Lib.cell_of_heap hb2]; rfl
  have f1 : w2.frozen? ⟨b, 1, none⟩ = false := Lib.frozen_of_heap hb2 1
  obtain ⟨g, cap, rfl⟩ : ∃ g cap, v' = .slice (some ⟨g, 0, none⟩) (bs.length + 1) cap := by
    rcases hown'.2 with ⟨_, h0⟩ | ⟨g, cap, cur, fz, hv, _⟩
    · omega
    · exact ⟨g, cap, hv⟩
  go_wp2
  go_ret
  refine ⟨rfl, ?_, ?_, ((hk1.alloc _).grown hgrow (Lib.ownsRowF_kind (hown.alloc _))).setCell ⟨b, 1, none⟩ rfl _⟩
  · exact Lib.BuilderAtF.put (T := 92) (e := 5) hB hb2 (bs' := bs ++ [.int .u8 c]) (by simpa using hown') Tryd.Builder_Extra_169.neB5
  · exact ((hb1.alloc (by have := hb1.size; omega) _).grown hgrow (by have := hb1.size; simp; omega) (fun k hk => (hown.lt k hk).1)).setCell (p := ⟨b, 1, none⟩) hB _
set_option maxHeartbeats 4000000 in
set_option maxRecDepth 100000 in
theorem writeRune_k (B b : Nat) (bs : List Value) (r : Int) (hr0 : -2147483648 ≤ r) (hr1 : r ≤ 2147483647) (w : World) (h : Lib.IsBuilderF 92 5 B b bs w) (hlen : bs.length + 4 ≤ 140737488355328) (hBw : B ≤ w.heap.size) :
    Calls Tryd.prog 54 #[.pointer (some ⟨b, 0, none⟩), .int .i32 r] w fun e w' => e = .returned (.tuple #[.int .i64 (Lib.runeCells r).length, .nilIface]) ∧ (Lib.BuilderAtF 92 5 B b (.pointer (some ⟨b, 0, none⟩)) (bs ++ Lib.runeCells r) w' ∧ Below B w w' ∧ Lib.OthersKept 5 (some b) w w') := by
  have hk4 := Lib.runeCells_le r
  go_enter Tryd.func54, Tryd.ntmps54
  go_wp2_with (go_at_call 77; refine (copyCheck_k B b bs _ h).mono ?_)
  rintro e w1 ⟨rfl, h1, hb1, hk1⟩
  obtain ⟨hB, v, hbk, hown, hne⟩ := h1
  obtain ⟨ao, cap, rfl⟩ : ∃ ao cap, v = .slice ao bs.length cap := by
    rcases hown.2 with ⟨hv, h0⟩ | ⟨g, cap, cur, fz, hv, _⟩
    · exact ⟨none, 0, by rw [hv, h0]⟩
    · exact ⟨_, _, hv⟩
  have c0 : w1.cell? ⟨b, 0, none⟩ = some (.pointer (some ⟨b, 0, none⟩)) := by rw [Lib.cell_of_heap hbk]; rfl
  have c1 : w1.cell? ⟨b, 1, none⟩ = some (.slice ao bs.length cap) := by rw [Lib.cell_of_heap hbk]; rfl
  go_wp2_with (go_at_call 78; refine (Tryd.utf8_AppendRune_row B _ bs.length bs r hr0 hr1 _ hown hlen (by have := hb1.size; omega)).mono ?_)
  rintro e w2 ⟨v', rfl, hown', o, hgrow⟩
  have hlt : b < w1.heap.size := by
    rcases Nat.lt_or_ge b w1.heap.size with h' | h'
    · exact h'
    · simp [Array.getElem?_eq_none h'] at hbk
  have hb2 : w2.heap[b]? = some (.cells #[.pointer (some ⟨b, 0, none⟩), .slice ao bs.length cap] 92 (0, 0)) := by
    rw [hgrow.block b (by simp; omega) (fun e => hne e.symm), Lib.alloc_old w1 _ b hlt]
    exact hbk
  have d0 : w2.cell? ⟨b, 0, none⟩ = some (.pointer (some ⟨b, 0, none⟩)) := by rw [Lib.cell_of_heap hb2]; rfl
  have d1 : w2.cell? ⟨b, 1, none⟩ = some (.slice ao bs.length cap) := by rw [Lib.cell_of_heap hb2]; rfl
  have f1 : w2.frozen? ⟨b, 1, none⟩ = false := Lib.frozen_of_heap hb2 1
  obtain ⟨g, cap', rfl⟩ : ∃ g cap', v' = .slice (some ⟨g, 0, none⟩) (bs.length + (Lib.runeCells r).length) cap' := by
    rcases hown'.2 with ⟨_, h0⟩ | ⟨g, cap', cur, fz, hv, _⟩
    · omega
    · exact ⟨g, cap', hv⟩
  go_wp2
  go_ret2
  refine ⟨?_, ?_, ?_, ((hk1.alloc _).grown hgrow (Lib.ownsRowF_kind (hown.alloc _))).setCell ⟨b, 1, none⟩ rfl _⟩
  · have e : ((bs.length : Int) + ((Lib.runeCells r).length : Int) - (bs.length : Int)) = ((Lib.runeCells r).length : Int) := by omega
    simp [e]
  · exact Lib.BuilderAtF.put (T := 92) (e := 5) hB hb2 (bs' := bs ++ Lib.runeCells r) (by simpa using hown') Tryd.Builder_Extra_169.neB5
  · exact ((hb1.alloc (by have := hb1.size; omega) _).grown hgrow (by have := hb1.size; simp; omega) (fun k hk => (hown.lt k hk).1)).setCell (p := ⟨b, 1, none⟩) hB _
theorem isB_drawn {T e : TypeId} {B b : Nat} {bs : List Value} {w w' : World} (h : Lib.IsBuilderF T e B b bs w) (hd : Drawn0 w w') : Lib.IsBuilderF T e B b bs w' := by
  obtain ⟨⟨m, rfl⟩⟩ := hd
  exact h
theorem drop_rd (l : List Int) (x : Int) (h0 : 0 ≤ x) (h : x < (l.length : Int)) : l.drop x.toNat = rd l x :: l.drop (x + 1).toNat := by
  have h1 : x.toNat < l.length := by omega
  have h2 : (x + 1).toNat = x.toNat + 1 := by omega
  rw [List.drop_eq_getElem_cons h1, h2]
  simp [rd, List.getD, h1]
theorem unit_nonneg (k : Nat) (u : Int) (h : utf_unit.f k u = some true) : 0 ≤ u := by
  by_cases hu : 0 ≤ u
  · exact hu
  · exfalso
    unfold utf_unit.f utf8_ValidRune.f at h
    rw [if_neg hu] at h
    cases k with
    | zero => simp [utf8_ValidRune.j0] at h
    | succ k =>
      simp only [utf8_ValidRune.j0] at h
      have h1 : ¬ (65536 ≤ u) := by omega
      have h2 : ¬ (57343 < u) := by omega
      have h3 : ¬ (u ≥ 1114240) := by omega
      simp [h1, h2, h3] at h
theorem byteCells_one (acc : List UInt8) (n : Int) : Lib.byteCells (acc ++ [UInt8.ofNat (n % 256).toNat]) = Lib.byteCells acc ++ [.int .u8 (n % 256)] := by
  rw [Lib.byteCells_append]
  have h : ((UInt8.ofNat (n % 256).toNat).toNat : Int) = n % 256 := by
    rw [UInt8.toNat_ofNat']
    omega
  have h2 : Lib.byteCells [UInt8.ofNat (n % 256).toNat] = [Value.int .u8 ((UInt8.ofNat (n % 256).toNat).toNat : Int)] := rfl
  rw [h2, h]
set_option maxHeartbeats 1600000 in
set_option maxRecDepth 100000 in
theorem utf_Text.calls (k : Nat) (A0 : Option Addr) (c0 : Nat) (l0 : List Int) (r1 : ByteArray) (r2 : Int) (w : World) (hr0 : Kd.C (Kd.int .i32) w A0 l0.length l0) (hc0 : l0.length ≤ c0) (h : utf_Text.f k l0 = some (r1, r2)) (hG : GOK w := by first | (with_reducible exact HG_.out) | exact GOK.below HG_.out (by repeat (first | (with_reducible exact Below.refl _ _) | (with_reducible first | exact HB.out | apply below_alloc | apply pw_below_drewN | apply below_drew1 | refine below_set ?_ (Aside0.out (by assumption))) | exact HB.out)) | exact GOK.drewN HG_.out _ | exact GOK.drewN (GOK.drewN HG_.out _) _ | exact GOK.drew HG_.out) :
    Calls Tryd.prog 20 #[.slice A0 l0.length c0] w fun e w' => e = .returned (.tuple #[.string r1, .int .i64 r2]) ∧ Below w.heap.size w w' := by
  have HC := Aside0.mk hr0
  unfold utf_Text.f at h
  by_cases hll : l0.length ≤ 140737488355328
  case neg => rw [if_neg hll] at h; cases h
  rw [if_pos hll] at h
  have HLL := Aside0.mk hll
  clear hll
  have HF := Aside0.mk h
  clear hr0 hc0 h
  have HG_ := Aside0.mk hG
  clear hG
  go_enter Tryd.func20, Tryd.ntmps20
  go_wp2_with fail
  go_loopw [6, 9] (fun _ v9 wr => ∃ (x : Int) (acc : List UInt8), v9 = .int .i64 x ∧ 0 ≤ x ∧ x ≤ (l0.length : Int) ∧ Aside0 (Lib.IsBuilderF 92 5 w.heap.size w.heap.size (Lib.byteCells acc) wr) ∧ Aside0 (Below w.heap.size w wr) ∧ Aside0 (utf_Text.go k (l0.drop x.toNat) acc = some (r1, r2))) (fun _ v9 _ => l0.length - (intOf v9).toNat)
  case atStart => exact ⟨0, [], rfl, by omega, by omega, ⟨Lib.IsBuilderF.of (Lib.fresh_isBuilder 92 5 w)⟩, ⟨below_alloc (Below.refl _ w) _⟩, HF⟩
  case round =>
    clear HF
    obtain ⟨x, acc, rfl, hx0, hx1, HI, HB, HF⟩ := hrel
    by_cases hlt : x < (l0.length : Int)
    · have d1 : decide (x < (l0.length : Int)) = true := decide_eq_true hlt
      have hF := HF.out
      rw [drop_rd l0 x hx0 hlt, utf_Text.go] at hF
      obtain ⟨ok, hok, hF⟩ := Option.bind_eq_some_iff.mp hF
      have HOK := Aside0.mk hok
      have HCR := Aside0.mk (Kd.C_below HC.out HB.out)
      obtain ⟨ad101, e101, hx101_0⟩ := Kd.at_int HCR.out x hx0 hlt
      cases e101
      have p101 := eq_true hx0
      have q101 := eq_true hlt
      clear hok
      have HX := Aside0.mk hx0
      have HX1 := Aside0.mk hlt
      clear hx1 hlt hx0
      cases ok with
      | false =>
        rw [if_neg (by decide)] at hF
        obtain ⟨rfl, rfl⟩ : (⟨#[]⟩ : ByteArray) = r1 ∧ (2 : Int) = r2 := by simpa using hF
        go_wp2_with fail
        refine (utf_unit.calls k _ false _ HOK.out (HG_.out.below HB.out)).mono ?_
        rintro e w3 ⟨rfl, hd⟩
        have HB3 := Aside0.mk (XLib.below_drawn HB.out hd)
        clear hd
        go_wp2_with fail
        go_ret2
        exact ⟨rfl, HB3.out⟩
      | true =>
        rw [if_pos rfl] at hF
        by_cases hl : acc.length + 4 ≤ 140737488355328
        · rw [if_pos hl] at hF
          have HL := Aside0.mk hl
          clear hl
          go_wp2_with fail
          refine (utf_unit.calls k _ true _ HOK.out (HG_.out.below HB.out)).mono ?_
          rintro e w3 ⟨rfl, hd⟩
          have HB3 := Aside0.mk (XLib.below_drawn HB.out hd)
          have HI3 := Aside0.mk (isB_drawn HI.out hd)
          clear hd
          by_cases hb : rd l0 x > 1114111
          · rw [if_pos hb] at hF
            have d2 : decide (1114111 < rd l0 x) = true := decide_eq_true hb
            have HF2 := Aside0.mk hF
            clear hF
            go_wp2_with (go_at_call 53; refine (writeByte_k w.heap.size w.heap.size _ _ _ HI3.out (by rw [Lib.byteCells_length]; have := HL.out; omega) HB3.out.size).mono ?_)
            rintro e w4 ⟨rfl, hI, hb4, _⟩
            have HI4 := Aside0.mk hI
            have HB4 := Aside0.mk (HB3.out.trans hb4)
            clear hI hb4
            go_wp2_with fail
            have hwr : wrap64 (x + 1) = x + 1 := by have h1 := HX1.out; have h2 := HLL.out; have h3 := HX.out; unfold wrap64; omega
            go_roundw
            case rel => exact ⟨x + 1, acc ++ [UInt8.ofNat (wrap32 (rd l0 x - 1114112) % 256).toNat], by rw [hwr], by have := HX.out; omega, by have := HX1.out; omega, ⟨by rw [byteCells_one]; exact Or.inr HI4.out⟩, HB4, HF2⟩
            case measure => rw [hwr]; simp [intOf]; have := HX.out; have := HX1.out; omega
          · rw [if_neg hb] at hF
            have d2 : decide (1114111 < rd l0 x) = false := decide_eq_false hb
            have HF2 := Aside0.mk hF
            have HN := Aside0.mk (unit_nonneg k _ HOK.out)
            clear hF
            go_wp2_with (go_at_call 54; refine (writeRune_k w.heap.size w.heap.size _ _ (by have := HN.out; omega) (by omega) _ HI3.out (by rw [Lib.byteCells_length]; have := HL.out; omega) HB3.out.size).mono ?_)
            rintro e w4 ⟨rfl, hI, hb4, _⟩
            have HI4 := Aside0.mk hI
            have HB4 := Aside0.mk (HB3.out.trans hb4)
            clear hI hb4
            go_wp2_with fail
            have hwr : wrap64 (x + 1) = x + 1 := by have h1 := HX1.out; have h2 := HLL.out; have h3 := HX.out; unfold wrap64; omega
            go_roundw
            case rel => exact ⟨x + 1, acc ++ Lib.encodeRune (rd l0 x), by rw [hwr], by have := HX.out; omega, by have := HX1.out; omega, ⟨by rw [Lib.byteCells_append, Lib.byteCells_encodeRune]; exact Or.inr HI4.out⟩, HB4, HF2⟩
            case measure => rw [hwr]; simp [intOf]; have := HX.out; have := HX1.out; omega
        · rw [if_neg hl] at hF
          cases hF
    · have hx2 : x = (l0.length : Int) := by omega
      subst hx2
      have d1 : decide ((l0.length : Int) < (l0.length : Int)) = false := decide_eq_false (by omega)
      have hF := HF.out
      rw [Int.toNat_natCast, List.drop_length, utf_Text.go] at hF
      obtain ⟨rfl, rfl⟩ : (⟨acc.toArray⟩ : ByteArray) = r1 ∧ (0 : Int) = r2 := by simpa using hF
      go_wp2_with fail
      refine (Tryd.Builder_String_any_k w.heap.size w.heap.size acc _ HI.out HB.out.size).mono ?_
      rintro e w4 ⟨rfl, _, hb4, _⟩
      have HB4 := Aside0.mk (HB.out.trans hb4)
      clear hb4
      go_wp2_with fail
      go_ret2
      exact ⟨rfl, HB4.out⟩

/-! ### stringslite_HasPrefix: function 92 -/
def stringslite_HasPrefix.f (a0 : ByteArray) (a1 : ByteArray) : Option (Bool) := if (a0.size : Int) ≥ (a1.size : Int) then (if 0 ≤ (a1.size : Int) then (if (a1.size : Int) ≤ (a0.size : Int) then (some ((a0.extract 0 ((a1.size : Int) : Int).toNat).toList == a1.toList)) else (none)) else (none)) else (some false)
set_option maxHeartbeats 8000000 in
set_option maxRecDepth 100000 in
theorem stringslite_HasPrefix.calls (a0 : ByteArray) (a1 : ByteArray) (r : Bool) (w : World) (h : stringslite_HasPrefix.f a0 a1 = some r) (hG : GOK w := by first | (with_reducible exact HG_.out) | exact GOK.below HG_.out (by repeat (first | (with_reducible exact Below.refl _ _) | (with_reducible first | exact HB.out | apply below_alloc | apply pw_below_drewN | apply below_drew1 | refine below_set ?_ (Aside0.out (by assumption))) | exact HB.out)) | exact GOK.drewN HG_.out _ | exact GOK.drewN (GOK.drewN HG_.out _) _ | exact GOK.drew HG_.out) :
    Calls Tryd.prog 92 #[.string a0, .string a1] w fun e w' => e = .returned (.bool r) ∧ Drawn0 w w' := by
  have HG_ := Aside0.mk hG
  clear hG
  have H : (if (a0.size : Int) ≥ (a1.size : Int) then (if 0 ≤ (a1.size : Int) then (if (a1.size : Int) ≤ (a0.size : Int) then (some ((a0.extract 0 ((a1.size : Int) : Int).toNat).toList == a1.toList)) else (none)) else (none)) else (some false)) = some r := h
  clear h
  by_cases c3 : (a0.size : Int) ≥ (a1.size : Int)
  · rw [if_pos c3] at H
    have c3b0 : decide ((a1.size : Int) ≤ (a0.size : Int)) = true := decide_eq_true c3
    have c3b1 : decide (a1.size ≤ a0.size) = true := decide_eq_true (Int.ofNat_le.mp c3)
    clear c3
    by_cases c4 : 0 ≤ (a1.size : Int)
    · rw [if_pos c4] at H
      have c4b0 := eq_true c4
      have c4b1 : decide (0 ≤ (a1.size : Int)) = true := decide_eq_true c4
      clear c4
      by_cases c5 : (a1.size : Int) ≤ (a0.size : Int)
      · rw [if_pos c5] at H
        have c5b0 := eq_true c5
        have c5b1 : decide ((a1.size : Int) ≤ (a0.size : Int)) = true := decide_eq_true c5
        clear c5
        obtain rfl := Option.some.inj H
        go_enter Tryd.func92, Tryd.ntmps92
        go_wp2
        go_ret
        exact ⟨by first | rfl | (simp; done) | (simp [*]; done), by repeat (first | exact Drawn0.refl _ | apply Drawn0.step)⟩
      · rw [if_neg c5] at H
        exact absurd H (by simp)
    · rw [if_neg c4] at H
      exact absurd H (by simp)
  · rw [if_neg c3] at H
    have c3b0 : decide ((a1.size : Int) ≤ (a0.size : Int)) = false := decide_eq_false c3
    have c3b1 : decide (a1.size ≤ a0.size) = false := decide_eq_false (fun h => c3 (Int.ofNat_le.mpr h))
    clear c3
    obtain rfl := Option.some.inj H
    go_enter Tryd.func92, Tryd.ntmps92
    go_wp2
    go_ret
    exact ⟨by first | rfl | (simp; done) | (simp [*]; done), by repeat (first | exact Drawn0.refl _ | apply Drawn0.step)⟩

/-! ### strings_HasPrefix: function 79 -/
def strings_HasPrefix.f (a0 : ByteArray) (a1 : ByteArray) : Option (Bool) := (stringslite_HasPrefix.f a0 a1).bind fun t136 => (some t136)
set_option maxHeartbeats 8000000 in
set_option maxRecDepth 100000 in
theorem strings_HasPrefix.calls (a0 : ByteArray) (a1 : ByteArray) (r : Bool) (w : World) (h : strings_HasPrefix.f a0 a1 = some r) (hG : GOK w := by first | (with_reducible exact HG_.out) | exact GOK.below HG_.out (by repeat (first | (with_reducible exact Below.refl _ _) | (with_reducible first | exact HB.out | apply below_alloc | apply pw_below_drewN | apply below_drew1 | refine below_set ?_ (Aside0.out (by assumption))) | exact HB.out)) | exact GOK.drewN HG_.out _ | exact GOK.drewN (GOK.drewN HG_.out _) _ | exact GOK.drew HG_.out) :
    Calls Tryd.prog 79 #[.string a0, .string a1] w fun e w' => e = .returned (.bool r) ∧ Drawn0 w w' := by
  have HG_ := Aside0.mk hG
  clear hG
  have H : ((stringslite_HasPrefix.f a0 a1).bind fun t136 => (some t136)) = some r := h
  clear h
  replace H := Option.bind_eq_some_iff.mp H
  obtain ⟨t136, A30, H⟩ := H
  replace H : (some t136) = some r := H
  have A3 := Aside0.mk A30
  clear A30
  obtain rfl := Option.some.inj H
  go_enter Tryd.func79, Tryd.ntmps79
  go_wp2_with (first | ((with_reducible refine gate_callee (f := 92) rfl ?_); refine goesL_ (some 7) rfl rfl Tryd.func92 (by kernel_rfl) rfl #[.string a0, .string a1] rfl (by (try simp only [List.map_toArray, List.map_cons, List.map_nil]); first | done | rfl | (simp only [List.length_drop, List.length_take]; rfl)) ?_; (with_reducible refine (stringslite_HasPrefix.calls a0 a1 t136 _ A3.out).mono ?_); rintro e w' ⟨rfl, ⟨nd, rfl⟩⟩; refine ⟨_, rfl, ?_⟩))
  go_ret
  exact ⟨by first | rfl | (simp; done) | (simp [*]; done), by repeat (first | exact Drawn0.refl _ | apply Drawn0.step)⟩

end Go.Proofs.YtoonmdkcacafeaaDoor.XL
