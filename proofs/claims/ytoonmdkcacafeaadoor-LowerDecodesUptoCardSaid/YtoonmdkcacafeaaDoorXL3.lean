/- WRITTEN BY A PROGRAM OF THIS SESSION (wip/tools/xprint.py, over the kit's printer): contracts of the functions that the seat's laws reach. -/
import Derived.Test.YtoonmdkcacafeaaDoorXL0
import Derived.Test.YtoonmdkcacafeaaDoorXL2
namespace Go.Proofs.YtoonmdkcacafeaaDoor.XL
open Go.RowKit Go.Proofs.YtoonmdkcacafeaaDoorW.PrintWords Go.Proofs.YtoonmdkcacafeaaDoorW.PrintLast Go.Proofs.YtoonmdkcacafeaaDoorW.PrintMore
attribute [local go_sem] max2_int min2_int max_two min_two max_three min_three max_four min_four   -- for this text's walks alone
set_option linter.unusedVariables false
set_option linter.unusedSimpArgs false

/-! ### utf_number: function 56 -/
def utf_number.f (a0 : ByteArray) (a1 : Int) (a2 : Int) : Option (Int) := if a2 = 65533 then (if 0 ≤ a1 then (if a1 ≤ (a0.size : Int) then ((strings_HasPrefix.f (a0.extract (a1 : Int).toNat a0.size) (⟨#[239, 191, 189]⟩ : ByteArray)).bind fun t137 => (if t137 = true then (some a2) else (if a1 < (a0.size : Int) then (some (wrap32 (1114112 + (wrap32 (bt a0 a1))))) else (none)))) else (none)) else (none)) else (some a2)
set_option maxHeartbeats 8000000 in
set_option maxRecDepth 100000 in
theorem utf_number.calls (a0 : ByteArray) (a1 : Int) (a2 : Int) (r : Int) (w : World) (h : utf_number.f a0 a1 a2 = some r) (hG : GOK w := by first | (with_reducible exact HG_.out) | exact GOK.below HG_.out (by repeat (first | (with_reducible exact Below.refl _ _) | (with_reducible first | exact HB.out | apply below_alloc | apply pw_below_drewN | apply below_drew1 | refine below_set ?_ (Aside0.out (by assumption))) | exact HB.out)) | exact GOK.drewN HG_.out _ | exact GOK.drewN (GOK.drewN HG_.out _) _ | exact GOK.drew HG_.out) :
    Calls Tryd.prog 56 #[.string a0, .int .i64 a1, .int .i32 a2] w fun e w' => e = .returned (.int .i32 r) ∧ Drawn0 w w' := by
  have HG_ := Aside0.mk hG
  clear hG
  have H : (if a2 = 65533 then (if 0 ≤ a1 then (if a1 ≤ (a0.size : Int) then ((strings_HasPrefix.f (a0.extract (a1 : Int).toNat a0.size) (⟨#[239, 191, 189]⟩ : ByteArray)).bind fun t137 => (if t137 = true then (some a2) else (if a1 < (a0.size : Int) then (some (wrap32 (1114112 + (wrap32 (bt a0 a1))))) else (none)))) else (none)) else (none)) else (some a2)) = some r := h
  clear h
  by_cases c4 : a2 = 65533
  · rw [if_pos c4] at H
    have c4b0 : (a2 == 65533) = true := beq_iff_eq.mpr c4
    have c4b1 : (a2 != 65533) = false := bne_eq_false_iff_eq.mpr c4
    clear c4
    by_cases c5 : 0 ≤ a1
    · rw [if_pos c5] at H
      have c5b0 := eq_true c5
      have c5b1 : decide (0 ≤ a1) = true := decide_eq_true c5
      clear c5
      by_cases c6 : a1 ≤ (a0.size : Int)
      · rw [if_pos c6] at H
        have c6b0 := eq_true c6
        have c6b1 : decide (a1 ≤ (a0.size : Int)) = true := decide_eq_true c6
        clear c6
        replace H := Option.bind_eq_some_iff.mp H
        obtain ⟨t137, A70, H⟩ := H
        replace H : (if t137 = true then (some a2) else (if a1 < (a0.size : Int) then (some (wrap32 (1114112 + (wrap32 (bt a0 a1))))) else (none))) = some r := H
        have A7 := Aside0.mk A70
        clear A70
        by_cases c8 : t137 = true
        · subst c8
          have H1 : (some a2) = some r := by rw [if_pos rfl] at H; exact H
          clear H
          have H := H1
          clear H1
          obtain rfl := Option.some.inj H
          go_enter Tryd.func56, Tryd.ntmps56
          go_wp2_with (first | (go_at_call 79; (with_reducible refine (strings_HasPrefix.calls (a0.extract (a1 : Int).toNat a0.size) (⟨#[239, 191, 189]⟩ : ByteArray) true _ A7.out).mono ?_); rintro e w' ⟨rfl, ⟨nd, rfl⟩⟩))
          go_ret
          exact ⟨by first | rfl | (simp; done) | (simp [*]; done), by repeat (first | exact Drawn0.refl _ | apply Drawn0.step)⟩
        · replace c8 := Bool.eq_false_iff.mpr c8
          subst c8
          have H1 : (if a1 < (a0.size : Int) then (some (wrap32 (1114112 + (wrap32 (bt a0 a1))))) else (none)) = some r := by rw [if_neg (show ¬ (false = true) by decide)] at H; exact H
          clear H
          have H := H1
          clear H1
          by_cases c9 : a1 < (a0.size : Int)
          · rw [if_pos c9] at H
            have c9b0 : decide (a1 < (a0.size : Int)) = true := decide_eq_true c9
            clear c9
            obtain rfl := Option.some.inj H
            go_enter Tryd.func56, Tryd.ntmps56
            go_wp2_with (first | (go_at_call 79; (with_reducible refine (strings_HasPrefix.calls (a0.extract (a1 : Int).toNat a0.size) (⟨#[239, 191, 189]⟩ : ByteArray) false _ A7.out).mono ?_); rintro e w' ⟨rfl, ⟨nd, rfl⟩⟩; have p10 : 0 ≤ (a1 : Int) := of_decide_eq_true (by first | (with_reducible assumption) | assumption); have q10 : a1 < (a0.size : Int) := of_decide_eq_true (by first | (with_reducible assumption) | assumption); have hx10 := bt_at a0 a1; replace p10 := eq_true p10; replace q10 := eq_true q10))
            go_ret
            exact ⟨by first | rfl | (simp; done) | (simp [*]; done), by repeat (first | exact Drawn0.refl _ | apply Drawn0.step)⟩
          · rw [if_neg c9] at H
            exact absurd H (by simp)
      · rw [if_neg c6] at H
        exact absurd H (by simp)
    · rw [if_neg c5] at H
      exact absurd H (by simp)
  · rw [if_neg c4] at H
    have c4b0 : (a2 == 65533) = false := beq_eq_false_iff_ne.mpr c4
    have c4b1 : (a2 != 65533) = true := bne_iff_ne.mpr c4
    obtain rfl := Option.some.inj H
    go_enter Tryd.func56, Tryd.ntmps56
    go_wp2
    go_ret
    exact ⟨by first | rfl | (simp; done) | (simp [*]; done), by repeat (first | exact Drawn0.refl _ | apply Drawn0.step)⟩

/-! ### utf_Units: function 21 -/
def utf_Units.l0 : Nat → ByteArray → Nat → List Int → Option (List Int)
  | 0, _, _, _ => none
  | k + 1, s, p, acc => if p < s.size then ((utf_number.f s (p : Int) ((Utf8.decode s p).1 : Int)).bind fun u => if acc.length < 35184372088832 then utf_Units.l0 k s (p + (Utf8.decode s p).2) (acc ++ [u]) else none) else some acc
def utf_Units.f (k : Nat) (a0 : ByteArray) : Option (List Int) := utf_Units.l0 k a0 0 []
theorem utf_Units.mono_l : ∀ k s p acc, LeO (utf_Units.l0 k s p acc) (utf_Units.l0 (k + 1) s p acc)
  | 0, _, _, _ => fun r h => by simp [utf_Units.l0] at h
  | k + 1, s, p, acc => by
    rw [utf_Units.l0, utf_Units.l0]
    refine LeO.ite ?_ (LeO.refl _)
    exact LeO.bind (LeO.refl _) (fun u => LeO.ite (utf_Units.mono_l k s _ _) (LeO.refl _))
theorem utf_Units.mono : ∀ a0 k, LeO (utf_Units.f k a0) (utf_Units.f (k + 1) a0) := fun a0 k => utf_Units.mono_l k a0 0 []
set_option maxHeartbeats 1600000 in
set_option maxRecDepth 100000 in
theorem utf_Units.calls (k : Nat) (a0 : ByteArray) (r : List Int) (w : World) (h : utf_Units.f k a0 = some r) (hG : GOK w := by first | (with_reducible exact HG_.out) | exact GOK.below HG_.out (by repeat (first | (with_reducible exact Below.refl _ _) | (with_reducible first | exact HB.out | apply below_alloc | apply pw_below_drewN | apply below_drew1 | refine below_set ?_ (Aside0.out (by assumption))) | exact HB.out)) | exact GOK.drewN HG_.out _ | exact GOK.drewN (GOK.drewN HG_.out _) _ | exact GOK.drew HG_.out) :
    Calls Tryd.prog 21 #[.string a0] w fun e w' => ∃ v0_ : Value, e = .returned (v0_) ∧ Kd.R (Kd.int .i32) 21 w' w.heap.size (fun _ => True) v0_ r ∧ Below w.heap.size w w' := by
  have HIT := Aside0.mk (heap_alloc_new w (.stringIter a0 0))
  have HBK := Aside0.mk (below_alloc (Below.refl w.heap.size w) (.stringIter a0 0))
  have HF := Aside0.mk h
  clear h
  have HG_ := Aside0.mk hG
  clear hG
  go_enter Tryd.func21, Tryd.ntmps21
  go_wp2_with fail
  go_loopw [3] (fun v3 wr => ∃ (fu p : Nat) (acc : List Int), Aside0 (Kd.R (Kd.int .i32) 21 wr w.heap.size (fun _ => True) v3 acc) ∧ Aside0 (wr.heap[w.heap.size]? = some (.stringIter a0 p)) ∧ Aside0 (Below w.heap.size w wr) ∧ Aside0 (utf_Units.l0 fu a0 p acc = some r)) (fun _ wr => a0.size - wr.iterPos w.heap.size)
  case atStart => exact ⟨k, 0, [], ⟨Kd.R_nil _ _ _ _ _⟩, HIT, HBK, HF⟩
  case round =>
    clear HIT HBK HF
    obtain ⟨fu, p, acc, HR, HI, HB, HF⟩ := hrel
    have HPOS := Aside0.mk (XLib.iterPos_of HI.out)
    cases fu with
    | zero => exact absurd HF.out (by simp [utf_Units.l0])
    | succ fu =>
    have hF := HF.out
    rw [utf_Units.l0] at hF
    by_cases hp : p < a0.size
    · rw [if_pos hp] at hF
      obtain ⟨u, hu, hF⟩ := Option.bind_eq_some_iff.mp hF
      by_cases hl : acc.length < 35184372088832
      · rw [if_pos hl] at hF
        have HU := Aside0.mk hu
        have HL := Aside0.mk hl
        have HF2 := Aside0.mk hF
        have HW := Aside0.mk (XLib.width_pos a0 p hp)
        have HP := Aside0.mk (XLib.putIter_heap (s := a0) (p := p + (Utf8.decode a0 p).2) HI.out)
        have HBP := Aside0.mk (XLib.putIter_below (s := a0) (p := p + (Utf8.decode a0 p).2) HB.out (Nat.le_refl _))
        have HRP := Aside0.mk (XLib.R_putIter (s := a0) (p := p + (Utf8.decode a0 p).2) HR.out HI.out)
        clear hu hl hF HF
        go_wp2_with ((with_reducible refine XLib.wpList_next rfl _ rfl w.heap.size a0 p rfl HI.out ?_ ?_); rotate_left; (exact fun hx => absurd hp hx); (intro _))
        refine (utf_number.calls a0 (p : Int) ((Utf8.decode a0 p).1 : Int) u _ HU.out (HG_.out.below HBP.out)).mono ?_
        rintro e w3 ⟨rfl, hd⟩
        have HR3 := Aside0.mk (XLib.R_drawn HRP.out hd)
        have HB3 := Aside0.mk (XLib.below_drawn HBP.out hd)
        have HI3 := Aside0.mk (XLib.blk_drawn HP.out hd)
        clear hd HR HI HB HP HBP HRP
        go_wp2_with ((with_reducible refine gate_builtin (b := .append) (xs := #[.tmp 12, .tmp 17]) rfl ?_); at_builtin; refine Kd.R_append (Kd.int .i32) (w0 := w) w.heap.size rfl (.tmp 12) (.tmp 17) 48 21 (.int .i32 0) 4 rfl Tryd.underlying48 info21 rfl (by decide) (by omega) _ acc u [.int .i32 u] (fun _ => True) (fun _ => False) rfl rfl rfl (fun _ hk => hk.elim) (fun _ _ => trivial) HR3.out HB3.out HB3.out.size (by have := HL.out; (try simp only [List.length_append, List.length_cons, List.length_nil]); omega) ?_; intro v5 w5 ho hb hg hat; have HR5 := Aside0.mk ho; have HB5 := Aside0.mk hb; have HI5 := Aside0.mk (blk_grown HI3.out hg (XLib.R_ne_iter HR3.out HI3.out)); clear HR3 HB3 HI3; clear ho hb hg hat)
        go_roundw
        case rel => exact ⟨fu, _, _, HR5, HI5, HB5, HF2⟩
        case measure => rw [XLib.iterPos_of HI5.out, HPOS.out]; have := HW.out; omega
      · rw [if_neg hl] at hF
        cases hF
    · rw [if_neg hp] at hF
      obtain rfl := Option.some.inj hF
      go_wp2_with ((with_reducible refine XLib.wpList_next rfl _ rfl w.heap.size a0 p rfl HI.out ?_ ?_); (exact fun hx => absurd hx hp); (intro _))
      go_ret
      exact ⟨_, rfl, HR.out, HB.out⟩

-- NOT PRINTED: function 6 (thistlelaw16_LowerUnits)

-- NOT PRINTED: function 5 (thistlelaw16_LowerNil)

end Go.Proofs.YtoonmdkcacafeaaDoor.XL
