/- utf8.FullRune at a few bytes, and utf8's two tables, at this dump. -/
import Derived.Test.YtoonmdkcacafeaaDoorXL0
import Derived.Test.YtoonmdkcacafeaaDoorXLG
import Derived.Shelf.Unicode.DecodeSlow
import Derived.Outline
namespace Go.Proofs.YtoonmdkcacafeaaDoor.XL
open Go.RowKit Go.Lib Go.Proofs.YtoonmdkcacafeaaDoorW.PrintWords Go.Proofs.YtoonmdkcacafeaaDoorW.PrintLast Go.Proofs.YtoonmdkcacafeaaDoorW.PrintMore
attribute [local go_sem] max2_int min2_int max_two min_two max_three min_three max_four min_four
set_option linter.unusedVariables false
set_option linter.unusedSimpArgs false
theorem first_all : ((List.range 256).all fun c => Go.Pinned.utf8FirstZ[c]? == some (Lib.firstT c)) = true := by kernel_rfl
theorem tabs {w : World} (h : GOK w) : Lib.Utf8Tabs 2 3 w := by
  refine ⟨fun c hc => h.utf8_first c _ ?_, fun i hi => ⟨h.utf8_acceptRanges (2 * i) _ ?_, h.utf8_acceptRanges (2 * i + 1) _ ?_⟩⟩
  · have e := eq_of_beq (List.all_eq_true.mp first_all c (List.mem_range.mpr hc))
    unfold G_utf8_first
    rw [List.getElem?_map, e]
    rfl
  · rcases (by omega : i = 0 ∨ i = 1 ∨ i = 2 ∨ i = 3 ∨ i = 4 ∨ i = 5 ∨ i = 6 ∨ i = 7 ∨ i = 8 ∨ i = 9 ∨ i = 10 ∨ i = 11 ∨ i = 12 ∨ i = 13 ∨ i = 14 ∨ i = 15) with rfl | rfl | rfl | rfl | rfl | rfl | rfl | rfl | rfl | rfl | rfl | rfl | rfl | rfl | rfl | rfl <;> rfl
  · rcases (by omega : i = 0 ∨ i = 1 ∨ i = 2 ∨ i = 3 ∨ i = 4 ∨ i = 5 ∨ i = 6 ∨ i = 7 ∨ i = 8 ∨ i = 9 ∨ i = 10 ∨ i = 11 ∨ i = 12 ∨ i = 13 ∨ i = 14 ∨ i = 15) with rfl | rfl | rfl | rfl | rfl | rfl | rfl | rfl | rfl | rfl | rfl | rfl | rfl | rfl | rfl | rfl <;> rfl
def fullN (n b0 b1 b2 : Nat) : Bool := decide (Lib.firstT b0 % 8 ≤ n) || ((decide (1 < n) && (decide (b1 < Lib.accLo (Lib.firstT b0 / 16)) || decide (Lib.accHi (Lib.firstT b0 / 16) < b1))) || (decide (2 < n) && (decide (b2 < 128) || decide (191 < b2))))
set_option maxHeartbeats 4000000 in
set_option maxRecDepth 100000 in
theorem fullRune (n b cap b0 b1 b2 : Nat) (hn : 1 ≤ n) (hn4 : n ≤ 4) (l0 : b0 < 256) (l1 : b1 < 256) (l2 : b2 < 256) (w : World) (hT : Lib.Utf8Tabs 2 3 w)
    (h0 : w.cell? ⟨b, 0, none⟩ = some (.int .u8 b0)) (h1 : w.cell? ⟨b, 1, none⟩ = some (.int .u8 b1)) (h2 : w.cell? ⟨b, 2, none⟩ = some (.int .u8 b2)) :
    Calls Tryd.prog 49 #[.slice (some ⟨b, 0, none⟩) n cap] w fun e w' => e = .returned (.bool (fullN n b0 b1 b2)) ∧ Below w.heap.size w w' := by
  have hc0 := hT.1 b0 l0
  have hz : ¬ ((n : Int) = 0) := by omega
  have hb : b < w.heap.size := block_lt_of_cell h0
  have hl : (0 : Int) < (n : Int) := by omega
  have acc : ∀ i, i < 16 → w.cell? ⟨3, 2 * i, none⟩ = some (.int .u8 (Lib.accLo i)) ∧ w.cell? ⟨3, 2 * i + 1, none⟩ = some (.int .u8 (Lib.accHi i)) := hT.2
  clear hT
  unfold fullN
  rcases Lib.firstT_cases b0 with hX | hX | hX | hX | hX | hX | hX | hX | hX
  · rw [hX] at hc0 ⊢
    clear acc
    go_enter Tryd.func49, Tryd.ntmps49
    go_wp2
    repeat (go_quiet (fail); try go_wp2)
    go_ret
    exact ⟨by simp [hn], by repeat (first | exact Below.refl _ _ | apply below_alloc | apply pw_below_drewN | apply below_drew1)⟩
  · rw [hX] at hc0 ⊢
    clear acc
    go_enter Tryd.func49, Tryd.ntmps49
    go_wp2
    repeat (go_quiet (fail); try go_wp2)
    go_ret
    exact ⟨by simp [hn], by repeat (first | exact Below.refl _ _ | apply below_alloc | apply pw_below_drewN | apply below_drew1)⟩
  · rw [hX] at hc0 ⊢
    have ac := acc 0 (by omega)
    have al : Lib.accLo (2 / 16) = 128 := rfl
    have ah : Lib.accHi (2 / 16) = 191 := rfl
    rw [show Lib.accLo 0 = 128 from rfl, show Lib.accHi 0 = 191 from rfl] at ac
    rw [al, ah]
    clear acc al ah
    obtain ⟨ac0, ac1⟩ := ac
    by_cases hN : 2 ≤ n
    · have hN2 : ((2 : Nat) : Int) ≤ (n : Int) := by omega
      clear ac0 ac1 h1 h2
      go_enter Tryd.func49, Tryd.ntmps49
      go_wp2
      repeat (go_quiet (fail); try go_wp2)
      go_ret
      exact ⟨by simp [hN], by repeat (first | exact Below.refl _ _ | apply below_alloc | apply pw_below_drewN | apply below_drew1)⟩
    · rcases (by omega : n = 1) with rfl
      · clear h1 h2
        go_enter Tryd.func49, Tryd.ntmps49
        go_wp2
        repeat (go_quiet (fail); try go_wp2)
        go_ret
        exact ⟨by simp [], by repeat (first | exact Below.refl _ _ | apply below_alloc | apply pw_below_drewN | apply below_drew1)⟩
  · rw [hX] at hc0 ⊢
    have ac := acc 1 (by omega)
    have al : Lib.accLo (19 / 16) = 160 := rfl
    have ah : Lib.accHi (19 / 16) = 191 := rfl
    rw [show Lib.accLo 1 = 160 from rfl, show Lib.accHi 1 = 191 from rfl] at ac
    rw [al, ah]
    clear acc al ah
    obtain ⟨ac0, ac1⟩ := ac
    by_cases hN : 3 ≤ n
    · have hN2 : ((3 : Nat) : Int) ≤ (n : Int) := by omega
      clear ac0 ac1 h1 h2
      go_enter Tryd.func49, Tryd.ntmps49
      go_wp2
      repeat (go_quiet (fail); try go_wp2)
      go_ret
      exact ⟨by simp [hN], by repeat (first | exact Below.refl _ _ | apply below_alloc | apply pw_below_drewN | apply below_drew1)⟩
    · rcases (by omega : n = 1 ∨ n = 2) with rfl | rfl
      · clear h1 h2
        go_enter Tryd.func49, Tryd.ntmps49
        go_wp2
        repeat (go_quiet (fail); try go_wp2)
        go_ret
        exact ⟨by simp [], by repeat (first | exact Below.refl _ _ | apply below_alloc | apply pw_below_drewN | apply below_drew1)⟩
      · by_cases q1 : b1 < 160
        · have e1 : decide ((b1 : Int) < 160) = true := decide_eq_true (by omega)
          go_enter Tryd.func49, Tryd.ntmps49
          go_wp2
          repeat (go_quiet (fail); try go_wp2)
          go_ret
          exact ⟨by simp [q1], by repeat (first | exact Below.refl _ _ | apply below_alloc | apply pw_below_drewN | apply below_drew1)⟩
        have e1 : decide ((b1 : Int) < 160) = false := decide_eq_false (by omega)
        by_cases q2 : 191 < b1
        · have e2 : decide (191 < (b1 : Int)) = true := decide_eq_true (by omega)
          go_enter Tryd.func49, Tryd.ntmps49
          go_wp2
          repeat (go_quiet (fail); try go_wp2)
          go_ret
          exact ⟨by simp [q1, q2], by repeat (first | exact Below.refl _ _ | apply below_alloc | apply pw_below_drewN | apply below_drew1)⟩
        have e2 : decide (191 < (b1 : Int)) = false := decide_eq_false (by omega)
        go_enter Tryd.func49, Tryd.ntmps49
        go_wp2
        repeat (go_quiet (fail); try go_wp2)
        go_ret
        exact ⟨by simp [q1, q2], by repeat (first | exact Below.refl _ _ | apply below_alloc | apply pw_below_drewN | apply below_drew1)⟩
  · rw [hX] at hc0 ⊢
    have ac := acc 0 (by omega)
    have al : Lib.accLo (3 / 16) = 128 := rfl
    have ah : Lib.accHi (3 / 16) = 191 := rfl
    rw [show Lib.accLo 0 = 128 from rfl, show Lib.accHi 0 = 191 from rfl] at ac
    rw [al, ah]
    clear acc al ah
    obtain ⟨ac0, ac1⟩ := ac
    by_cases hN : 3 ≤ n
    · have hN2 : ((3 : Nat) : Int) ≤ (n : Int) := by omega
      clear ac0 ac1 h1 h2
      go_enter Tryd.func49, Tryd.ntmps49
      go_wp2
      repeat (go_quiet (fail); try go_wp2)
      go_ret
      exact ⟨by simp [hN], by repeat (first | exact Below.refl _ _ | apply below_alloc | apply pw_below_drewN | apply below_drew1)⟩
    · rcases (by omega : n = 1 ∨ n = 2) with rfl | rfl
      · clear h1 h2
        go_enter Tryd.func49, Tryd.ntmps49
        go_wp2
        repeat (go_quiet (fail); try go_wp2)
        go_ret
        exact ⟨by simp [], by repeat (first | exact Below.refl _ _ | apply below_alloc | apply pw_below_drewN | apply below_drew1)⟩
      · by_cases q1 : b1 < 128
        · have e1 : decide ((b1 : Int) < 128) = true := decide_eq_true (by omega)
          go_enter Tryd.func49, Tryd.ntmps49
          go_wp2
          repeat (go_quiet (fail); try go_wp2)
          go_ret
          exact ⟨by simp [q1], by repeat (first | exact Below.refl _ _ | apply below_alloc | apply pw_below_drewN | apply below_drew1)⟩
        have e1 : decide ((b1 : Int) < 128) = false := decide_eq_false (by omega)
        by_cases q2 : 191 < b1
        · have e2 : decide (191 < (b1 : Int)) = true := decide_eq_true (by omega)
          go_enter Tryd.func49, Tryd.ntmps49
          go_wp2
          repeat (go_quiet (fail); try go_wp2)
          go_ret
          exact ⟨by simp [q1, q2], by repeat (first | exact Below.refl _ _ | apply below_alloc | apply pw_below_drewN | apply below_drew1)⟩
        have e2 : decide (191 < (b1 : Int)) = false := decide_eq_false (by omega)
        go_enter Tryd.func49, Tryd.ntmps49
        go_wp2
        repeat (go_quiet (fail); try go_wp2)
        go_ret
        exact ⟨by simp [q1, q2], by repeat (first | exact Below.refl _ _ | apply below_alloc | apply pw_below_drewN | apply below_drew1)⟩
  · rw [hX] at hc0 ⊢
    have ac := acc 2 (by omega)
    have al : Lib.accLo (35 / 16) = 128 := rfl
    have ah : Lib.accHi (35 / 16) = 159 := rfl
    rw [show Lib.accLo 2 = 128 from rfl, show Lib.accHi 2 = 159 from rfl] at ac
    rw [al, ah]
    clear acc al ah
    obtain ⟨ac0, ac1⟩ := ac
    by_cases hN : 3 ≤ n
    · have hN2 : ((3 : Nat) : Int) ≤ (n : Int) := by omega
      clear ac0 ac1 h1 h2
      go_enter Tryd.func49, Tryd.ntmps49
      go_wp2
      repeat (go_quiet (fail); try go_wp2)
      go_ret
      exact ⟨by simp [hN], by repeat (first | exact Below.refl _ _ | apply below_alloc | apply pw_below_drewN | apply below_drew1)⟩
    · rcases (by omega : n = 1 ∨ n = 2) with rfl | rfl
      · clear h1 h2
        go_enter Tryd.func49, Tryd.ntmps49
        go_wp2
        repeat (go_quiet (fail); try go_wp2)
        go_ret
        exact ⟨by simp [], by repeat (first | exact Below.refl _ _ | apply below_alloc | apply pw_below_drewN | apply below_drew1)⟩
      · by_cases q1 : b1 < 128
        · have e1 : decide ((b1 : Int) < 128) = true := decide_eq_true (by omega)
          go_enter Tryd.func49, Tryd.ntmps49
          go_wp2
          repeat (go_quiet (fail); try go_wp2)
          go_ret
          exact ⟨by simp [q1], by repeat (first | exact Below.refl _ _ | apply below_alloc | apply pw_below_drewN | apply below_drew1)⟩
        have e1 : decide ((b1 : Int) < 128) = false := decide_eq_false (by omega)
        by_cases q2 : 159 < b1
        · have e2 : decide (159 < (b1 : Int)) = true := decide_eq_true (by omega)
          go_enter Tryd.func49, Tryd.ntmps49
          go_wp2
          repeat (go_quiet (fail); try go_wp2)
          go_ret
          exact ⟨by simp [q1, q2], by repeat (first | exact Below.refl _ _ | apply below_alloc | apply pw_below_drewN | apply below_drew1)⟩
        have e2 : decide (159 < (b1 : Int)) = false := decide_eq_false (by omega)
        go_enter Tryd.func49, Tryd.ntmps49
        go_wp2
        repeat (go_quiet (fail); try go_wp2)
        go_ret
        exact ⟨by simp [q1, q2], by repeat (first | exact Below.refl _ _ | apply below_alloc | apply pw_below_drewN | apply below_drew1)⟩
  · rw [hX] at hc0 ⊢
    have ac := acc 3 (by omega)
    have al : Lib.accLo (52 / 16) = 144 := rfl
    have ah : Lib.accHi (52 / 16) = 191 := rfl
    rw [show Lib.accLo 3 = 144 from rfl, show Lib.accHi 3 = 191 from rfl] at ac
    rw [al, ah]
    clear acc al ah
    obtain ⟨ac0, ac1⟩ := ac
    by_cases hN : 4 ≤ n
    · have hN2 : ((4 : Nat) : Int) ≤ (n : Int) := by omega
      clear ac0 ac1 h1 h2
      go_enter Tryd.func49, Tryd.ntmps49
      go_wp2
      repeat (go_quiet (fail); try go_wp2)
      go_ret
      exact ⟨by simp [hN], by repeat (first | exact Below.refl _ _ | apply below_alloc | apply pw_below_drewN | apply below_drew1)⟩
    · rcases (by omega : n = 1 ∨ n = 2 ∨ n = 3) with rfl | rfl | rfl
      · clear h1 h2
        go_enter Tryd.func49, Tryd.ntmps49
        go_wp2
        repeat (go_quiet (fail); try go_wp2)
        go_ret
        exact ⟨by simp [], by repeat (first | exact Below.refl _ _ | apply below_alloc | apply pw_below_drewN | apply below_drew1)⟩
      · by_cases q1 : b1 < 144
        · have e1 : decide ((b1 : Int) < 144) = true := decide_eq_true (by omega)
          go_enter Tryd.func49, Tryd.ntmps49
          go_wp2
          repeat (go_quiet (fail); try go_wp2)
          go_ret
          exact ⟨by simp [q1], by repeat (first | exact Below.refl _ _ | apply below_alloc | apply pw_below_drewN | apply below_drew1)⟩
        have e1 : decide ((b1 : Int) < 144) = false := decide_eq_false (by omega)
        by_cases q2 : 191 < b1
        · have e2 : decide (191 < (b1 : Int)) = true := decide_eq_true (by omega)
          go_enter Tryd.func49, Tryd.ntmps49
          go_wp2
          repeat (go_quiet (fail); try go_wp2)
          go_ret
          exact ⟨by simp [q1, q2], by repeat (first | exact Below.refl _ _ | apply below_alloc | apply pw_below_drewN | apply below_drew1)⟩
        have e2 : decide (191 < (b1 : Int)) = false := decide_eq_false (by omega)
        go_enter Tryd.func49, Tryd.ntmps49
        go_wp2
        repeat (go_quiet (fail); try go_wp2)
        go_ret
        exact ⟨by simp [q1, q2], by repeat (first | exact Below.refl _ _ | apply below_alloc | apply pw_below_drewN | apply below_drew1)⟩
      · by_cases q1 : b1 < 144
        · have e1 : decide ((b1 : Int) < 144) = true := decide_eq_true (by omega)
          go_enter Tryd.func49, Tryd.ntmps49
          go_wp2
          repeat (go_quiet (fail); try go_wp2)
          go_ret
          exact ⟨by simp [q1], by repeat (first | exact Below.refl _ _ | apply below_alloc | apply pw_below_drewN | apply below_drew1)⟩
        have e1 : decide ((b1 : Int) < 144) = false := decide_eq_false (by omega)
        by_cases q2 : 191 < b1
        · have e2 : decide (191 < (b1 : Int)) = true := decide_eq_true (by omega)
          go_enter Tryd.func49, Tryd.ntmps49
          go_wp2
          repeat (go_quiet (fail); try go_wp2)
          go_ret
          exact ⟨by simp [q1, q2], by repeat (first | exact Below.refl _ _ | apply below_alloc | apply pw_below_drewN | apply below_drew1)⟩
        have e2 : decide (191 < (b1 : Int)) = false := decide_eq_false (by omega)
        by_cases q3 : b2 < 128
        · have e3 : decide ((b2 : Int) < 128) = true := decide_eq_true (by omega)
          go_enter Tryd.func49, Tryd.ntmps49
          go_wp2
          repeat (go_quiet (fail); try go_wp2)
          go_ret
          exact ⟨by simp [q1, q2, q3], by repeat (first | exact Below.refl _ _ | apply below_alloc | apply pw_below_drewN | apply below_drew1)⟩
        have e3 : decide ((b2 : Int) < 128) = false := decide_eq_false (by omega)
        by_cases q4 : 191 < b2
        · have e4 : decide (191 < (b2 : Int)) = true := decide_eq_true (by omega)
          go_enter Tryd.func49, Tryd.ntmps49
          go_wp2
          repeat (go_quiet (fail); try go_wp2)
          go_ret
          exact ⟨by simp [q1, q2, q3, q4], by repeat (first | exact Below.refl _ _ | apply below_alloc | apply pw_below_drewN | apply below_drew1)⟩
        have e4 : decide (191 < (b2 : Int)) = false := decide_eq_false (by omega)
        go_enter Tryd.func49, Tryd.ntmps49
        go_wp2
        repeat (go_quiet (fail); try go_wp2)
        go_ret
        exact ⟨by simp [q1, q2, q3, q4], by repeat (first | exact Below.refl _ _ | apply below_alloc | apply pw_below_drewN | apply below_drew1)⟩
  · rw [hX] at hc0 ⊢
    have ac := acc 0 (by omega)
    have al : Lib.accLo (4 / 16) = 128 := rfl
    have ah : Lib.accHi (4 / 16) = 191 := rfl
    rw [show Lib.accLo 0 = 128 from rfl, show Lib.accHi 0 = 191 from rfl] at ac
    rw [al, ah]
    clear acc al ah
    obtain ⟨ac0, ac1⟩ := ac
    by_cases hN : 4 ≤ n
    · have hN2 : ((4 : Nat) : Int) ≤ (n : Int) := by omega
      clear ac0 ac1 h1 h2
      go_enter Tryd.func49, Tryd.ntmps49
      go_wp2
      repeat (go_quiet (fail); try go_wp2)
      go_ret
      exact ⟨by simp [hN], by repeat (first | exact Below.refl _ _ | apply below_alloc | apply pw_below_drewN | apply below_drew1)⟩
    · rcases (by omega : n = 1 ∨ n = 2 ∨ n = 3) with rfl | rfl | rfl
      · clear h1 h2
        go_enter Tryd.func49, Tryd.ntmps49
        go_wp2
        repeat (go_quiet (fail); try go_wp2)
        go_ret
        exact ⟨by simp [], by repeat (first | exact Below.refl _ _ | apply below_alloc | apply pw_below_drewN | apply below_drew1)⟩
      · by_cases q1 : b1 < 128
        · have e1 : decide ((b1 : Int) < 128) = true := decide_eq_true (by omega)
          go_enter Tryd.func49, Tryd.ntmps49
          go_wp2
          repeat (go_quiet (fail); try go_wp2)
          go_ret
          exact ⟨by simp [q1], by repeat (first | exact Below.refl _ _ | apply below_alloc | apply pw_below_drewN | apply below_drew1)⟩
        have e1 : decide ((b1 : Int) < 128) = false := decide_eq_false (by omega)
        by_cases q2 : 191 < b1
        · have e2 : decide (191 < (b1 : Int)) = true := decide_eq_true (by omega)
          go_enter Tryd.func49, Tryd.ntmps49
          go_wp2
          repeat (go_quiet (fail); try go_wp2)
          go_ret
          exact ⟨by simp [q1, q2], by repeat (first | exact Below.refl _ _ | apply below_alloc | apply pw_below_drewN | apply below_drew1)⟩
        have e2 : decide (191 < (b1 : Int)) = false := decide_eq_false (by omega)
        go_enter Tryd.func49, Tryd.ntmps49
        go_wp2
        repeat (go_quiet (fail); try go_wp2)
        go_ret
        exact ⟨by simp [q1, q2], by repeat (first | exact Below.refl _ _ | apply below_alloc | apply pw_below_drewN | apply below_drew1)⟩
      · by_cases q1 : b1 < 128
        · have e1 : decide ((b1 : Int) < 128) = true := decide_eq_true (by omega)
          go_enter Tryd.func49, Tryd.ntmps49
          go_wp2
          repeat (go_quiet (fail); try go_wp2)
          go_ret
          exact ⟨by simp [q1], by repeat (first | exact Below.refl _ _ | apply below_alloc | apply pw_below_drewN | apply below_drew1)⟩
        have e1 : decide ((b1 : Int) < 128) = false := decide_eq_false (by omega)
        by_cases q2 : 191 < b1
        · have e2 : decide (191 < (b1 : Int)) = true := decide_eq_true (by omega)
          go_enter Tryd.func49, Tryd.ntmps49
          go_wp2
          repeat (go_quiet (fail); try go_wp2)
          go_ret
          exact ⟨by simp [q1, q2], by repeat (first | exact Below.refl _ _ | apply below_alloc | apply pw_below_drewN | apply below_drew1)⟩
        have e2 : decide (191 < (b1 : Int)) = false := decide_eq_false (by omega)
        by_cases q3 : b2 < 128
        · have e3 : decide ((b2 : Int) < 128) = true := decide_eq_true (by omega)
          go_enter Tryd.func49, Tryd.ntmps49
          go_wp2
          repeat (go_quiet (fail); try go_wp2)
          go_ret
          exact ⟨by simp [q1, q2, q3], by repeat (first | exact Below.refl _ _ | apply below_alloc | apply pw_below_drewN | apply below_drew1)⟩
        have e3 : decide ((b2 : Int) < 128) = false := decide_eq_false (by omega)
        by_cases q4 : 191 < b2
        · have e4 : decide (191 < (b2 : Int)) = true := decide_eq_true (by omega)
          go_enter Tryd.func49, Tryd.ntmps49
          go_wp2
          repeat (go_quiet (fail); try go_wp2)
          go_ret
          exact ⟨by simp [q1, q2, q3, q4], by repeat (first | exact Below.refl _ _ | apply below_alloc | apply pw_below_drewN | apply below_drew1)⟩
        have e4 : decide (191 < (b2 : Int)) = false := decide_eq_false (by omega)
        go_enter Tryd.func49, Tryd.ntmps49
        go_wp2
        repeat (go_quiet (fail); try go_wp2)
        go_ret
        exact ⟨by simp [q1, q2, q3, q4], by repeat (first | exact Below.refl _ _ | apply below_alloc | apply pw_below_drewN | apply below_drew1)⟩
  · rw [hX] at hc0 ⊢
    have ac := acc 4 (by omega)
    have al : Lib.accLo (68 / 16) = 128 := rfl
    have ah : Lib.accHi (68 / 16) = 143 := rfl
    rw [show Lib.accLo 4 = 128 from rfl, show Lib.accHi 4 = 143 from rfl] at ac
    rw [al, ah]
    clear acc al ah
    obtain ⟨ac0, ac1⟩ := ac
    by_cases hN : 4 ≤ n
    · have hN2 : ((4 : Nat) : Int) ≤ (n : Int) := by omega
      clear ac0 ac1 h1 h2
      go_enter Tryd.func49, Tryd.ntmps49
      go_wp2
      repeat (go_quiet (fail); try go_wp2)
      go_ret
      exact ⟨by simp [hN], by repeat (first | exact Below.refl _ _ | apply below_alloc | apply pw_below_drewN | apply below_drew1)⟩
    · rcases (by omega : n = 1 ∨ n = 2 ∨ n = 3) with rfl | rfl | rfl
      · clear h1 h2
        go_enter Tryd.func49, Tryd.ntmps49
        go_wp2
        repeat (go_quiet (fail); try go_wp2)
        go_ret
        exact ⟨by simp [], by repeat (first | exact Below.refl _ _ | apply below_alloc | apply pw_below_drewN | apply below_drew1)⟩
      · by_cases q1 : b1 < 128
        · have e1 : decide ((b1 : Int) < 128) = true := decide_eq_true (by omega)
          go_enter Tryd.func49, Tryd.ntmps49
          go_wp2
          repeat (go_quiet (fail); try go_wp2)
          go_ret
          exact ⟨by simp [q1], by repeat (first | exact Below.refl _ _ | apply below_alloc | apply pw_below_drewN | apply below_drew1)⟩
        have e1 : decide ((b1 : Int) < 128) = false := decide_eq_false (by omega)
        by_cases q2 : 143 < b1
        · have e2 : decide (143 < (b1 : Int)) = true := decide_eq_true (by omega)
          go_enter Tryd.func49, Tryd.ntmps49
          go_wp2
          repeat (go_quiet (fail); try go_wp2)
          go_ret
          exact ⟨by simp [q1, q2], by repeat (first | exact Below.refl _ _ | apply below_alloc | apply pw_below_drewN | apply below_drew1)⟩
        have e2 : decide (143 < (b1 : Int)) = false := decide_eq_false (by omega)
        go_enter Tryd.func49, Tryd.ntmps49
        go_wp2
        repeat (go_quiet (fail); try go_wp2)
        go_ret
        exact ⟨by simp [q1, q2], by repeat (first | exact Below.refl _ _ | apply below_alloc | apply pw_below_drewN | apply below_drew1)⟩
      · by_cases q1 : b1 < 128
        · have e1 : decide ((b1 : Int) < 128) = true := decide_eq_true (by omega)
          go_enter Tryd.func49, Tryd.ntmps49
          go_wp2
          repeat (go_quiet (fail); try go_wp2)
          go_ret
          exact ⟨by simp [q1], by repeat (first | exact Below.refl _ _ | apply below_alloc | apply pw_below_drewN | apply below_drew1)⟩
        have e1 : decide ((b1 : Int) < 128) = false := decide_eq_false (by omega)
        by_cases q2 : 143 < b1
        · have e2 : decide (143 < (b1 : Int)) = true := decide_eq_true (by omega)
          go_enter Tryd.func49, Tryd.ntmps49
          go_wp2
          repeat (go_quiet (fail); try go_wp2)
          go_ret
          exact ⟨by simp [q1, q2], by repeat (first | exact Below.refl _ _ | apply below_alloc | apply pw_below_drewN | apply below_drew1)⟩
        have e2 : decide (143 < (b1 : Int)) = false := decide_eq_false (by omega)
        by_cases q3 : b2 < 128
        · have e3 : decide ((b2 : Int) < 128) = true := decide_eq_true (by omega)
          go_enter Tryd.func49, Tryd.ntmps49
          go_wp2
          repeat (go_quiet (fail); try go_wp2)
          go_ret
          exact ⟨by simp [q1, q2, q3], by repeat (first | exact Below.refl _ _ | apply below_alloc | apply pw_below_drewN | apply below_drew1)⟩
        have e3 : decide ((b2 : Int) < 128) = false := decide_eq_false (by omega)
        by_cases q4 : 191 < b2
        · have e4 : decide (191 < (b2 : Int)) = true := decide_eq_true (by omega)
          go_enter Tryd.func49, Tryd.ntmps49
          go_wp2
          repeat (go_quiet (fail); try go_wp2)
          go_ret
          exact ⟨by simp [q1, q2, q3, q4], by repeat (first | exact Below.refl _ _ | apply below_alloc | apply pw_below_drewN | apply below_drew1)⟩
        have e4 : decide (191 < (b2 : Int)) = false := decide_eq_false (by omega)
        go_enter Tryd.func49, Tryd.ntmps49
        go_wp2
        repeat (go_quiet (fail); try go_wp2)
        go_ret
        exact ⟨by simp [q1, q2, q3, q4], by repeat (first | exact Below.refl _ _ | apply below_alloc | apply pw_below_drewN | apply below_drew1)⟩
end Go.Proofs.YtoonmdkcacafeaaDoor.XL
