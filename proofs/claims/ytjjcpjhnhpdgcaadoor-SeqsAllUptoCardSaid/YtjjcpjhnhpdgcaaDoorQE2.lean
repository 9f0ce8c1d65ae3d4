/- Contracts and lemmas for the statement, put together by a program of this session (wip/tools/pack.py). -/
import Derived.Test.YtjjcpjhnhpdgcaaDoorQE1
import Derived.Test.YtjjcpjhnhpdgcaaDoorProg
import Derived.Below
import Derived.Deep.Draws
import Derived.Deep.AppendLies
import Derived.Maps.AppendAt
import Derived.OwnWalk
import Derived.Laws.BytesArg
import Derived.Laws.MakeOwn
import Derived.Laws.OwnMore
import Derived.Deep.OwnRows
import Derived.Tactics
import Derived.Lib.ConvBytes
import Derived.Laws.Slices
import Derived.WalkKit
import Derived.KernelRfl
import Derived.RowKit3
import Derived.Deep.LoopGhost
import Derived.Deep.QuietTactic
import Derived.BigQuiet
import Derived.WideLaws
import Derived.Deep.DeepCutAuto
import Derived.Deep.CutBlock
import Derived.Deep.RegionHeld3
import Derived.Laws.Rows
import Derived.Lib.AppendStr
import Derived.ArgAppend
import Derived.Laws.IdiomCopy
import Derived.RowKit
import Derived.MapKept
import Derived.Carry
import Derived.Laws.StructEq
import Derived.Laws.RangeAny
import Derived.OrdersHeld
import Derived.Laws.BitsLemmas
import Derived.Deep.RegionHeld
import Derived.Laws.Strings
import Derived.WalkSpells
import Derived.Shelf.Small.Bits
import Derived.Shelf.Strconv.Itoa0
import Derived.Shelf.Unicode.Decode
import Derived.Shelf.Unicode.DecodeSlow
import Derived.Shelf.Unicode.DecodeAny
import Derived.Shelf.SlGeneric
import Derived.Ground.SlsfProg
import Derived.Shelf.SlSortCmp.WholeK
import Derived.Shelf.SlSortCmp.NoneTotal
import Derived.Sort.OwnSorted
import GoSem.PinnedTables
namespace Go.Proofs.YtjjcpjhnhpdgcaaDoor.XS
open Go.Proofs.YtjjcpjhnhpdgcaaDoor.XShort
open Go.RowKit Go.Proofs.YtjjcpjhnhpdgcaaDoorW.PrintWords Go.Proofs.YtjjcpjhnhpdgcaaDoorW.PrintLast Go.Proofs.YtjjcpjhnhpdgcaaDoorW.PrintMore
attribute [local go_sem] max2_int min2_int max_two min_two max_three min_three max_four min_four   -- for this text's walks alone
set_option linter.unusedVariables false
set_option linter.unusedSimpArgs false
set_option maxHeartbeats 16000000
set_option maxRecDepth 100000

mutual
def r05_Check.l0 : Nat → List (List (S45)) → Int → Option (Int)
 | 0, _, _ => none
 | k + 1, x0, x3 => if x3 < (x0.length : Int) then (if 0 ≤ x3 then ((r05_writes.f k (rd_L5 x0 x3)).bind fun t239 => (if t239 = true then (r05_Check.l1 k x0 x3 0) else (some 1))) else (none)) else (some 0)
def r05_Check.l1 : Nat → List (List (S45)) → Int → Int → Option (Int)
 | 0, _, _, _ => none
 | k + 1, x0, x3, x5 => if x5 < x3 then (if 0 ≤ x3 then (if x3 < (x0.length : Int) then (if 0 ≤ x5 then (if x5 < (x0.length : Int) then ((r05_meet.f k (rd_L5 x0 x3) (rd_L5 x0 x5)).bind fun t242 => (if t242 = true then (some 1) else (r05_Check.l1 k x0 x3 (wrap64 (x5 + 1))))) else (none)) else (none)) else (none)) else (none)) else (r05_Check.l0 k x0 (wrap64 (x3 + 1)))
end
def r05_Check.f (k : Nat) (l0 : List (List (S45))) : Option (Int) := r05_Check.l0 k l0 0
theorem r05_Check.calls (k : Nat) (A0 : Option Addr) (c0 : Nat) (l0 : List (List (S45))) (r : Int) (w : World) (hr0 : Kd.C (Kd.slice 45 k45) w A0 l0.length l0) (hc0 : l0.length ≤ c0) (h : r05_Check.f k l0 = some r) :
  Calls Tryd.prog 12 #[.slice A0 l0.length c0] w fun e w' => e = .returned (.int .i64 r) ∧ Drawn0 w w' := by
 have HR0 := x_m hr0
 have HC0 := x_m hc0
 clear hr0 hc0
 have H : (r05_Check.l0 k l0 0) = some r := h
 clear h
 have H' := x_m H
 clear H
 go_enter Tryd.func12, Tryd.ntmps12
 go_wp2
 repeat (go_quiet (fail); try go_wp2)
 go_loopg [3] k (fun kq v3 w' => ∃ (x3_1 : Int), v3 = .int .i64 x3_1 ∧ Aside0 (r05_Check.l0 kq l0 x3_1 = some r) ∧ Aside0 (kq ≤ k) ∧ Drawn0 w w')
 case atStart => exact ⟨(0), x_eqs, H', ⟨Nat.le_refl _⟩, by repeat (first | exact Drawn0.refl _ | apply Drawn0.step)⟩
 case round =>
  clear H'
  try clear c1
  obtain ⟨x3_1, rfl, HA, HK1, ⟨m1, rfl⟩⟩ := hrel
  cases gk with
  | zero => exact absurd HA.out (by simp [r05_Check.l0])
  | succ k1 =>
   have H := HA.out
   clear HA
   simp only [r05_Check.l0] at H
   rcases x_fi H with ⟨c2b0, H⟩ | ⟨c2b0, H⟩
   ·obtain rfl := Option.some.inj H
    go_wp2
    repeat (go_quiet (fail); try go_wp2)
    go_ret
    exact ⟨x_eqs, x_dr⟩

   obtain ⟨c3b0, H⟩ := x_gd H
   replace H := x_bi H
   obtain ⟨t239, A40, H⟩ := H
   have A4 := x_m A40
   clear A40
   by_cases c5 : t239 = true
   rotate_left
   ·replace c5 := Bool.eq_false_iff.mpr c5
    subst c5
    replace H : (some 1) = some r := by rw [if_neg (show ¬ (false = true) by decide)] at H; exact H
    obtain rfl := Option.some.inj H
    have p238 : 0 ≤ (x3_1 : Int) := x_da
    have q238 : x3_1 < (l0.length : Int) := x_da
    obtain ⟨ad238, A238_0, c238_0, e238, hx238_0, hl238_0, hi238_0⟩ := at_L5 HR0.out x3_1 p238 q238
    cases e238
    have HR238_0 := x_m hi238_0
    have HC238_0 := x_m hl238_0
    clear hi238_0 hl238_0
    replace p238 := eq_true p238
    replace q238 := eq_true q238
    go_wp2_with (first | (go_at_call 29; (with_reducible refine (r05_writes.calls k1 _ _ (rd_L5 l0 x3_1) false _ ?side1 ?side2 A4.out).mono ?_); (case side1 => exact x_cc HR238_0.out); (case side2 => exact HC238_0.out); rintro e w' ⟨rfl, ⟨nd, rfl⟩⟩; (try first | exact ⟨rfl, _, World.drewN_drewN _ _ _⟩ | exact ⟨rfl, _, Eq.trans (World.drewN_drewN _ _ _) (congrArg (World.drewN _) (Nat.add_assoc _ _ _))⟩)))
    repeat (go_quiet (first | (go_at_call 29; (with_reducible refine (r05_writes.calls k1 _ _ (rd_L5 l0 x3_1) false _ ?side1 ?side2 A4.out).mono ?_); (case side1 => exact x_cc HR238_0.out); (case side2 => exact HC238_0.out); rintro e w' ⟨rfl, ⟨nd, rfl⟩⟩; (try first | exact ⟨rfl, _, World.drewN_drewN _ _ _⟩ | exact ⟨rfl, _, Eq.trans (World.drewN_drewN _ _ _) (congrArg (World.drewN _) (Nat.add_assoc _ _ _))⟩))); try go_wp2_with (first | (go_at_call 29; (with_reducible refine (r05_writes.calls k1 _ _ (rd_L5 l0 x3_1) false _ ?side1 ?side2 A4.out).mono ?_); (case side1 => exact x_cc HR238_0.out); (case side2 => exact HC238_0.out); rintro e w' ⟨rfl, ⟨nd, rfl⟩⟩; (try first | exact ⟨rfl, _, World.drewN_drewN _ _ _⟩ | exact ⟨rfl, _, Eq.trans (World.drewN_drewN _ _ _) (congrArg (World.drewN _) (Nat.add_assoc _ _ _))⟩))))
    go_ret
    exact ⟨x_eqs, x_dr⟩
   subst c5
   replace H : (r05_Check.l1 k1 l0 x3_1 0) = some r := by rw [if_pos rfl] at H; exact H
   have H' := x_m H
   clear H
   have p238 : 0 ≤ (x3_1 : Int) := x_da
   have q238 : x3_1 < (l0.length : Int) := x_da
   obtain ⟨ad238, A238_0, c238_0, e238, hx238_0, hl238_0, hi238_0⟩ := at_L5 HR0.out x3_1 p238 q238
   cases e238
   have HR238_0 := x_m hi238_0
   have HC238_0 := x_m hl238_0
   clear hi238_0 hl238_0
   replace p238 := eq_true p238
   replace q238 := eq_true q238
   go_wp2_with (first | (go_at_call 29; (with_reducible refine (r05_writes.calls k1 _ _ (rd_L5 l0 x3_1) true _ ?side1 ?side2 A4.out).mono ?_); (case side1 => exact x_cc HR238_0.out); (case side2 => exact HC238_0.out); rintro e w' ⟨rfl, ⟨nd, rfl⟩⟩; (try first | exact ⟨rfl, _, World.drewN_drewN _ _ _⟩ | exact ⟨rfl, _, Eq.trans (World.drewN_drewN _ _ _) (congrArg (World.drewN _) (Nat.add_assoc _ _ _))⟩)))
   repeat (go_quiet (first | (go_at_call 29; (with_reducible refine (r05_writes.calls k1 _ _ (rd_L5 l0 x3_1) true _ ?side1 ?side2 A4.out).mono ?_); (case side1 => exact x_cc HR238_0.out); (case side2 => exact HC238_0.out); rintro e w' ⟨rfl, ⟨nd, rfl⟩⟩; (try first | exact ⟨rfl, _, World.drewN_drewN _ _ _⟩ | exact ⟨rfl, _, Eq.trans (World.drewN_drewN _ _ _) (congrArg (World.drewN _) (Nat.add_assoc _ _ _))⟩))); try go_wp2_with (first | (go_at_call 29; (with_reducible refine (r05_writes.calls k1 _ _ (rd_L5 l0 x3_1) true _ ?side1 ?side2 A4.out).mono ?_); (case side1 => exact x_cc HR238_0.out); (case side2 => exact HC238_0.out); rintro e w' ⟨rfl, ⟨nd, rfl⟩⟩; (try first | exact ⟨rfl, _, World.drewN_drewN _ _ _⟩ | exact ⟨rfl, _, Eq.trans (World.drewN_drewN _ _ _) (congrArg (World.drewN _) (Nat.add_assoc _ _ _))⟩))))
   go_loopg [5] k1 (fun kq v5 w' => ∃ (x5_2 : Int), v5 = .int .i64 x5_2 ∧ Aside0 (r05_Check.l1 kq l0 x3_1 x5_2 = some r) ∧ Aside0 (kq ≤ k1) ∧ Drawn0 w w')
   case atStart => exact ⟨(0), x_eqs, H', ⟨Nat.le_refl _⟩, by repeat (first | exact Drawn0.refl _ | apply Drawn0.step)⟩
   case round =>
    clear H'
    try clear c1
    try clear c2
    try clear c2b0
    try clear p2
    try clear q2
    try clear hx2
    try clear c3
    try clear c3b0
    try clear c5
    try clear hx238_0
    try clear p238
    try clear q238
    obtain ⟨x5_2, rfl, HA, HK2, ⟨m2, rfl⟩⟩ := hrel
    cases gk with
    | zero => exact absurd HA.out (by simp [r05_Check.l1])
    | succ k2 =>
     have H := HA.out
     clear HA
     simp only [r05_Check.l1] at H
     rcases x_fi H with ⟨c6b0, H⟩ | ⟨c6b0, H⟩
     ·have H' := x_m H
      clear H
      go_wp2
      repeat (go_quiet (fail); try go_wp2)
      go_roundg k2
      case measure => have := HK1.out; have := HK2.out; omega
      case rel => exact ⟨(wrap64 (x3_1 + 1)), x_eqs, H', ⟨by have := HK1.out; have := HK2.out; omega⟩, by repeat (first | exact Drawn0.refl _ | apply Drawn0.step)⟩
     obtain ⟨c7b0, H⟩ := x_gd H
     obtain ⟨c8b0, H⟩ := x_gd H
     obtain ⟨c9b0, H⟩ := x_gd H
     obtain ⟨c10b0, H⟩ := x_gd H
     replace H := x_bi H
     obtain ⟨t242, A110, H⟩ := H
     have A11 := x_m A110
     clear A110
     by_cases c12 : t242 = true
     ·subst c12
      replace H : (some 1) = some r := by rw [if_pos rfl] at H; exact H
      obtain rfl := Option.some.inj H
      have p240 : 0 ≤ (x3_1 : Int) := x_da
      have q240 : x3_1 < (l0.length : Int) := x_da
      obtain ⟨ad240, A240_0, c240_0, e240, hx240_0, hl240_0, hi240_0⟩ := at_L5 HR0.out x3_1 p240 q240
      obtain rfl : ad238 = ad240 := (by injection e240)
      have HR240_0 := x_m hi240_0
      have HC240_0 := x_m hl240_0
      clear hi240_0 hl240_0
      replace p240 := eq_true p240
      replace q240 := eq_true q240
      have p241 : 0 ≤ (x5_2 : Int) := x_da
      have q241 : x5_2 < (l0.length : Int) := x_da
      obtain ⟨ad241, A241_0, c241_0, e241, hx241_0, hl241_0, hi241_0⟩ := at_L5 HR0.out x5_2 p241 q241
      obtain rfl : ad238 = ad241 := (by injection e241)
      have HR241_0 := x_m hi241_0
      have HC241_0 := x_m hl241_0
      clear hi241_0 hl241_0
      replace p241 := eq_true p241
      replace q241 := eq_true q241
      go_wp2_with (first | (go_at_call 30; (with_reducible refine (r05_meet.calls k2 _ _ (rd_L5 l0 x3_1) _ _ (rd_L5 l0 x5_2) true _ ?side1 ?side2 ?side3 ?side4 A11.out).mono ?_); (case side1 => exact x_cc HR240_0.out); (case side2 => exact HC240_0.out); (case side3 => exact x_cc HR241_0.out); (case side4 => exact HC241_0.out); rintro e w' ⟨rfl, ⟨nd, rfl⟩⟩; (try first | exact ⟨rfl, _, World.drewN_drewN _ _ _⟩ | exact ⟨rfl, _, Eq.trans (World.drewN_drewN _ _ _) (congrArg (World.drewN _) (Nat.add_assoc _ _ _))⟩)))
      repeat (go_quiet (first | (go_at_call 30; (with_reducible refine (r05_meet.calls k2 _ _ (rd_L5 l0 x3_1) _ _ (rd_L5 l0 x5_2) true _ ?side1 ?side2 ?side3 ?side4 A11.out).mono ?_); (case side1 => exact x_cc HR240_0.out); (case side2 => exact HC240_0.out); (case side3 => exact x_cc HR241_0.out); (case side4 => exact HC241_0.out); rintro e w' ⟨rfl, ⟨nd, rfl⟩⟩; (try first | exact ⟨rfl, _, World.drewN_drewN _ _ _⟩ | exact ⟨rfl, _, Eq.trans (World.drewN_drewN _ _ _) (congrArg (World.drewN _) (Nat.add_assoc _ _ _))⟩))); try go_wp2_with (first | (go_at_call 30; (with_reducible refine (r05_meet.calls k2 _ _ (rd_L5 l0 x3_1) _ _ (rd_L5 l0 x5_2) true _ ?side1 ?side2 ?side3 ?side4 A11.out).mono ?_); (case side1 => exact x_cc HR240_0.out); (case side2 => exact HC240_0.out); (case side3 => exact x_cc HR241_0.out); (case side4 => exact HC241_0.out); rintro e w' ⟨rfl, ⟨nd, rfl⟩⟩; (try first | exact ⟨rfl, _, World.drewN_drewN _ _ _⟩ | exact ⟨rfl, _, Eq.trans (World.drewN_drewN _ _ _) (congrArg (World.drewN _) (Nat.add_assoc _ _ _))⟩))))
      go_ret
      exact ⟨x_eqs, x_dr⟩
     replace c12 := Bool.eq_false_iff.mpr c12
     subst c12
     replace H : (r05_Check.l1 k2 l0 x3_1 (wrap64 (x5_2 + 1))) = some r := by rw [if_neg (show ¬ (false = true) by decide)] at H; exact H
     have H' := x_m H
     clear H
     have p240 : 0 ≤ (x3_1 : Int) := x_da
     have q240 : x3_1 < (l0.length : Int) := x_da
     obtain ⟨ad240, A240_0, c240_0, e240, hx240_0, hl240_0, hi240_0⟩ := at_L5 HR0.out x3_1 p240 q240
     obtain rfl : ad238 = ad240 := (by injection e240)
     have HR240_0 := x_m hi240_0
     have HC240_0 := x_m hl240_0
     clear hi240_0 hl240_0
     replace p240 := eq_true p240
     replace q240 := eq_true q240
     have p241 : 0 ≤ (x5_2 : Int) := x_da
     have q241 : x5_2 < (l0.length : Int) := x_da
     obtain ⟨ad241, A241_0, c241_0, e241, hx241_0, hl241_0, hi241_0⟩ := at_L5 HR0.out x5_2 p241 q241
     obtain rfl : ad238 = ad241 := (by injection e241)
     have HR241_0 := x_m hi241_0
     have HC241_0 := x_m hl241_0
     clear hi241_0 hl241_0
     replace p241 := eq_true p241
     replace q241 := eq_true q241
     go_wp2_with (first | (go_at_call 30; (with_reducible refine (r05_meet.calls k2 _ _ (rd_L5 l0 x3_1) _ _ (rd_L5 l0 x5_2) false _ ?side1 ?side2 ?side3 ?side4 A11.out).mono ?_); (case side1 => exact x_cc HR240_0.out); (case side2 => exact HC240_0.out); (case side3 => exact x_cc HR241_0.out); (case side4 => exact HC241_0.out); rintro e w' ⟨rfl, ⟨nd, rfl⟩⟩; (try first | exact ⟨rfl, _, World.drewN_drewN _ _ _⟩ | exact ⟨rfl, _, Eq.trans (World.drewN_drewN _ _ _) (congrArg (World.drewN _) (Nat.add_assoc _ _ _))⟩)))
     repeat (go_quiet (first | (go_at_call 30; (with_reducible refine (r05_meet.calls k2 _ _ (rd_L5 l0 x3_1) _ _ (rd_L5 l0 x5_2) false _ ?side1 ?side2 ?side3 ?side4 A11.out).mono ?_); (case side1 => exact x_cc HR240_0.out); (case side2 => exact HC240_0.out); (case side3 => exact x_cc HR241_0.out); (case side4 => exact HC241_0.out); rintro e w' ⟨rfl, ⟨nd, rfl⟩⟩; (try first | exact ⟨rfl, _, World.drewN_drewN _ _ _⟩ | exact ⟨rfl, _, Eq.trans (World.drewN_drewN _ _ _) (congrArg (World.drewN _) (Nat.add_assoc _ _ _))⟩))); try go_wp2_with (first | (go_at_call 30; (with_reducible refine (r05_meet.calls k2 _ _ (rd_L5 l0 x3_1) _ _ (rd_L5 l0 x5_2) false _ ?side1 ?side2 ?side3 ?side4 A11.out).mono ?_); (case side1 => exact x_cc HR240_0.out); (case side2 => exact HC240_0.out); (case side3 => exact x_cc HR241_0.out); (case side4 => exact HC241_0.out); rintro e w' ⟨rfl, ⟨nd, rfl⟩⟩; (try first | exact ⟨rfl, _, World.drewN_drewN _ _ _⟩ | exact ⟨rfl, _, Eq.trans (World.drewN_drewN _ _ _) (congrArg (World.drewN _) (Nat.add_assoc _ _ _))⟩))))
     go_roundg k2
     case measure => have := HK1.out; have := HK2.out; omega
     case rel => exact ⟨(wrap64 (x5_2 + 1)), x_eqs, H', ⟨by have := HK1.out; have := HK2.out; omega⟩, by repeat (first | exact Drawn0.refl _ | apply Drawn0.step)⟩
def r05_number.f (a0 : Int) (a1 : Bool) (a2 : Int) : Option (Int) := if a1 = true then (if a2 = 1 then (some (wrap64 (a0))) else (if a2 = 2 then (some (wrap64 ((wrap64 (a0)) - 192))) else (if a2 = 3 then (some (wrap64 ((wrap64 (a0)) - 224))) else (some (wrap64 ((wrap64 (a0)) - 240)))))) else (some (wrap64 ((wrap64 (a0)) - 128)))
theorem r05_number.calls (a0 : Int) (a1 : Bool) (a2 : Int) (r : Int) (w : World) (h : r05_number.f a0 a1 a2 = some r) :
  Calls Tryd.prog 56 #[.int .u8 a0, .bool a1, .int .i64 a2] w fun e w' => e = .returned (.int .i64 r) ∧ Drawn0 w w' := by
 have H : (if a1 = true then (if a2 = 1 then (some (wrap64 (a0))) else (if a2 = 2 then (some (wrap64 ((wrap64 (a0)) - 192))) else (if a2 = 3 then (some (wrap64 ((wrap64 (a0)) - 224))) else (some (wrap64 ((wrap64 (a0)) - 240)))))) else (some (wrap64 ((wrap64 (a0)) - 128)))) = some r := h
 clear h
 by_cases c4 : a1 = true
 rotate_left
 ·replace c4 := Bool.eq_false_iff.mpr c4
  subst c4
  replace H : (some (wrap64 ((wrap64 (a0)) - 128))) = some r := by rw [if_neg (show ¬ (false = true) by decide)] at H; exact H
  obtain rfl := Option.some.inj H
  go_enter Tryd.func56, Tryd.ntmps56
  go_wp2
  go_ret
  exact ⟨x_eqs, x_dr⟩

 subst c4
 replace H : (if a2 = 1 then (some (wrap64 (a0))) else (if a2 = 2 then (some (wrap64 ((wrap64 (a0)) - 192))) else (if a2 = 3 then (some (wrap64 ((wrap64 (a0)) - 224))) else (some (wrap64 ((wrap64 (a0)) - 240)))))) = some r := by rw [if_pos rfl] at H; exact H
 rcases x_ie H with ⟨c5b0, c5b1, H⟩ | ⟨c5, c5b0, c5b1, H⟩
 ·obtain rfl := Option.some.inj H
  go_enter Tryd.func56, Tryd.ntmps56
  go_wp2
  go_ret
  exact ⟨x_eqs, x_dr⟩
 rcases x_ie H with ⟨c6b0, c6b1, H⟩ | ⟨c6, c6b0, c6b1, H⟩
 ·obtain rfl := Option.some.inj H
  go_enter Tryd.func56, Tryd.ntmps56
  go_wp2
  go_ret
  exact ⟨x_eqs, x_dr⟩
 rcases x_ie H with ⟨c7b0, c7b1, H⟩ | ⟨c7, c7b0, c7b1, H⟩
 ·obtain rfl := Option.some.inj H
  go_enter Tryd.func56, Tryd.ntmps56
  go_wp2
  go_ret
  exact ⟨x_eqs, x_dr⟩
 obtain rfl := Option.some.inj H
 go_enter Tryd.func56, Tryd.ntmps56
 go_wp2
 go_ret
 exact ⟨x_eqs, x_dr⟩
mutual
def r05_laid.l0 : Nat → List (S55) → List (S45) → Int → Int → Int → Int → Bool → Int → Option ((List (S55)))
 | 0, _, _, _, _, _, _, _, _ => none
 | k + 1, x0, x1, x2, x3, x9, x10, x11, x12 => if x12 < x9 then (if 0 ≤ x12 then (if x12 < (x1.length : Int) then (if ((rd_T45 x1 x12).f0) = 128 then (if ((rd_T45 x1 x12).f1) = 191 then (r05_laid.l0 k x0 x1 x2 x3 x9 x10 x11 (wrap64 (x12 + 1))) else (r05_laid.l0 k x0 x1 x2 x3 x9 x10 false (wrap64 (x12 + 1)))) else (r05_laid.l0 k x0 x1 x2 x3 x9 x10 false (wrap64 (x12 + 1)))) else (none)) else (none)) else (if x11 = true then (if 0 ≤ x2 then (if x2 < (x1.length : Int) then ((r05_number.f ((rd_T45 x1 x2).f0) (x2 == 0) x9).bind fun t247 => ((r05_number.f ((rd_T45 x1 x2).f1) (x2 == 0) x9).bind fun t249 => (if x0.length < 17592186044416 then (some (x0 ++ [(⟨wrap32 (wrap64 (x3 + (wrap64 (t247 * x10)))), wrap32 (wrap64 ((wrap64 ((wrap64 (x3 + (wrap64 (t249 * x10)))) + x10)) - 1))⟩ : S55)])) else (none)))) else (none)) else (none)) else (if 0 ≤ x2 then (if x2 < (x1.length : Int) then (r05_laid.l1 k x0 x1 x2 x3 x9 x10 (wrap64 ((rd_T45 x1 x2).f0))) else (none)) else (none)))
def r05_laid.l1 : Nat → List (S55) → List (S45) → Int → Int → Int → Int → Int → Option ((List (S55)))
 | 0, _, _, _, _, _, _, _ => none
 | k + 1, x0, x1, x2, x3, x9, x10, x15 => if 0 ≤ x2 then (if x2 < (x1.length : Int) then (if x15 ≤ (wrap64 ((rd_T45 x1 x2).f1)) then ((r05_number.f ((x15) % 256) (x2 == 0) x9).bind fun t255 => ((r05_laid.f k x0 x1 (wrap64 (x2 + 1)) (wrap64 (x3 + (wrap64 (t255 * x10))))).bind fun t256 => (r05_laid.l1 k t256 x1 x2 x3 x9 x10 (wrap64 (x15 + 1))))) else (some x0)) else (none)) else (none)
def r05_laid.f : Nat → List (S55) → List (S45) → Int → Int → Option ((List (S55)))
 | 0, _, _, _, _ => none
 | k + 1, l0, l1, a2, a3 => (r05_size.f k (wrap64 ((l1.length : Int) - a2))).bind fun t243 => (r05_laid.l0 k l0 l1 a2 a3 (l1.length : Int) t243 true (wrap64 (a2 + 1)))
end
theorem r05_laid.calls (k : Nat) : ∀ (P0_ : Nat → Prop) (u9000_ : Value) (l0 : List (S55)) (A1 : Option Addr) (c1 : Nat) (l1 : List (S45)) (a2 : Int) (a3 : Int) (r : List (S55)) (w0 w : World) (hB : Below w0.heap.size w0 w) (ho0 : Kd.R k55 55 w w0.heap.size P0_ u9000_ l0) (hr1 : ∀ W_, Kept w W_ (fun k_ => P0_ k_) → Kd.C k45 W_ A1 l1.length l1) (hc1 : l1.length ≤ c1) (h : r05_laid.f k l0 l1 a2 a3 = some r),
  Calls Tryd.prog 38 #[u9000_, .slice A1 l1.length c1, .int .i64 a2, .int .i64 a3] w fun e w' => ∃ v0_ : Value, e = .returned (v0_) ∧ Kd.R k55 55 w' w0.heap.size (fun k_ => (P0_ k_ ∨ w.heap.size ≤ k_)) v0_ r ∧ Below w0.heap.size w0 w' ∧ Kept w w' (fun k_ => P0_ k_) := by
 induction k using Nat.strongRecOn with
 | _ k ih =>
 intro P0_ u9000_ l0 A1 c1 l1 a2 a3 r w0 w hB ho0 hr1 hc1 h
 cases k with
 | zero => exact absurd h (by simp [r05_laid.f])
 | succ k =>
 simp only [r05_laid.f] at h
 have hu55 := Tryd.underlying55
 have HO0 := x_m (show Kd.R k55 55 w w0.heap.size (fun k_ => (P0_ k_ ∨ w.heap.size ≤ k_)) u9000_ l0 from Kd.R_mono ho0 (fun k_ hk => (.inl hk)))
 have HR1 := x_m hr1
 have HC1 := x_m hc1
 clear hr1 hc1
 have HK := x_m (Kept.refl w (fun k_ => P0_ k_))
 have HW0 := x_m hB.size
 have HB := x_m hB
 clear hB
 have H : ((r05_size.f k (wrap64 ((l1.length : Int) - a2))).bind fun t243 => (r05_laid.l0 k l0 l1 a2 a3 (l1.length : Int) t243 true (wrap64 (a2 + 1)))) = some r := h
 clear h
 replace H := x_bi H
 obtain ⟨t243, A50, H⟩ := H
 have A5 := x_m A50
 clear A50
 have H' := x_m H
 clear H
 go_enter Tryd.func38, Tryd.ntmps38
 go_wp2_with (first | ((with_reducible refine gate_callee (f := 54) rfl ?_); refine goesL_ (some 21) rfl rfl Tryd.func54 (by kernel_rfl) rfl #[.int .i64 (wrap64 ((l1.length : Int) - a2))] rfl x_ag ?_; (with_reducible refine (r05_size.calls k (wrap64 ((l1.length : Int) - a2)) t243 _ A5.out).mono ?_); rintro e w' ⟨rfl, ⟨nd, rfl⟩⟩; refine ⟨_, rfl, ?_⟩))
 go_loopg [11, 12] k (fun kq v11 v12 w' => ∃ (x11_1 : Bool) (x12_1 : Int), v11 = .bool x11_1 ∧ v12 = .int .i64 x12_1 ∧ Aside0 (r05_laid.l0 kq l0 l1 a2 a3 (l1.length : Int) t243 x11_1 x12_1 = some r) ∧ Aside0 (kq ≤ k) ∧ Aside0 (Kd.R k55 55 w' w0.heap.size (fun k_ => (P0_ k_ ∨ w.heap.size ≤ k_)) u9000_ l0) ∧ Aside0 (Kept w w' (fun k_ => P0_ k_)) ∧ Aside0 (Below w0.heap.size w0 w'))
 case atStart => exact ⟨(true), (wrap64 (a2 + 1)), x_eqs, x_eqs, H', ⟨Nat.le_refl _⟩, ⟨x_rr HO0.out⟩, ⟨by repeat (first | (with_reducible first | exact HK.out | apply Kept.alloc | apply Kept.drewN | apply Kept.drew) | exact HK.out)⟩, ⟨x_bel⟩⟩
 case round =>
  clear H'
  try clear c1
  try clear p2
  try clear c3
  try clear c5
  obtain ⟨x11_1, x12_1, rfl, rfl, HA, HK1, HO_0, HK, HB⟩ := hrel
  cases gk with
  | zero => exact absurd HA.out (by simp [r05_laid.l0])
  | succ k1 =>
   have H := HA.out
   clear HA
   simp only [r05_laid.l0] at H
   rcases x_if H with ⟨c6b0, H⟩ | ⟨c6b0, H⟩
   ·by_cases c7 : 0 ≤ x12_1
    ·rw [if_pos c7] at H
     have c7b0 := decide_eq_true c7
     clear c7
     obtain ⟨c8b0, H⟩ := x_gd H
     rcases x_ei H with ⟨c9, c9b0, c9b1, H⟩ | ⟨c9b0, c9b1, H⟩
     ·have H' := x_m H
      clear H
      have p244 : 0 ≤ (x12_1 : Int) := x_da
      have q244 : x12_1 < (l1.length : Int) := x_da
      obtain ⟨ad244, e244, hx244_0, hx244_1⟩ := at_T45 (Kd.C_kept_now HR1.out HK.out) x12_1 p244 q244
      cases e244
      replace p244 := eq_true p244
      replace q244 := eq_true q244
      go_wp2
      go_roundg k1
      case measure => have := HK1.out; omega
      case rel => exact ⟨(false), (wrap64 (x12_1 + 1)), x_eqs, x_eqs, H', ⟨by have := HK1.out; omega⟩, ⟨x_rr HO_0.out⟩, ⟨by repeat (first | (with_reducible first | exact HK.out | apply Kept.alloc | apply Kept.drewN | apply Kept.drew) | exact HK.out)⟩, ⟨x_bel⟩⟩
     rcases x_ie H with ⟨c10b0, c10b1, H⟩ | ⟨c10, c10b0, c10b1, H⟩
     ·have H' := x_m H
      clear H
      have p244 : 0 ≤ (x12_1 : Int) := x_da
      have q244 : x12_1 < (l1.length : Int) := x_da
      obtain ⟨ad244, e244, hx244_0, hx244_1⟩ := at_T45 (Kd.C_kept_now HR1.out HK.out) x12_1 p244 q244
      cases e244
      replace p244 := eq_true p244
      replace q244 := eq_true q244
      have p245 : 0 ≤ (x12_1 : Int) := x_da
      have q245 : x12_1 < (l1.length : Int) := x_da
      obtain ⟨ad245, e245, hx245_0, hx245_1⟩ := at_T45 (Kd.C_kept_now HR1.out HK.out) x12_1 p245 q245
      obtain rfl : ad244 = ad245 := (by injection e245)
      replace p245 := eq_true p245
      replace q245 := eq_true q245
      go_wp2
      go_roundg k1
      case measure => have := HK1.out; omega
      case rel => exact ⟨(x11_1), (wrap64 (x12_1 + 1)), x_eqs, x_eqs, H', ⟨by have := HK1.out; omega⟩, ⟨x_rr HO_0.out⟩, ⟨by repeat (first | (with_reducible first | exact HK.out | apply Kept.alloc | apply Kept.drewN | apply Kept.drew) | exact HK.out)⟩, ⟨x_bel⟩⟩
     have H' := x_m H
     clear H
     have p244 : 0 ≤ (x12_1 : Int) := x_da
     have q244 : x12_1 < (l1.length : Int) := x_da
     obtain ⟨ad244, e244, hx244_0, hx244_1⟩ := at_T45 (Kd.C_kept_now HR1.out HK.out) x12_1 p244 q244
     cases e244
     replace p244 := eq_true p244
     replace q244 := eq_true q244
     have p245 : 0 ≤ (x12_1 : Int) := x_da
     have q245 : x12_1 < (l1.length : Int) := x_da
     obtain ⟨ad245, e245, hx245_0, hx245_1⟩ := at_T45 (Kd.C_kept_now HR1.out HK.out) x12_1 p245 q245
     obtain rfl : ad244 = ad245 := (by injection e245)
     replace p245 := eq_true p245
     replace q245 := eq_true q245
     go_wp2
     go_roundg k1
     case measure => have := HK1.out; omega
     case rel => exact ⟨(false), (wrap64 (x12_1 + 1)), x_eqs, x_eqs, H', ⟨by have := HK1.out; omega⟩, ⟨x_rr HO_0.out⟩, ⟨by repeat (first | (with_reducible first | exact HK.out | apply Kept.alloc | apply Kept.drewN | apply Kept.drew) | exact HK.out)⟩, ⟨x_bel⟩⟩
    rw [if_neg c7] at H
    exact absurd H (by simp)
   by_cases c11 : x11_1 = true
   ·subst c11
    replace H : (if 0 ≤ a2 then (if a2 < (l1.length : Int) then ((r05_number.f ((rd_T45 l1 a2).f0) (a2 == 0) (l1.length : Int)).bind fun t247 => ((r05_number.f ((rd_T45 l1 a2).f1) (a2 == 0) (l1.length : Int)).bind fun t249 => (if l0.length < 17592186044416 then (some (l0 ++ [(⟨wrap32 (wrap64 (a3 + (wrap64 (t247 * t243)))), wrap32 (wrap64 ((wrap64 ((wrap64 (a3 + (wrap64 (t249 * t243)))) + t243)) - 1))⟩ : S55)])) else (none)))) else (none)) else (none)) = some r := by rw [if_pos rfl] at H; exact H
    obtain ⟨c12b0, H⟩ := x_gd H
    obtain ⟨c13b0, H⟩ := x_gd H
    replace H := x_bi H
    obtain ⟨t247, A140, H⟩ := H
    have A14 := x_m A140
    clear A140
    replace H := x_bi H
    obtain ⟨t249, A150, H⟩ := H
    have A15 := x_m A150
    clear A150
    obtain ⟨c16, H⟩ := x_gp H
    have LMc16 := x_m c16
    clear c16
    obtain ⟨y250, hy250⟩ : ∃ y_ : List (S55), y_ = (l0 ++ [(⟨wrap32 (wrap64 (a3 + (wrap64 (t247 * t243)))), wrap32 (wrap64 ((wrap64 ((wrap64 (a3 + (wrap64 (t249 * t243)))) + t243)) - 1))⟩ : S55)]) := ⟨_, rfl⟩
    replace H : (some y250) = some r := x_hh hy250 H
    have Ny250 := x_m hy250
    clear hy250
    obtain rfl := Option.some.inj H
    have p246 : 0 ≤ (a2 : Int) := x_da
    have q246 : a2 < (l1.length : Int) := x_da
    obtain ⟨ad246, e246, hx246_0, hx246_1⟩ := at_T45 (Kd.C_kept_now HR1.out HK.out) a2 p246 q246
    cases e246
    replace p246 := eq_true p246
    replace q246 := eq_true q246
    go_wp2_with (first | ((with_reducible refine gate_callee (f := 56) rfl ?_); refine goesL_ (some 53) rfl rfl Tryd.func56 (by kernel_rfl) rfl #[.int .u8 ((rd_T45 l1 a2).f0), .bool (a2 == 0), .int .i64 (l1.length : Int)] rfl x_ag ?_; (with_reducible refine (r05_number.calls ((rd_T45 l1 a2).f0) (a2 == 0) (l1.length : Int) t247 _ A14.out).mono ?_); rintro e w' ⟨rfl, ⟨nd, rfl⟩⟩; refine ⟨_, rfl, ?_⟩; have p248 : 0 ≤ (a2 : Int) := x_da; have q248 : a2 < (l1.length : Int) := x_da; obtain ⟨ad248, e248, hx248_0, hx248_1⟩ := at_T45 (Kd.C_kept_now HR1.out HK.out) a2 p248 q248; obtain rfl : ad246 = ad248 := (by injection e248); replace p248 := eq_true p248; replace q248 := eq_true q248) | ((with_reducible refine gate_callee (f := 56) rfl ?_); refine goesL_ (some 66) rfl rfl Tryd.func56 (by kernel_rfl) rfl #[.int .u8 ((rd_T45 l1 a2).f1), .bool (a2 == 0), .int .i64 (l1.length : Int)] rfl x_ag ?_; (with_reducible refine (r05_number.calls ((rd_T45 l1 a2).f1) (a2 == 0) (l1.length : Int) t249 _ A15.out).mono ?_); rintro e w' ⟨rfl, ⟨nd, rfl⟩⟩; refine ⟨_, rfl, ?_⟩) | ((with_reducible refine gate_builtin (b := .append) (xs := #[.tmp 73, .tmp 79]) rfl ?_); at_builtin; refine Kd.R_append k55 (w0 := w0) w0.heap.size rfl (.tmp 73) (.tmp 79) 25 55 (.agg #[(.int .i32 0), (.int .i32 0)]) 8 rfl Tryd.underlying25 info55 rfl (by decide) (by omega) u9000_ l0 (⟨wrap32 (wrap64 (a3 + (wrap64 (t247 * t243)))), wrap32 (wrap64 ((wrap64 ((wrap64 (a3 + (wrap64 (t249 * t243)))) + t243)) - 1))⟩ : S55) [.int .i32 (wrap32 (wrap64 (a3 + (wrap64 (t247 * t243))))), .int .i32 (wrap32 (wrap64 ((wrap64 ((wrap64 (a3 + (wrap64 (t249 * t243)))) + t243)) - 1)))] (fun k_ => (P0_ k_ ∨ w.heap.size ≤ k_)) (fun _ => False) rfl rfl ?aP (fun _ hk => hk.elim) ?aF ?aO ?aB ?aS ?aL ?_; (case aP => exact k55_mkM _ _ _ (⟨wrap32 (wrap64 (a3 + (wrap64 (t247 * t243)))), wrap32 (wrap64 ((wrap64 ((wrap64 (a3 + (wrap64 (t249 * t243)))) + t243)) - 1))⟩ : S55)); (case aB => exact x_bel); (case aF => exact (fun k_ hk => (.inr (Nat.le_trans (by first | exact HK.out.1 | exact (show Kept w _ (fun k_ => P0_ k_) from by repeat (first | (with_reducible first | exact HK.out | apply Kept.alloc | apply Kept.drewN | apply Kept.drew) | exact HK.out)).1) hk)))); (case aO => exact (x_rr HO_0.out)); (case aS => exact (below_size x_bel)); (case aL => have := LMc16.out; omega); intro v251 w17 ho hb hg hat; rw [← Ny250.out] at ho; replace HB := x_m (hb); replace HK := x_m (Kept.of_grown (S := (fun k_ => P0_ k_)) hg (by repeat (first | (with_reducible first | exact HK.out | apply Kept.alloc | apply Kept.drewN | apply Kept.drew) | exact HK.out)) (fun k_ e_ => (HO_0.out.1 k_ e_))); have HO252 := x_m (ho); clear HO_0; clear ho hb hg hat))
    go_ret
    exact ⟨_, by first | rfl | (simp [errW_none, errW_some] <;> rfl) | (simp [*, errW_none, errW_some] <;> rfl), by (with_reducible repeat (first | apply Kd.R_alloc | apply Kd.R_drewN | apply Kd.R_drew)); exact HO252.out, by repeat (first | (with_reducible first | exact HB.out | apply below_alloc | apply pw_below_drewN | apply below_drew1) | exact HB.out), by repeat (first | (with_reducible first | exact HK.out | apply Kept.alloc | apply Kept.drewN | apply Kept.drew) | exact HK.out)⟩
   replace c11 := Bool.eq_false_iff.mpr c11
   subst c11
   replace H : (if 0 ≤ a2 then (if a2 < (l1.length : Int) then (r05_laid.l1 k1 l0 l1 a2 a3 (l1.length : Int) t243 (wrap64 ((rd_T45 l1 a2).f0))) else (none)) else (none)) = some r := by rw [if_neg (show ¬ (false = true) by decide)] at H; exact H
   by_cases c18 : 0 ≤ a2
   rotate_left
   ·rw [if_neg c18] at H
    exact absurd H (by simp)

   rw [if_pos c18] at H
   have c18b0 := decide_eq_true c18
   clear c18
   obtain ⟨c19b0, H⟩ := x_gd H
   have H' := x_m H
   clear H
   have p253 : 0 ≤ (a2 : Int) := x_da
   have q253 : a2 < (l1.length : Int) := x_da
   obtain ⟨ad253, e253, hx253_0, hx253_1⟩ := at_T45 (Kd.C_kept_now HR1.out HK.out) a2 p253 q253
   cases e253
   replace p253 := eq_true p253
   replace q253 := eq_true q253
   go_wp2
   go_loopg [0, 15] k1 (fun kq v0 v15 w' => ∃ (x0_2 : List (S55)) (x15_2 : Int), v15 = .int .i64 x15_2 ∧ Aside0 (r05_laid.l1 kq x0_2 l1 a2 a3 (l1.length : Int) t243 x15_2 = some r) ∧ Aside0 (kq ≤ k1) ∧ Aside0 (Kd.R k55 55 w' w0.heap.size (fun k_ => (P0_ k_ ∨ w.heap.size ≤ k_)) v0 x0_2) ∧ Aside0 (Kept w w' (fun k_ => P0_ k_)) ∧ Aside0 (Below w0.heap.size w0 w'))
   case atStart => exact ⟨(l0), (wrap64 ((rd_T45 l1 a2).f0)), x_eqs, H', ⟨Nat.le_refl _⟩, ⟨x_rr HO_0.out⟩, ⟨by repeat (first | (with_reducible first | exact HK.out | apply Kept.alloc | apply Kept.drewN | apply Kept.drew) | exact HK.out)⟩, ⟨x_bel⟩⟩
   case round =>
    clear H'
    try clear c1
    try clear p2
    try clear q2
    try clear hx2
    try clear c3
    try clear p3
    try clear c5
    try clear c6
    try clear c6b0
    try clear p6
    try clear c7
    try clear c7b0
    try clear c8
    try clear c8b0
    try clear c9
    try clear c9b0
    try clear c9b1
    try clear c10
    try clear c10b0
    try clear c10b1
    try clear c11
    try clear c12
    try clear c12b0
    try clear c13
    try clear c13b0
    try clear c16
    try clear c18
    try clear c18b0
    try clear c19
    try clear c19b0
    try clear hx244_0
    try clear hx244_1
    try clear hx245_0
    try clear hx245_1
    try clear hx246_0
    try clear hx246_1
    try clear hx248_0
    try clear hx248_1
    try clear hx253_0
    try clear hx253_1
    try clear p2
    try clear p244
    try clear p245
    try clear p246
    try clear p248
    try clear p253
    try clear q244
    try clear q245
    try clear q246
    try clear q248
    try clear q253
    obtain ⟨x0_2, x15_2, rfl, HA, HK2, HO_0, HK, HB⟩ := hrel
    cases gk with
    | zero => exact absurd HA.out (by simp [r05_laid.l1])
    | succ k2 =>
     have H := HA.out
     clear HA
     simp only [r05_laid.l1] at H
     obtain ⟨c20b0, H⟩ := x_gd H
     obtain ⟨c21b0, H⟩ := x_gd H
     rcases x_fi H with ⟨c22b0, H⟩ | ⟨c22b0, H⟩
     ·obtain rfl := Option.some.inj H
      have p254 : 0 ≤ (a2 : Int) := x_da
      have q254 : a2 < (l1.length : Int) := x_da
      obtain ⟨ad254, e254, hx254_0, hx254_1⟩ := at_T45 (Kd.C_kept_now HR1.out HK.out) a2 p254 q254
      obtain rfl : ad253 = ad254 := (by injection e254)
      replace p254 := eq_true p254
      replace q254 := eq_true q254
      go_wp2
      go_ret
      exact ⟨_, by first | rfl | (simp [errW_none, errW_some] <;> rfl) | (simp [*, errW_none, errW_some] <;> rfl), by (with_reducible repeat (first | apply Kd.R_alloc | apply Kd.R_drewN | apply Kd.R_drew)); exact HO_0.out, by repeat (first | (with_reducible first | exact HB.out | apply below_alloc | apply pw_below_drewN | apply below_drew1) | exact HB.out), by repeat (first | (with_reducible first | exact HK.out | apply Kept.alloc | apply Kept.drewN | apply Kept.drew) | exact HK.out)⟩
     replace H := x_bi H
     obtain ⟨t255, A230, H⟩ := H
     have A23 := x_m A230
     clear A230
     replace H := x_bi H
     obtain ⟨t256, A240, H⟩ := H
     have A24 := x_m A240
     clear A240
     have H' := x_m H
     clear H
     have p254 : 0 ≤ (a2 : Int) := x_da
     have q254 : a2 < (l1.length : Int) := x_da
     obtain ⟨ad254, e254, hx254_0, hx254_1⟩ := at_T45 (Kd.C_kept_now HR1.out HK.out) a2 p254 q254
     obtain rfl : ad253 = ad254 := (by injection e254)
     replace p254 := eq_true p254
     replace q254 := eq_true q254
     go_wp2_with (first | ((with_reducible refine gate_callee (f := 56) rfl ?_); refine goesL_ (some 107) rfl rfl Tryd.func56 (by kernel_rfl) rfl #[.int .u8 ((x15_2) % 256), .bool (a2 == 0), .int .i64 (l1.length : Int)] rfl x_ag ?_; (with_reducible refine (r05_number.calls ((x15_2) % 256) (a2 == 0) (l1.length : Int) t255 _ A23.out).mono ?_); rintro e w' ⟨rfl, ⟨nd, rfl⟩⟩; refine ⟨_, rfl, ?_⟩; obtain ⟨Ao25, co25, eo25⟩ := Kd.R_slice HO_0.out; subst eo25) | ((with_reducible refine gate_callee (f := 38) rfl ?_); refine goesL_ (some 111) rfl rfl Tryd.func38 (by kernel_rfl) rfl #[.slice Ao25 x0_2.length co25, .slice (some ad253) l1.length c1, .int .i64 (wrap64 (a2 + 1)), .int .i64 (wrap64 (a3 + (wrap64 (t255 * t243))))] rfl x_ag ?_; (with_reducible refine (ih k2 (by have := HK1.out; have := HK2.out; omega) (fun k_ => some k_ = (.slice Ao25 x0_2.length co25 : Value).ownBlock) (.slice Ao25 x0_2.length co25) x0_2 _ _ l1 (wrap64 (a2 + 1)) (wrap64 (a3 + (wrap64 (t255 * t243)))) t256 w0 _ ?side1 ?side2 ?side3 ?side4 A24.out).mono ?_); (case side1 => repeat (first | (with_reducible first | exact HB.out | apply below_alloc | apply pw_below_drewN | apply below_drew1) | exact HB.out)); (case side2 => exact Kd.R_tight rfl HO_0.out); (case side3 => exact Kd.C_kept_call HR1.out (by repeat (first | (with_reducible first | exact HK.out | apply Kept.alloc | apply Kept.drewN | apply Kept.drew) | exact HK.out)) (fun k_ hs_ => (fun e_ => (HO_0.out.1 k_ e_.symm)) hs_)); (case side4 => exact HC1.out); rintro e w26 ⟨v257, rfl, ho0, hb, hkp⟩; refine ⟨_, rfl, ?_⟩; have HO258 := x_m (Kd.R_mono (ok' := fun k_ => (P0_ k_ ∨ w.heap.size ≤ k_)) ho0 (fun k_ hk_ => Or.elim hk_ (fun hs_ => (HO_0.out.1 k_ (hs_).symm)) (fun hn_ => (.inr (Nat.le_trans (by first | exact HK.out.1 | exact (show Kept w _ (fun k_ => P0_ k_) from by repeat (first | (with_reducible first | exact HK.out | apply Kept.alloc | apply Kept.drewN | apply Kept.drew) | exact HK.out)).1) hn_))))); replace HK := x_m (Kept.then_ (S := (fun k_ => P0_ k_)) (by repeat (first | (with_reducible first | exact HK.out | apply Kept.alloc | apply Kept.drewN | apply Kept.drew) | exact HK.out)) hkp (fun k_ hs_ => (fun e_ => (HO_0.out.1 k_ e_.symm)) hs_)); replace HB := x_m (hb); clear HO_0; (try clear hb); (try clear hkp); (try clear ho0)))
     go_roundg k2
     case measure => have := HK1.out; have := HK2.out; omega
     case rel => exact ⟨(t256), (wrap64 (x15_2 + 1)), x_eqs, H', ⟨by have := HK1.out; have := HK2.out; omega⟩, ⟨x_rr HO258.out⟩, ⟨by repeat (first | (with_reducible first | exact HK.out | apply Kept.alloc | apply Kept.drewN | apply Kept.drew) | exact HK.out)⟩, ⟨x_bel⟩⟩
def r02_least.f (a0 : Int) (a1 : Int) : Option (Int) := if a0 < a1 then (some a0) else (some a1)
theorem r02_least.calls (a0 : Int) (a1 : Int) (r : Int) (w : World) (h : r02_least.f a0 a1 = some r) :
  Calls Tryd.prog 82 #[.int .i64 a0, .int .i64 a1] w fun e w' => e = .returned (.int .i64 r) ∧ Drawn0 w w' := by
 have H : (if a0 < a1 then (some a0) else (some a1)) = some r := h
 clear h
 rcases x_if H with ⟨c3b0, H⟩ | ⟨c3b0, H⟩
 ·obtain rfl := Option.some.inj H
  go_enter Tryd.func82, Tryd.ntmps82
  go_wp2
  go_ret
  exact ⟨x_eqs, x_dr⟩
 obtain rfl := Option.some.inj H
 go_enter Tryd.func82, Tryd.ntmps82
 go_wp2
 go_ret
 exact ⟨x_eqs, x_dr⟩

mutual
def r02_merged.l0 : Nat → List Int → Int → Option (List Int)
 | 0, _, _ => none
 | k + 1, x0, x3 => if x3 < (x0.length : Int) then (if 0 ≤ (x0.length : Int) then (if ((x0.length : Int) : Int).toNat ≤ 35184372088832 then (r02_merged.l1 k x0 x3 (([] : List Int)) 0) else (none)) else (none)) else (some x0)
def r02_merged.l1 : Nat → List Int → Int → List Int → Int → Option (List Int)
 | 0, _, _, _, _ => none
 | k + 1, x0, x3, x4, x5 => if x5 < (x0.length : Int) then ((r02_least.f (wrap64 (x5 + x3)) (x0.length : Int)).bind fun t262 => ((r02_least.f (wrap64 (x5 + (wrap64 (2 * x3)))) (x0.length : Int)).bind fun t263 => (r02_merged.l2 k x0 x3 x4 x5 t262 t263 x5 t262))) else (r02_merged.l0 k x4 (wrap64 (2 * x3)))
def r02_merged.l2 : Nat → List Int → Int → List Int → Int → Int → Int → Int → Int → Option (List Int)
 | 0, _, _, _, _, _, _, _, _ => none
 | k + 1, x0, x3, x4, x5, x6, x7, x8, x9 => if x8 < x6 then (r02_merged.j3 k x0 x3 x4 x5 x6 x7 x8 x9 true) else (r02_merged.j3 k x0 x3 x4 x5 x6 x7 x8 x9 (decide (x9 < x7)))
def r02_merged.j3 : Nat → List Int → Int → List Int → Int → Int → Int → Int → Int → Bool → Option (List Int)
 | 0, _, _, _, _, _, _, _, _, _ => none
 | k + 1, x0, x3, x4, x5, x6, x7, x8, x9, x49 => if x49 = true then (if x9 = x7 then (if 0 ≤ x8 then (if x8 < (x0.length : Int) then (if x4.length < 17592186044416 then (r02_merged.l2 k x0 x3 (x4 ++ [rd x0 x8]) x5 x6 x7 (wrap64 (x8 + 1)) x9) else (none)) else (none)) else (none)) else (if x8 < x6 then (if 0 ≤ x8 then (if x8 < (x0.length : Int) then (if 0 ≤ x9 then (if x9 < (x0.length : Int) then (if (rd x0 x8) ≤ (rd x0 x9) then (if x4.length < 17592186044416 then (r02_merged.l2 k x0 x3 (x4 ++ [rd x0 x8]) x5 x6 x7 (wrap64 (x8 + 1)) x9) else (none)) else (if x4.length < 17592186044416 then (r02_merged.l2 k x0 x3 (x4 ++ [rd x0 x9]) x5 x6 x7 x8 (wrap64 (x9 + 1))) else (none))) else (none)) else (none)) else (none)) else (none)) else (if 0 ≤ x9 then (if x9 < (x0.length : Int) then (if x4.length < 17592186044416 then (r02_merged.l2 k x0 x3 (x4 ++ [rd x0 x9]) x5 x6 x7 x8 (wrap64 (x9 + 1))) else (none)) else (none)) else (none)))) else (r02_merged.l1 k x0 x3 x4 (wrap64 (x5 + (wrap64 (2 * x3)))))
end
def r02_merged.f (k : Nat) (l0 : List Int) : Option (List Int) := r02_merged.l0 k l0 1
theorem r02_merged.calls (k : Nat) (P0_ : Nat → Prop) (A0 : Option Addr) (c0 : Nat) (l0 : List Int) (r : List Int) (w : World) (hs0 : Kd.V (Kd.int .i64) 3 w w.heap.size (fun k_ => P0_ k_) (.slice A0 l0.length c0) l0) (h : r02_merged.f k l0 = some r) :
  Calls Tryd.prog 70 #[.slice A0 l0.length c0] w fun e w' => ∃ v0_ : Value, e = .returned (v0_) ∧ Kd.V (Kd.int .i64) 3 w' w.heap.size (fun k_ => (P0_ k_ ∨ w.heap.size ≤ k_)) v0_ r ∧ Below w.heap.size w w' := by
 have HO0 := x_m (show Kd.V (Kd.int .i64) 3 w w.heap.size (fun k_ => (P0_ k_ ∨ w.heap.size ≤ k_)) (.slice A0 l0.length c0) l0 from Kd.V_mono hs0 (fun k_ hk => .inl hk))
 have HB := x_m (Below.refl w.heap.size w)
 have H : (r02_merged.l0 k l0 1) = some r := h
 clear h
 have H' := x_m H
 clear H
 go_enter Tryd.func70, Tryd.ntmps70
 go_wp2
 repeat (go_quiet (fail); try go_wp2)
 go_loopg [0, 3] k (fun kq v0 v3 w' => ∃ (x0_1 : List Int) (x3_1 : Int), v3 = .int .i64 x3_1 ∧ Aside0 (r02_merged.l0 kq x0_1 x3_1 = some r) ∧ Aside0 (kq ≤ k) ∧ Aside0 (Kd.V (Kd.int .i64) 3 w' w.heap.size (fun k_ => (P0_ k_ ∨ w.heap.size ≤ k_)) v0 x0_1) ∧ Aside0 (Below w.heap.size w w'))
 case atStart => exact ⟨(l0), (1), x_eqs, H', ⟨Nat.le_refl _⟩, ⟨by (with_reducible repeat (first | apply Kd.V_alloc | apply Kd.V_drewN | apply Kd.V_drew)); exact HO0.out⟩, ⟨x_bel⟩⟩
 case round =>
  clear H'
  obtain ⟨x0_1, x3_1, rfl, HA, HK1, HO_0, HB⟩ := hrel
  cases gk with
  | zero => exact absurd HA.out (by simp [r02_merged.l0])
  | succ k1 =>
   have H := HA.out
   clear HA
   simp only [r02_merged.l0] at H
   rcases x_fi H with ⟨c2b0, H⟩ | ⟨c2b0, H⟩
   ·obtain rfl := Option.some.inj H
    obtain ⟨Ao33, co33, eo33⟩ := Kd.V_slice HO_0.out
    subst eo33
    go_wp2
    repeat (go_quiet (fail); try go_wp2)
    go_ret
    exact ⟨_, by first | rfl | (simp [errW_none, errW_some] <;> rfl) | (simp [*, errW_none, errW_some] <;> rfl), by (with_reducible repeat (first | apply Kd.V_alloc | apply Kd.V_drewN | apply Kd.V_drew)); exact HO_0.out, x_bel⟩

   obtain ⟨c3, H⟩ := x_gp H
   have c3b0 := eq_true c3
   have c3b1 := decide_eq_true c3
   clear c3
   obtain ⟨c4, H⟩ := x_gp H
   have c4b0 := eq_true c4
   have c4b1 := decide_eq_true c4
   clear c4
   obtain ⟨y259, hy259⟩ : ∃ y_ : List Int, y_ = (([] : List Int)) := ⟨_, rfl⟩
   replace H : (r02_merged.l1 k1 x0_1 x3_1 y259 0) = some r := x_hh hy259 H
   have Ny259 := x_m hy259
   clear hy259
   have H' := x_m H
   clear H
   obtain ⟨Ao5, co5, eo5⟩ := Kd.V_slice HO_0.out
   subst eo5
   go_wp2_with (first | ((with_reducible refine gate_dst (N := 18) rfl ?_); refine XLib.R_make0 (Kd.int .i64) _ 3 rfl (N := 18) rfl 72 _ _ rfl (x0_1.length : Int) rfl rfl Tryd.underlying72 (.int .i64 0) 8 info3 rfl (by decide) (by omega) (ok := fun _ => True) (okp := fun _ => True) (fun _ hk => hk) trivial (of_decide_eq_true x_asm) (Nat.le_trans (Nat.mul_le_mul_right _ (of_decide_eq_true x_asm : (x0_1.length : Int).toNat ≤ 35184372088832)) (by omega)) (Below.refl _ _) (Nat.le_refl _) ?_; intro v260 w6 ho7 hb hg_ hnew_; clear hg_ hnew_; (first | rw [← Ny259.out] at ho7 | (simp only [Int.reduceToNat] at ho7; rw [← Ny259.out] at ho7)); replace HO_0 := x_m (Kd.V_elder' (x_vv HO_0.out) (Kd.R_base ho7) hb); have HO261 := x_m (Kd.R_lower (Kd.R_newM (M := fun k_ => (w.heap.size ≤ k_)) ho7 (below_size x_bel) (fun k_ h_ => h_)) (below_size x_bel)); replace HB := x_m (below_step x_bel hb); clear hb ho7))
   go_loopg [4, 5] k1 (fun kq v4 v5 w' => ∃ (x4_2 : List Int) (x5_2 : Int), v5 = .int .i64 x5_2 ∧ Aside0 (r02_merged.l1 kq x0_1 x3_1 x4_2 x5_2 = some r) ∧ Aside0 (kq ≤ k1) ∧ Aside0 (Kd.V (Kd.int .i64) 3 w' w.heap.size (fun k_ => (P0_ k_ ∨ w.heap.size ≤ k_) ∧ some k_ ≠ (v4 : Value).ownBlock) (.slice Ao5 x0_1.length co5) x0_1) ∧ Aside0 (Kd.R (Kd.int .i64) 3 w' w.heap.size (fun k_ => (w.heap.size ≤ k_)) v4 x4_2) ∧ Aside0 (Below w.heap.size w w'))
   case atStart => exact ⟨(y259), (0), x_eqs, H', ⟨Nat.le_refl _⟩, ⟨by (with_reducible repeat (first | apply Kd.V_alloc | apply Kd.V_drewN | apply Kd.V_drew)); exact HO_0.out⟩, ⟨by (with_reducible repeat (first | apply Kd.R_alloc | apply Kd.R_drewN | apply Kd.R_drew)); exact Kd.R_mono HO261.out (fun _ hk => hk.1)⟩, ⟨x_bel⟩⟩
   case round =>
    clear H'
    obtain ⟨x4_2, x5_2, rfl, HA, HK2, HO_0, HO_4, HB⟩ := hrel
    cases gk with
    | zero => exact absurd HA.out (by simp [r02_merged.l1])
    | succ k2 =>
     have H := HA.out
     clear HA
     simp only [r02_merged.l1] at H
     rcases x_fi H with ⟨c8b0, H⟩ | ⟨c8b0, H⟩
     ·have H' := x_m H
      clear H
      go_wp2
      repeat (go_quiet (fail); try go_wp2)
      go_roundg k2
      case measure => have := HK1.out; have := HK2.out; omega
      case rel => exact ⟨(x4_2), (wrap64 (2 * x3_1)), x_eqs, H', ⟨by have := HK1.out; have := HK2.out; omega⟩, ⟨Kd.V_mono (Kd.R_V (x_rr HO_4.out)) (fun k_ hk => by first | exact ⟨(.inr (hk.1)), hk.2⟩ | exact (.inr (hk)))⟩, ⟨x_bel⟩⟩
     replace H := x_bi H
     obtain ⟨t262, A90, H⟩ := H
     have A9 := x_m A90
     clear A90
     replace H := x_bi H
     obtain ⟨t263, A100, H⟩ := H
     have A10 := x_m A100
     clear A100
     have H' := x_m H
     clear H
     go_wp2_with (first | (go_at_call 82; (with_reducible refine (r02_least.calls (wrap64 (x5_2 + x3_1)) (x0_1.length : Int) t262 _ A9.out).mono ?_); rintro e w' ⟨rfl, ⟨nd, rfl⟩⟩; (try first | exact ⟨rfl, _, World.drewN_drewN _ _ _⟩ | exact ⟨rfl, _, Eq.trans (World.drewN_drewN _ _ _) (congrArg (World.drewN _) (Nat.add_assoc _ _ _))⟩)) | (go_at_call 82; (with_reducible refine (r02_least.calls (wrap64 (x5_2 + (wrap64 (2 * x3_1)))) (x0_1.length : Int) t263 _ A10.out).mono ?_); rintro e w' ⟨rfl, ⟨nd, rfl⟩⟩; (try first | exact ⟨rfl, _, World.drewN_drewN _ _ _⟩ | exact ⟨rfl, _, Eq.trans (World.drewN_drewN _ _ _) (congrArg (World.drewN _) (Nat.add_assoc _ _ _))⟩)))
     go_loopg [4, 8, 9] k2 (fun kq v4 v8 v9 w' => ∃ (x4_3 : List Int) (x8_3 : Int) (x9_3 : Int), v8 = .int .i64 x8_3 ∧ v9 = .int .i64 x9_3 ∧ Aside0 (r02_merged.l2 kq x0_1 x3_1 x4_3 x5_2 t262 t263 x8_3 x9_3 = some r) ∧ Aside0 (kq ≤ k2) ∧ Aside0 (Kd.V (Kd.int .i64) 3 w' w.heap.size (fun k_ => (P0_ k_ ∨ w.heap.size ≤ k_) ∧ some k_ ≠ (v4 : Value).ownBlock) (.slice Ao5 x0_1.length co5) x0_1) ∧ Aside0 (Kd.R (Kd.int .i64) 3 w' w.heap.size (fun k_ => (w.heap.size ≤ k_)) v4 x4_3) ∧ Aside0 (Below w.heap.size w w'))
     case atStart => exact ⟨(x4_2), (x5_2), (t262), x_eqs, x_eqs, H', ⟨Nat.le_refl _⟩, ⟨by (with_reducible repeat (first | apply Kd.V_alloc | apply Kd.V_drewN | apply Kd.V_drew)); exact HO_0.out⟩, ⟨x_rr HO_4.out⟩, ⟨x_bel⟩⟩
     case round =>
      clear H'
      obtain ⟨x4_3, x8_3, x9_3, rfl, rfl, HA, HK3, HO_0, HO_4, HB⟩ := hrel
      cases gk with
      | zero => exact absurd HA.out (by simp [r02_merged.l2])
      | succ k3 =>
       have H := HA.out
       clear HA
       simp only [r02_merged.l2] at H
       have HC11 := x_m H
       clear H
       go_upto_region 12 with (fail)
       repeat (go_quiet (fail); go_upto_region 12 with (fail))
       go_cut [49] (fun v49 wc => ∃ (kq : Nat) (x49_10 : Bool), v49 = .bool x49_10 ∧ Aside0 (r02_merged.j3 kq x0_1 x3_1 x4_3 x5_2 t262 t263 x8_3 x9_3 x49_10 = some r) ∧ Aside0 (kq ≤ k3) ∧ Aside0 (Kd.V (Kd.int .i64) 3 wc w.heap.size (fun k_ => (P0_ k_ ∨ w.heap.size ≤ k_) ∧ some k_ ≠ (u4 : Value).ownBlock) (.slice Ao5 x0_1.length co5) x0_1) ∧ Aside0 (Kd.R (Kd.int .i64) 3 wc w.heap.size (fun k_ => (w.heap.size ≤ k_)) u4 x4_3) ∧ Aside0 (Below w.heap.size w wc))
       case first =>
        have H := HC11.out
        clear HC11
        rcases x_if H with ⟨c12b0, H⟩ | ⟨c12b0, H⟩
        ·(first | rw [c12b0] | (simp only [i64_w, i32_w]; rw [c12b0]) | skip)
         have H' := x_m H
         clear H
         go_wp2
         repeat (go_quiet (fail); try go_wp2)
         go_meet
         case rel => exact ⟨_, (true), x_eqs, H', ⟨by have := HK1.out; have := HK2.out; have := HK3.out; first | omega | exact Nat.le_refl _⟩, ⟨by (with_reducible repeat (first | apply Kd.V_alloc | apply Kd.V_drewN | apply Kd.V_drew)); exact HO_0.out⟩, ⟨x_rr HO_4.out⟩, ⟨x_bel⟩⟩
        (first | rw [c12b0] | (simp only [i64_w, i32_w]; rw [c12b0]) | skip)
        have H' := x_m H
        clear H
        go_wp2
        repeat (go_quiet (fail); try go_wp2)
        go_meet
        case rel => exact ⟨_, (decide (x9_3 < t263)), x_eqs, H', ⟨by have := HK1.out; have := HK2.out; have := HK3.out; first | omega | exact Nat.le_refl _⟩, ⟨by (with_reducible repeat (first | apply Kd.V_alloc | apply Kd.V_drewN | apply Kd.V_drew)); exact HO_0.out⟩, ⟨x_rr HO_4.out⟩, ⟨x_bel⟩⟩
       case rest =>
        clear HC11
        obtain ⟨kq, x49_10, rfl, HA, HJ10, HO_0, HO_4, HB⟩ := hcut
        cases kq with
        | zero => exact absurd HA.out (by simp [r02_merged.j3])
        | succ kj10 =>
         have H := HA.out
         clear HA
         simp only [r02_merged.j3] at H
         by_cases c13 : x49_10 = true
         rotate_left
         ·replace c13 := Bool.eq_false_iff.mpr c13
          subst c13
          replace H : (r02_merged.l1 kj10 x0_1 x3_1 x4_3 (wrap64 (x5_2 + (wrap64 (2 * x3_1))))) = some r := by rw [if_neg (show ¬ (false = true) by decide)] at H; exact H
          have H' := x_m H
          clear H
          go_wp2
          repeat (go_quiet (fail); try go_wp2)
          go_roundg kj10
          case measure => have := HK1.out; have := HK2.out; have := HK3.out; have := HJ10.out; omega
          case rel => exact ⟨(x4_3), (wrap64 (x5_2 + (wrap64 (2 * x3_1)))), x_eqs, H', ⟨by have := HK1.out; have := HK2.out; have := HK3.out; have := HJ10.out; omega⟩, ⟨by (with_reducible repeat (first | apply Kd.V_alloc | apply Kd.V_drewN | apply Kd.V_drew)); exact HO_0.out⟩, ⟨x_rr HO_4.out⟩, ⟨x_bel⟩⟩
         subst c13
         replace H : (if x9_3 = t263 then (if 0 ≤ x8_3 then (if x8_3 < (x0_1.length : Int) then (if x4_3.length < 17592186044416 then (r02_merged.l2 kj10 x0_1 x3_1 (x4_3 ++ [rd x0_1 x8_3]) x5_2 t262 t263 (wrap64 (x8_3 + 1)) x9_3) else (none)) else (none)) else (none)) else (if x8_3 < t262 then (if 0 ≤ x8_3 then (if x8_3 < (x0_1.length : Int) then (if 0 ≤ x9_3 then (if x9_3 < (x0_1.length : Int) then (if (rd x0_1 x8_3) ≤ (rd x0_1 x9_3) then (if x4_3.length < 17592186044416 then (r02_merged.l2 kj10 x0_1 x3_1 (x4_3 ++ [rd x0_1 x8_3]) x5_2 t262 t263 (wrap64 (x8_3 + 1)) x9_3) else (none)) else (if x4_3.length < 17592186044416 then (r02_merged.l2 kj10 x0_1 x3_1 (x4_3 ++ [rd x0_1 x9_3]) x5_2 t262 t263 x8_3 (wrap64 (x9_3 + 1))) else (none))) else (none)) else (none)) else (none)) else (none)) else (if 0 ≤ x9_3 then (if x9_3 < (x0_1.length : Int) then (if x4_3.length < 17592186044416 then (r02_merged.l2 kj10 x0_1 x3_1 (x4_3 ++ [rd x0_1 x9_3]) x5_2 t262 t263 x8_3 (wrap64 (x9_3 + 1))) else (none)) else (none)) else (none)))) = some r := by rw [if_pos rfl] at H; exact H
         rcases x_ie H with ⟨c14b0, c14b1, H⟩ | ⟨c14, c14b0, c14b1, H⟩
         ·by_cases c15 : 0 ≤ x8_3
          ·rw [if_pos c15] at H
           have c15b0 := decide_eq_true c15
           clear c15
           obtain ⟨c16b0, H⟩ := x_gd H
           obtain ⟨c17, H⟩ := x_gp H
           have LMc17 := x_m c17
           clear c17
           obtain ⟨y265, hy265⟩ : ∃ y_ : List Int, y_ = (x4_3 ++ [rd x0_1 x8_3]) := ⟨_, rfl⟩
           replace H : (r02_merged.l2 kj10 x0_1 x3_1 y265 x5_2 t262 t263 (wrap64 (x8_3 + 1)) x9_3) = some r := x_hh hy265 H
           have Ny265 := x_m hy265
           clear hy265
           have H' := x_m H
           clear H
           have p264 : 0 ≤ (x8_3 : Int) := x_da
           have q264 : x8_3 < (x0_1.length : Int) := x_da
           obtain ⟨ad264, e264, hx264_0⟩ := Kd.at_int (Kd.V_reads' HO_0.out).2.2 x8_3 p264 q264
           cases e264
           replace p264 := eq_true p264
           replace q264 := eq_true q264
           go_wp2_with (first | ((with_reducible refine gate_builtin (b := .append) (xs := #[.tmp 69, .tmp 74]) rfl ?_); at_builtin; refine Kd.R_append (Kd.int .i64) (w0 := w) w.heap.size rfl (.tmp 69) (.tmp 74) 72 3 (.int .i64 0) 8 rfl Tryd.underlying72 info3 rfl (by decide) (by omega) u4 x4_3 (rd x0_1 x8_3) [.int .i64 (rd x0_1 x8_3)] (fun k_ => (w.heap.size ≤ k_)) (fun _ => False) rfl rfl ?aP (fun _ hk => hk.elim) ?aF ?aO ?aB ?aS ?aL ?_; (case aP => exact rfl); (case aB => exact x_bel); (case aF => exact (fun k_ hk => (Nat.le_trans (below_size x_bel) hk))); (case aO => exact (x_rr HO_4.out)); (case aS => exact (below_size x_bel)); (case aL => have := LMc17.out; omega); intro v266 w18 ho hb hg hat; rw [← Ny265.out] at ho; replace HO_0 := x_m (Kd.V_afterv (ok := (fun k_ => (P0_ k_ ∨ w.heap.size ≤ k_))) (x_vv HO_0.out) hg hat); replace HB := x_m (hb); have HO267 := x_m (ho); clear HO_4; clear ho hb hg hat))
           repeat (go_quiet (first | ((with_reducible refine gate_builtin (b := .append) (xs := #[.tmp 69, .tmp 74]) rfl ?_); at_builtin; refine Kd.R_append (Kd.int .i64) (w0 := w) w.heap.size rfl (.tmp 69) (.tmp 74) 72 3 (.int .i64 0) 8 rfl Tryd.underlying72 info3 rfl (by decide) (by omega) u4 x4_3 (rd x0_1 x8_3) [.int .i64 (rd x0_1 x8_3)] (fun k_ => (w.heap.size ≤ k_)) (fun _ => False) rfl rfl ?aP (fun _ hk => hk.elim) ?aF ?aO ?aB ?aS ?aL ?_; (case aP => exact rfl); (case aB => exact x_bel); (case aF => exact (fun k_ hk => (Nat.le_trans (below_size x_bel) hk))); (case aO => exact (x_rr HO_4.out)); (case aS => exact (below_size x_bel)); (case aL => have := LMc17.out; omega); intro v266 w18 ho hb hg hat; rw [← Ny265.out] at ho; replace HO_0 := x_m (Kd.V_afterv (ok := (fun k_ => (P0_ k_ ∨ w.heap.size ≤ k_))) (x_vv HO_0.out) hg hat); replace HB := x_m (hb); have HO267 := x_m (ho); clear HO_4; clear ho hb hg hat)); try go_wp2_with (first | ((with_reducible refine gate_builtin (b := .append) (xs := #[.tmp 69, .tmp 74]) rfl ?_); at_builtin; refine Kd.R_append (Kd.int .i64) (w0 := w) w.heap.size rfl (.tmp 69) (.tmp 74) 72 3 (.int .i64 0) 8 rfl Tryd.underlying72 info3 rfl (by decide) (by omega) u4 x4_3 (rd x0_1 x8_3) [.int .i64 (rd x0_1 x8_3)] (fun k_ => (w.heap.size ≤ k_)) (fun _ => False) rfl rfl ?aP (fun _ hk => hk.elim) ?aF ?aO ?aB ?aS ?aL ?_; (case aP => exact rfl); (case aB => exact x_bel); (case aF => exact (fun k_ hk => (Nat.le_trans (below_size x_bel) hk))); (case aO => exact (x_rr HO_4.out)); (case aS => exact (below_size x_bel)); (case aL => have := LMc17.out; omega); intro v266 w18 ho hb hg hat; rw [← Ny265.out] at ho; replace HO_0 := x_m (Kd.V_afterv (ok := (fun k_ => (P0_ k_ ∨ w.heap.size ≤ k_))) (x_vv HO_0.out) hg hat); replace HB := x_m (hb); have HO267 := x_m (ho); clear HO_4; clear ho hb hg hat)))
           go_roundg kj10
           case measure => have := HK1.out; have := HK2.out; have := HK3.out; have := HJ10.out; omega
           case rel => exact ⟨(y265), (wrap64 (x8_3 + 1)), (x9_3), x_eqs, x_eqs, H', ⟨by have := HK1.out; have := HK2.out; have := HK3.out; have := HJ10.out; omega⟩, ⟨by (with_reducible repeat (first | apply Kd.V_alloc | apply Kd.V_drewN | apply Kd.V_drew)); exact HO_0.out⟩, ⟨x_rr HO267.out⟩, ⟨x_bel⟩⟩
          rw [if_neg c15] at H
          exact absurd H (by simp)
         rcases x_fi H with ⟨c19b0, H⟩ | ⟨c19b0, H⟩
         ·by_cases c29 : 0 ≤ x9_3
          ·rw [if_pos c29] at H
           have c29b0 := decide_eq_true c29
           clear c29
           obtain ⟨c30b0, H⟩ := x_gd H
           obtain ⟨c31, H⟩ := x_gp H
           have LMc31 := x_m c31
           clear c31
           obtain ⟨y279, hy279⟩ : ∃ y_ : List Int, y_ = (x4_3 ++ [rd x0_1 x9_3]) := ⟨_, rfl⟩
           replace H : (r02_merged.l2 kj10 x0_1 x3_1 y279 x5_2 t262 t263 x8_3 (wrap64 (x9_3 + 1))) = some r := x_hh hy279 H
           have Ny279 := x_m hy279
           clear hy279
           have H' := x_m H
           clear H
           have p278 : 0 ≤ (x9_3 : Int) := x_da
           have q278 : x9_3 < (x0_1.length : Int) := x_da
           obtain ⟨ad278, e278, hx278_0⟩ := Kd.at_int (Kd.V_reads' HO_0.out).2.2 x9_3 p278 q278
           cases e278
           replace p278 := eq_true p278
           replace q278 := eq_true q278
           go_wp2_with (first | ((with_reducible refine gate_builtin (b := .append) (xs := #[.tmp 78, .tmp 83]) rfl ?_); at_builtin; refine Kd.R_append (Kd.int .i64) (w0 := w) w.heap.size rfl (.tmp 78) (.tmp 83) 72 3 (.int .i64 0) 8 rfl Tryd.underlying72 info3 rfl (by decide) (by omega) u4 x4_3 (rd x0_1 x9_3) [.int .i64 (rd x0_1 x9_3)] (fun k_ => (w.heap.size ≤ k_)) (fun _ => False) rfl rfl ?aP (fun _ hk => hk.elim) ?aF ?aO ?aB ?aS ?aL ?_; (case aP => exact rfl); (case aB => exact x_bel); (case aF => exact (fun k_ hk => (Nat.le_trans (below_size x_bel) hk))); (case aO => exact (x_rr HO_4.out)); (case aS => exact (below_size x_bel)); (case aL => have := LMc31.out; omega); intro v280 w32 ho hb hg hat; rw [← Ny279.out] at ho; replace HO_0 := x_m (Kd.V_afterv (ok := (fun k_ => (P0_ k_ ∨ w.heap.size ≤ k_))) (x_vv HO_0.out) hg hat); replace HB := x_m (hb); have HO281 := x_m (ho); clear HO_4; clear ho hb hg hat))
           repeat (go_quiet (first | ((with_reducible refine gate_builtin (b := .append) (xs := #[.tmp 78, .tmp 83]) rfl ?_); at_builtin; refine Kd.R_append (Kd.int .i64) (w0 := w) w.heap.size rfl (.tmp 78) (.tmp 83) 72 3 (.int .i64 0) 8 rfl Tryd.underlying72 info3 rfl (by decide) (by omega) u4 x4_3 (rd x0_1 x9_3) [.int .i64 (rd x0_1 x9_3)] (fun k_ => (w.heap.size ≤ k_)) (fun _ => False) rfl rfl ?aP (fun _ hk => hk.elim) ?aF ?aO ?aB ?aS ?aL ?_; (case aP => exact rfl); (case aB => exact x_bel); (case aF => exact (fun k_ hk => (Nat.le_trans (below_size x_bel) hk))); (case aO => exact (x_rr HO_4.out)); (case aS => exact (below_size x_bel)); (case aL => have := LMc31.out; omega); intro v280 w32 ho hb hg hat; rw [← Ny279.out] at ho; replace HO_0 := x_m (Kd.V_afterv (ok := (fun k_ => (P0_ k_ ∨ w.heap.size ≤ k_))) (x_vv HO_0.out) hg hat); replace HB := x_m (hb); have HO281 := x_m (ho); clear HO_4; clear ho hb hg hat)); try go_wp2_with (first | ((with_reducible refine gate_builtin (b := .append) (xs := #[.tmp 78, .tmp 83]) rfl ?_); at_builtin; refine Kd.R_append (Kd.int .i64) (w0 := w) w.heap.size rfl (.tmp 78) (.tmp 83) 72 3 (.int .i64 0) 8 rfl Tryd.underlying72 info3 rfl (by decide) (by omega) u4 x4_3 (rd x0_1 x9_3) [.int .i64 (rd x0_1 x9_3)] (fun k_ => (w.heap.size ≤ k_)) (fun _ => False) rfl rfl ?aP (fun _ hk => hk.elim) ?aF ?aO ?aB ?aS ?aL ?_; (case aP => exact rfl); (case aB => exact x_bel); (case aF => exact (fun k_ hk => (Nat.le_trans (below_size x_bel) hk))); (case aO => exact (x_rr HO_4.out)); (case aS => exact (below_size x_bel)); (case aL => have := LMc31.out; omega); intro v280 w32 ho hb hg hat; rw [← Ny279.out] at ho; replace HO_0 := x_m (Kd.V_afterv (ok := (fun k_ => (P0_ k_ ∨ w.heap.size ≤ k_))) (x_vv HO_0.out) hg hat); replace HB := x_m (hb); have HO281 := x_m (ho); clear HO_4; clear ho hb hg hat)))
           go_roundg kj10
           case measure => have := HK1.out; have := HK2.out; have := HK3.out; have := HJ10.out; omega
           case rel => exact ⟨(y279), (x8_3), (wrap64 (x9_3 + 1)), x_eqs, x_eqs, H', ⟨by have := HK1.out; have := HK2.out; have := HK3.out; have := HJ10.out; omega⟩, ⟨by (with_reducible repeat (first | apply Kd.V_alloc | apply Kd.V_drewN | apply Kd.V_drew)); exact HO_0.out⟩, ⟨x_rr HO281.out⟩, ⟨x_bel⟩⟩
          rw [if_neg c29] at H
          exact absurd H (by simp)
         obtain ⟨c20b0, H⟩ := x_gd H
         obtain ⟨c21b0, H⟩ := x_gd H
         obtain ⟨c22b0, H⟩ := x_gd H
         obtain ⟨c23b0, H⟩ := x_gd H
         rcases x_if H with ⟨c24b0, H⟩ | ⟨c24b0, H⟩
         ·by_cases c25 : x4_3.length < 17592186044416
          ·rw [if_pos c25] at H
           have LMc25 := x_m c25
           clear c25
           obtain ⟨y271, hy271⟩ : ∃ y_ : List Int, y_ = (x4_3 ++ [rd x0_1 x8_3]) := ⟨_, rfl⟩
           replace H : (r02_merged.l2 kj10 x0_1 x3_1 y271 x5_2 t262 t263 (wrap64 (x8_3 + 1)) x9_3) = some r := x_hh hy271 H
           have Ny271 := x_m hy271
           clear hy271
           have H' := x_m H
           clear H
           have p268 : 0 ≤ (x8_3 : Int) := x_da
           have q268 : x8_3 < (x0_1.length : Int) := x_da
           obtain ⟨ad268, e268, hx268_0⟩ := Kd.at_int (Kd.V_reads' HO_0.out).2.2 x8_3 p268 q268
           cases e268
           replace p268 := eq_true p268
           replace q268 := eq_true q268
           have p269 : 0 ≤ (x9_3 : Int) := x_da
           have q269 : x9_3 < (x0_1.length : Int) := x_da
           obtain ⟨ad269, e269, hx269_0⟩ := Kd.at_int (Kd.V_reads' HO_0.out).2.2 x9_3 p269 q269
           obtain rfl : ad268 = ad269 := (by injection e269)
           replace p269 := eq_true p269
           replace q269 := eq_true q269
           have p270 : 0 ≤ (x8_3 : Int) := x_da
           have q270 : x8_3 < (x0_1.length : Int) := x_da
           obtain ⟨ad270, e270, hx270_0⟩ := Kd.at_int (Kd.V_reads' HO_0.out).2.2 x8_3 p270 q270
           obtain rfl : ad268 = ad270 := (by injection e270)
           replace p270 := eq_true p270
           replace q270 := eq_true q270
           go_wp2_with (first | ((with_reducible refine gate_builtin (b := .append) (xs := #[.tmp 69, .tmp 74]) rfl ?_); at_builtin; refine Kd.R_append (Kd.int .i64) (w0 := w) w.heap.size rfl (.tmp 69) (.tmp 74) 72 3 (.int .i64 0) 8 rfl Tryd.underlying72 info3 rfl (by decide) (by omega) u4 x4_3 (rd x0_1 x8_3) [.int .i64 (rd x0_1 x8_3)] (fun k_ => (w.heap.size ≤ k_)) (fun _ => False) rfl rfl ?aP (fun _ hk => hk.elim) ?aF ?aO ?aB ?aS ?aL ?_; (case aP => exact rfl); (case aB => exact x_bel); (case aF => exact (fun k_ hk => (Nat.le_trans (below_size x_bel) hk))); (case aO => exact (x_rr HO_4.out)); (case aS => exact (below_size x_bel)); (case aL => have := LMc25.out; omega); intro v272 w26 ho hb hg hat; rw [← Ny271.out] at ho; replace HO_0 := x_m (Kd.V_afterv (ok := (fun k_ => (P0_ k_ ∨ w.heap.size ≤ k_))) (x_vv HO_0.out) hg hat); replace HB := x_m (hb); have HO273 := x_m (ho); clear HO_4; clear ho hb hg hat))
           repeat (go_quiet (first | ((with_reducible refine gate_builtin (b := .append) (xs := #[.tmp 69, .tmp 74]) rfl ?_); at_builtin; refine Kd.R_append (Kd.int .i64) (w0 := w) w.heap.size rfl (.tmp 69) (.tmp 74) 72 3 (.int .i64 0) 8 rfl Tryd.underlying72 info3 rfl (by decide) (by omega) u4 x4_3 (rd x0_1 x8_3) [.int .i64 (rd x0_1 x8_3)] (fun k_ => (w.heap.size ≤ k_)) (fun _ => False) rfl rfl ?aP (fun _ hk => hk.elim) ?aF ?aO ?aB ?aS ?aL ?_; (case aP => exact rfl); (case aB => exact x_bel); (case aF => exact (fun k_ hk => (Nat.le_trans (below_size x_bel) hk))); (case aO => exact (x_rr HO_4.out)); (case aS => exact (below_size x_bel)); (case aL => have := LMc25.out; omega); intro v272 w26 ho hb hg hat; rw [← Ny271.out] at ho; replace HO_0 := x_m (Kd.V_afterv (ok := (fun k_ => (P0_ k_ ∨ w.heap.size ≤ k_))) (x_vv HO_0.out) hg hat); replace HB := x_m (hb); have HO273 := x_m (ho); clear HO_4; clear ho hb hg hat)); try go_wp2_with (first | ((with_reducible refine gate_builtin (b := .append) (xs := #[.tmp 69, .tmp 74]) rfl ?_); at_builtin; refine Kd.R_append (Kd.int .i64) (w0 := w) w.heap.size rfl (.tmp 69) (.tmp 74) 72 3 (.int .i64 0) 8 rfl Tryd.underlying72 info3 rfl (by decide) (by omega) u4 x4_3 (rd x0_1 x8_3) [.int .i64 (rd x0_1 x8_3)] (fun k_ => (w.heap.size ≤ k_)) (fun _ => False) rfl rfl ?aP (fun _ hk => hk.elim) ?aF ?aO ?aB ?aS ?aL ?_; (case aP => exact rfl); (case aB => exact x_bel); (case aF => exact (fun k_ hk => (Nat.le_trans (below_size x_bel) hk))); (case aO => exact (x_rr HO_4.out)); (case aS => exact (below_size x_bel)); (case aL => have := LMc25.out; omega); intro v272 w26 ho hb hg hat; rw [← Ny271.out] at ho; replace HO_0 := x_m (Kd.V_afterv (ok := (fun k_ => (P0_ k_ ∨ w.heap.size ≤ k_))) (x_vv HO_0.out) hg hat); replace HB := x_m (hb); have HO273 := x_m (ho); clear HO_4; clear ho hb hg hat)))
           go_roundg kj10
           case measure => have := HK1.out; have := HK2.out; have := HK3.out; have := HJ10.out; omega
           case rel => exact ⟨(y271), (wrap64 (x8_3 + 1)), (x9_3), x_eqs, x_eqs, H', ⟨by have := HK1.out; have := HK2.out; have := HK3.out; have := HJ10.out; omega⟩, ⟨by (with_reducible repeat (first | apply Kd.V_alloc | apply Kd.V_drewN | apply Kd.V_drew)); exact HO_0.out⟩, ⟨x_rr HO273.out⟩, ⟨x_bel⟩⟩
          rw [if_neg c25] at H
          exact absurd H (by simp)
         obtain ⟨c27, H⟩ := x_gp H
         have LMc27 := x_m c27
         clear c27
         obtain ⟨y275, hy275⟩ : ∃ y_ : List Int, y_ = (x4_3 ++ [rd x0_1 x9_3]) := ⟨_, rfl⟩
         replace H : (r02_merged.l2 kj10 x0_1 x3_1 y275 x5_2 t262 t263 x8_3 (wrap64 (x9_3 + 1))) = some r := x_hh hy275 H
         have Ny275 := x_m hy275
         clear hy275
         have H' := x_m H
         clear H
         have p268 : 0 ≤ (x8_3 : Int) := x_da
         have q268 : x8_3 < (x0_1.length : Int) := x_da
         obtain ⟨ad268, e268, hx268_0⟩ := Kd.at_int (Kd.V_reads' HO_0.out).2.2 x8_3 p268 q268
         cases e268
         replace p268 := eq_true p268
         replace q268 := eq_true q268
         have p269 : 0 ≤ (x9_3 : Int) := x_da
         have q269 : x9_3 < (x0_1.length : Int) := x_da
         obtain ⟨ad269, e269, hx269_0⟩ := Kd.at_int (Kd.V_reads' HO_0.out).2.2 x9_3 p269 q269
         obtain rfl : ad268 = ad269 := (by injection e269)
         replace p269 := eq_true p269
         replace q269 := eq_true q269
         have p274 : 0 ≤ (x9_3 : Int) := x_da
         have q274 : x9_3 < (x0_1.length : Int) := x_da
         obtain ⟨ad274, e274, hx274_0⟩ := Kd.at_int (Kd.V_reads' HO_0.out).2.2 x9_3 p274 q274
         obtain rfl : ad268 = ad274 := (by injection e274)
         replace p274 := eq_true p274
         replace q274 := eq_true q274
         go_wp2_with (first | ((with_reducible refine gate_builtin (b := .append) (xs := #[.tmp 78, .tmp 83]) rfl ?_); at_builtin; refine Kd.R_append (Kd.int .i64) (w0 := w) w.heap.size rfl (.tmp 78) (.tmp 83) 72 3 (.int .i64 0) 8 rfl Tryd.underlying72 info3 rfl (by decide) (by omega) u4 x4_3 (rd x0_1 x9_3) [.int .i64 (rd x0_1 x9_3)] (fun k_ => (w.heap.size ≤ k_)) (fun _ => False) rfl rfl ?aP (fun _ hk => hk.elim) ?aF ?aO ?aB ?aS ?aL ?_; (case aP => exact rfl); (case aB => exact x_bel); (case aF => exact (fun k_ hk => (Nat.le_trans (below_size x_bel) hk))); (case aO => exact (x_rr HO_4.out)); (case aS => exact (below_size x_bel)); (case aL => have := LMc27.out; omega); intro v276 w28 ho hb hg hat; rw [← Ny275.out] at ho; replace HO_0 := x_m (Kd.V_afterv (ok := (fun k_ => (P0_ k_ ∨ w.heap.size ≤ k_))) (x_vv HO_0.out) hg hat); replace HB := x_m (hb); have HO277 := x_m (ho); clear HO_4; clear ho hb hg hat))
         repeat (go_quiet (first | ((with_reducible refine gate_builtin (b := .append) (xs := #[.tmp 78, .tmp 83]) rfl ?_); at_builtin; refine Kd.R_append (Kd.int .i64) (w0 := w) w.heap.size rfl (.tmp 78) (.tmp 83) 72 3 (.int .i64 0) 8 rfl Tryd.underlying72 info3 rfl (by decide) (by omega) u4 x4_3 (rd x0_1 x9_3) [.int .i64 (rd x0_1 x9_3)] (fun k_ => (w.heap.size ≤ k_)) (fun _ => False) rfl rfl ?aP (fun _ hk => hk.elim) ?aF ?aO ?aB ?aS ?aL ?_; (case aP => exact rfl); (case aB => exact x_bel); (case aF => exact (fun k_ hk => (Nat.le_trans (below_size x_bel) hk))); (case aO => exact (x_rr HO_4.out)); (case aS => exact (below_size x_bel)); (case aL => have := LMc27.out; omega); intro v276 w28 ho hb hg hat; rw [← Ny275.out] at ho; replace HO_0 := x_m (Kd.V_afterv (ok := (fun k_ => (P0_ k_ ∨ w.heap.size ≤ k_))) (x_vv HO_0.out) hg hat); replace HB := x_m (hb); have HO277 := x_m (ho); clear HO_4; clear ho hb hg hat)); try go_wp2_with (first | ((with_reducible refine gate_builtin (b := .append) (xs := #[.tmp 78, .tmp 83]) rfl ?_); at_builtin; refine Kd.R_append (Kd.int .i64) (w0 := w) w.heap.size rfl (.tmp 78) (.tmp 83) 72 3 (.int .i64 0) 8 rfl Tryd.underlying72 info3 rfl (by decide) (by omega) u4 x4_3 (rd x0_1 x9_3) [.int .i64 (rd x0_1 x9_3)] (fun k_ => (w.heap.size ≤ k_)) (fun _ => False) rfl rfl ?aP (fun _ hk => hk.elim) ?aF ?aO ?aB ?aS ?aL ?_; (case aP => exact rfl); (case aB => exact x_bel); (case aF => exact (fun k_ hk => (Nat.le_trans (below_size x_bel) hk))); (case aO => exact (x_rr HO_4.out)); (case aS => exact (below_size x_bel)); (case aL => have := LMc27.out; omega); intro v276 w28 ho hb hg hat; rw [← Ny275.out] at ho; replace HO_0 := x_m (Kd.V_afterv (ok := (fun k_ => (P0_ k_ ∨ w.heap.size ≤ k_))) (x_vv HO_0.out) hg hat); replace HB := x_m (hb); have HO277 := x_m (ho); clear HO_4; clear ho hb hg hat)))
         go_roundg kj10
         case measure => have := HK1.out; have := HK2.out; have := HK3.out; have := HJ10.out; omega
         case rel => exact ⟨(y275), (x8_3), (wrap64 (x9_3 + 1)), x_eqs, x_eqs, H', ⟨by have := HK1.out; have := HK2.out; have := HK3.out; have := HJ10.out; omega⟩, ⟨by (with_reducible repeat (first | apply Kd.V_alloc | apply Kd.V_drewN | apply Kd.V_drew)); exact HO_0.out⟩, ⟨x_rr HO277.out⟩, ⟨x_bel⟩⟩
def r02_sorted.l0 : Nat → List Int → List Int → Int → Option (List Int)
 | 0, _, _, _ => none
 | k + 1, x0, x3, x4 => if x4 < (x0.length : Int) then (if x4 = 0 then (if 0 ≤ x4 then (if x3.length < 17592186044416 then (r02_sorted.l0 k x0 (x3 ++ [rd x0 x4]) (wrap64 (x4 + 1))) else (none)) else (none)) else (if 0 ≤ x4 then (if 0 ≤ (wrap64 (x4 - 1)) then (if (wrap64 (x4 - 1)) < (x0.length : Int) then (if (rd x0 x4) = (rd x0 (wrap64 (x4 - 1))) then (r02_sorted.l0 k x0 x3 (wrap64 (x4 + 1))) else (if x3.length < 17592186044416 then (r02_sorted.l0 k x0 (x3 ++ [rd x0 x4]) (wrap64 (x4 + 1))) else (none))) else (none)) else (none)) else (none))) else (some x3)
def r02_sorted.f (k : Nat) (l0 : List Int) : Option (List Int) := (r02_merged.f k l0).bind fun t282 => (r02_sorted.l0 k t282 ([] : List Int) 0)
theorem r02_sorted.calls (k : Nat) (A0 : Option Addr) (c0 : Nat) (l0 : List Int) (r : List Int) (w : World) (hr0 : Kd.C (Kd.int .i64) w A0 l0.length l0) (hc0 : l0.length ≤ c0) (h : r02_sorted.f k l0 = some r) :
  Calls Tryd.prog 69 #[.slice A0 l0.length c0] w fun e w' => ∃ v0_ : Value, e = .returned (v0_) ∧ Kd.R (Kd.int .i64) 3 w' w.heap.size (fun _ => True) v0_ r ∧ Below w.heap.size w w' := by
 have HR0 := x_m hr0
 have HC0 := x_m hc0
 clear hr0 hc0
 have HB := x_m (Below.refl w.heap.size w)
 have H : ((r02_merged.f k l0).bind fun t282 => (r02_sorted.l0 k t282 ([] : List Int) 0)) = some r := h
 clear h
 replace H := x_bi H
 obtain ⟨t282, A20, H⟩ := H
 have A2 := x_m A20
 clear A20
 have H' := x_m H
 clear H
 go_enter Tryd.func69, Tryd.ntmps69
 go_wp2_with (first | (go_at_call 70; (with_reducible refine (r02_merged.calls k (fun k_ => k_ < w.heap.size) _ _ l0 t282 _ ?side1 A2.out).mono ?_); (case side1 => exact Kd.V_mk HC0.out (Kd.F_below (Kd.C_F (Kd.heap_int .i64) HR0.out) x_bel)); rintro e w3 ⟨v283, rfl, ho0, hb⟩; have HO284 := x_m (Kd.V_lower (Kd.V_mono (ok' := fun k_ => True) ho0 (fun k_ hk_ => trivial)) (below_size x_bel)); replace HB := x_m (below_step x_bel hb); (try clear hb); (try clear hb2); (try clear hk); (try clear hi); (try clear ho0)))
 go_loopg [3, 4] k (fun kq v3 v4 w' => ∃ (x3_1 : List Int) (x4_1 : Int), v4 = .int .i64 x4_1 ∧ Aside0 (r02_sorted.l0 kq t282 x3_1 x4_1 = some r) ∧ Aside0 (kq ≤ k) ∧ Aside0 (Kd.V (Kd.int .i64) 3 w' w.heap.size (fun k_ => some k_ ≠ (v3 : Value).ownBlock) v283 t282) ∧ Aside0 (Kd.R (Kd.int .i64) 3 w' w.heap.size (fun _ => True) v3 x3_1) ∧ Aside0 (Below w.heap.size w w'))
 case atStart => exact ⟨(([] : List Int)), (0), x_eqs, H', ⟨Nat.le_refl _⟩, ⟨by (with_reducible repeat (first | apply Kd.V_alloc | apply Kd.V_drewN | apply Kd.V_drew)); exact Kd.V_mono HO284.out (fun _ hk => (by simp [Value.ownBlock]))⟩, ⟨by first | exact Kd.R_nil _ _ _ _ _ | exact Kd.N_nil _ _ _ _ _ | exact Kd.V_nil _ _ _ _ _ | exact Kd.Q_nil _ _ _ _ _ | exact Kd.S_nil _ _ _ _ _⟩, ⟨x_bel⟩⟩
 case round =>
  clear H'
  obtain ⟨x3_1, x4_1, rfl, HA, HK1, HO_0, HO_3, HB⟩ := hrel
  cases gk with
  | zero => exact absurd HA.out (by simp [r02_sorted.l0])
  | succ k1 =>
   have H := HA.out
   clear HA
   simp only [r02_sorted.l0] at H
   rcases x_fi H with ⟨c4b0, H⟩ | ⟨c4b0, H⟩
   ·obtain rfl := Option.some.inj H
    obtain ⟨Ao19, co19, eo19⟩ := Kd.V_slice HO_0.out
    subst eo19
    go_wp2
    repeat (go_quiet (fail); try go_wp2)
    go_ret
    exact ⟨_, by first | rfl | (simp [errW_none, errW_some] <;> rfl) | (simp [*, errW_none, errW_some] <;> rfl), by (with_reducible repeat (first | apply Kd.R_alloc | apply Kd.R_drewN | apply Kd.R_drew)); exact HO_3.out, x_bel⟩

   rcases x_ie H with ⟨c5b0, c5b1, H⟩ | ⟨c5, c5b0, c5b1, H⟩
   ·by_cases c6 : 0 ≤ x4_1
    ·rw [if_pos c6] at H
     have c6b0 := decide_eq_true c6
     clear c6
     obtain ⟨c7, H⟩ := x_gp H
     have LMc7 := x_m c7
     clear c7
     obtain ⟨y286, hy286⟩ : ∃ y_ : List Int, y_ = (x3_1 ++ [rd t282 x4_1]) := ⟨_, rfl⟩
     replace H : (r02_sorted.l0 k1 t282 y286 (wrap64 (x4_1 + 1))) = some r := x_hh hy286 H
     have Ny286 := x_m hy286
     clear hy286
     have H' := x_m H
     clear H
     obtain ⟨Ao8, co8, eo8⟩ := Kd.V_slice HO_0.out
     subst eo8
     have p285 : 0 ≤ (x4_1 : Int) := x_da
     have q285 : x4_1 < (t282.length : Int) := x_da
     obtain ⟨ad285, e285, hx285_0⟩ := Kd.at_int (Kd.V_reads' HO_0.out).2.2 x4_1 p285 q285
     cases e285
     replace p285 := eq_true p285
     replace q285 := eq_true q285
     go_wp2_with (first | ((with_reducible refine gate_builtin (b := .append) (xs := #[.tmp 27, .tmp 32]) rfl ?_); at_builtin; refine Kd.R_append (Kd.int .i64) (w0 := w) w.heap.size rfl (.tmp 27) (.tmp 32) 72 3 (.int .i64 0) 8 rfl Tryd.underlying72 info3 rfl (by decide) (by omega) u3 x3_1 (rd t282 x4_1) [.int .i64 (rd t282 x4_1)] (fun _ => True) (fun _ => False) rfl rfl ?aP (fun _ hk => hk.elim) ?aF ?aO ?aB ?aS ?aL ?_; (case aP => exact rfl); (case aB => exact x_bel); (case aF => exact (fun _ _ => trivial)); (case aO => exact (x_rr HO_3.out)); (case aS => exact (below_size x_bel)); (case aL => have := LMc7.out; omega); intro v287 w9 ho hb hg hat; rw [← Ny286.out] at ho; replace HO_0 := x_m (Kd.V_afterv (ok := (fun _ => True)) (by (with_reducible repeat (first | apply Kd.V_alloc | apply Kd.V_drewN | apply Kd.V_drew)); exact Kd.V_mono HO_0.out (fun _ hk => ⟨trivial, hk⟩)) hg hat); replace HB := x_m (hb); have HO288 := x_m (ho); clear HO_3; clear ho hb hg hat))
     repeat (go_quiet (first | ((with_reducible refine gate_builtin (b := .append) (xs := #[.tmp 27, .tmp 32]) rfl ?_); at_builtin; refine Kd.R_append (Kd.int .i64) (w0 := w) w.heap.size rfl (.tmp 27) (.tmp 32) 72 3 (.int .i64 0) 8 rfl Tryd.underlying72 info3 rfl (by decide) (by omega) u3 x3_1 (rd t282 x4_1) [.int .i64 (rd t282 x4_1)] (fun _ => True) (fun _ => False) rfl rfl ?aP (fun _ hk => hk.elim) ?aF ?aO ?aB ?aS ?aL ?_; (case aP => exact rfl); (case aB => exact x_bel); (case aF => exact (fun _ _ => trivial)); (case aO => exact (x_rr HO_3.out)); (case aS => exact (below_size x_bel)); (case aL => have := LMc7.out; omega); intro v287 w9 ho hb hg hat; rw [← Ny286.out] at ho; replace HO_0 := x_m (Kd.V_afterv (ok := (fun _ => True)) (by (with_reducible repeat (first | apply Kd.V_alloc | apply Kd.V_drewN | apply Kd.V_drew)); exact Kd.V_mono HO_0.out (fun _ hk => ⟨trivial, hk⟩)) hg hat); replace HB := x_m (hb); have HO288 := x_m (ho); clear HO_3; clear ho hb hg hat)); try go_wp2_with (first | ((with_reducible refine gate_builtin (b := .append) (xs := #[.tmp 27, .tmp 32]) rfl ?_); at_builtin; refine Kd.R_append (Kd.int .i64) (w0 := w) w.heap.size rfl (.tmp 27) (.tmp 32) 72 3 (.int .i64 0) 8 rfl Tryd.underlying72 info3 rfl (by decide) (by omega) u3 x3_1 (rd t282 x4_1) [.int .i64 (rd t282 x4_1)] (fun _ => True) (fun _ => False) rfl rfl ?aP (fun _ hk => hk.elim) ?aF ?aO ?aB ?aS ?aL ?_; (case aP => exact rfl); (case aB => exact x_bel); (case aF => exact (fun _ _ => trivial)); (case aO => exact (x_rr HO_3.out)); (case aS => exact (below_size x_bel)); (case aL => have := LMc7.out; omega); intro v287 w9 ho hb hg hat; rw [← Ny286.out] at ho; replace HO_0 := x_m (Kd.V_afterv (ok := (fun _ => True)) (by (with_reducible repeat (first | apply Kd.V_alloc | apply Kd.V_drewN | apply Kd.V_drew)); exact Kd.V_mono HO_0.out (fun _ hk => ⟨trivial, hk⟩)) hg hat); replace HB := x_m (hb); have HO288 := x_m (ho); clear HO_3; clear ho hb hg hat)))
     go_roundg k1
     case measure => have := HK1.out; omega
     case rel => exact ⟨(y286), (wrap64 (x4_1 + 1)), x_eqs, H', ⟨by have := HK1.out; omega⟩, ⟨by (with_reducible repeat (first | apply Kd.V_alloc | apply Kd.V_drewN | apply Kd.V_drew)); exact Kd.V_mono HO_0.out (fun _ hk => hk.2)⟩, ⟨x_rr HO288.out⟩, ⟨x_bel⟩⟩
    rw [if_neg c6] at H
    exact absurd H (by simp)
   obtain ⟨c10b0, H⟩ := x_gd H
   obtain ⟨ji11, hji11⟩ : ∃ j_ : Int, (wrap64 (x4_1 - 1)) = j_ := ⟨_, rfl⟩
   replace H : (if 0 ≤ (ji11) then (if (ji11) < (t282.length : Int) then (if (rd t282 x4_1) = (rd t282 (ji11)) then (r02_sorted.l0 k1 t282 x3_1 (wrap64 (x4_1 + 1))) else (if x3_1.length < 17592186044416 then (r02_sorted.l0 k1 t282 (x3_1 ++ [rd t282 x4_1]) (wrap64 (x4_1 + 1))) else (none))) else (none)) else (none)) = some r := by first | (rw [hji11] at H; exact H) | (simp only [hji11] at H ⊢; exact H)
   have hji11w : (IntKind.i64.wrap (x4_1 - 1)) = ji11 := (i64_w _).trans hji11
   obtain ⟨c12b0, H⟩ := x_gd H
   obtain ⟨c13b0, H⟩ := x_gd H
   rcases x_ie H with ⟨c14b0, c14b1, H⟩ | ⟨c14, c14b0, c14b1, H⟩
   ·have H' := x_m H
    clear H
    obtain ⟨Ao15, co15, eo15⟩ := Kd.V_slice HO_0.out
    subst eo15
    have p289 : 0 ≤ (x4_1 : Int) := x_da
    have q289 : x4_1 < (t282.length : Int) := x_da
    obtain ⟨ad289, e289, hx289_0⟩ := Kd.at_int (Kd.V_reads' HO_0.out).2.2 x4_1 p289 q289
    cases e289
    replace p289 := eq_true p289
    replace q289 := eq_true q289
    have p290 : 0 ≤ ((ji11) : Int) := x_da
    have q290 : (ji11) < (t282.length : Int) := x_da
    obtain ⟨ad290, e290, hx290_0⟩ := Kd.at_int (Kd.V_reads' HO_0.out).2.2 (ji11) p290 q290
    obtain rfl : ad289 = ad290 := (by injection e290)
    replace p290 := eq_true p290
    replace q290 := eq_true q290
    go_wp2
    repeat (go_quiet (fail); try go_wp2)
    go_roundg k1
    case measure => have := HK1.out; omega
    case rel => exact ⟨(x3_1), (wrap64 (x4_1 + 1)), x_eqs, H', ⟨by have := HK1.out; omega⟩, ⟨by (with_reducible repeat (first | apply Kd.V_alloc | apply Kd.V_drewN | apply Kd.V_drew)); exact HO_0.out⟩, ⟨x_rr HO_3.out⟩, ⟨x_bel⟩⟩
   obtain ⟨c16, H⟩ := x_gp H
   have LMc16 := x_m c16
   clear c16
   obtain ⟨y292, hy292⟩ : ∃ y_ : List Int, y_ = (x3_1 ++ [rd t282 x4_1]) := ⟨_, rfl⟩
   replace H : (r02_sorted.l0 k1 t282 y292 (wrap64 (x4_1 + 1))) = some r := x_hh hy292 H
   have Ny292 := x_m hy292
   clear hy292
   have H' := x_m H
   clear H
   obtain ⟨Ao17, co17, eo17⟩ := Kd.V_slice HO_0.out
   subst eo17
   have p289 : 0 ≤ (x4_1 : Int) := x_da
   have q289 : x4_1 < (t282.length : Int) := x_da
   obtain ⟨ad289, e289, hx289_0⟩ := Kd.at_int (Kd.V_reads' HO_0.out).2.2 x4_1 p289 q289
   cases e289
   replace p289 := eq_true p289
   replace q289 := eq_true q289
   have p290 : 0 ≤ ((ji11) : Int) := x_da
   have q290 : (ji11) < (t282.length : Int) := x_da
   obtain ⟨ad290, e290, hx290_0⟩ := Kd.at_int (Kd.V_reads' HO_0.out).2.2 (ji11) p290 q290
   obtain rfl : ad289 = ad290 := (by injection e290)
   replace p290 := eq_true p290
   replace q290 := eq_true q290
   have p291 : 0 ≤ (x4_1 : Int) := x_da
   have q291 : x4_1 < (t282.length : Int) := x_da
   obtain ⟨ad291, e291, hx291_0⟩ := Kd.at_int (Kd.V_reads' HO_0.out).2.2 x4_1 p291 q291
   obtain rfl : ad289 = ad291 := (by injection e291)
   replace p291 := eq_true p291
   replace q291 := eq_true q291
   go_wp2_with (first | ((with_reducible refine gate_builtin (b := .append) (xs := #[.tmp 27, .tmp 32]) rfl ?_); at_builtin; refine Kd.R_append (Kd.int .i64) (w0 := w) w.heap.size rfl (.tmp 27) (.tmp 32) 72 3 (.int .i64 0) 8 rfl Tryd.underlying72 info3 rfl (by decide) (by omega) u3 x3_1 (rd t282 x4_1) [.int .i64 (rd t282 x4_1)] (fun _ => True) (fun _ => False) rfl rfl ?aP (fun _ hk => hk.elim) ?aF ?aO ?aB ?aS ?aL ?_; (case aP => exact rfl); (case aB => exact x_bel); (case aF => exact (fun _ _ => trivial)); (case aO => exact (x_rr HO_3.out)); (case aS => exact (below_size x_bel)); (case aL => have := LMc16.out; omega); intro v293 w18 ho hb hg hat; rw [← Ny292.out] at ho; replace HO_0 := x_m (Kd.V_afterv (ok := (fun _ => True)) (by (with_reducible repeat (first | apply Kd.V_alloc | apply Kd.V_drewN | apply Kd.V_drew)); exact Kd.V_mono HO_0.out (fun _ hk => ⟨trivial, hk⟩)) hg hat); replace HB := x_m (hb); have HO294 := x_m (ho); clear HO_3; clear ho hb hg hat))
   repeat (go_quiet (first | ((with_reducible refine gate_builtin (b := .append) (xs := #[.tmp 27, .tmp 32]) rfl ?_); at_builtin; refine Kd.R_append (Kd.int .i64) (w0 := w) w.heap.size rfl (.tmp 27) (.tmp 32) 72 3 (.int .i64 0) 8 rfl Tryd.underlying72 info3 rfl (by decide) (by omega) u3 x3_1 (rd t282 x4_1) [.int .i64 (rd t282 x4_1)] (fun _ => True) (fun _ => False) rfl rfl ?aP (fun _ hk => hk.elim) ?aF ?aO ?aB ?aS ?aL ?_; (case aP => exact rfl); (case aB => exact x_bel); (case aF => exact (fun _ _ => trivial)); (case aO => exact (x_rr HO_3.out)); (case aS => exact (below_size x_bel)); (case aL => have := LMc16.out; omega); intro v293 w18 ho hb hg hat; rw [← Ny292.out] at ho; replace HO_0 := x_m (Kd.V_afterv (ok := (fun _ => True)) (by (with_reducible repeat (first | apply Kd.V_alloc | apply Kd.V_drewN | apply Kd.V_drew)); exact Kd.V_mono HO_0.out (fun _ hk => ⟨trivial, hk⟩)) hg hat); replace HB := x_m (hb); have HO294 := x_m (ho); clear HO_3; clear ho hb hg hat)); try go_wp2_with (first | ((with_reducible refine gate_builtin (b := .append) (xs := #[.tmp 27, .tmp 32]) rfl ?_); at_builtin; refine Kd.R_append (Kd.int .i64) (w0 := w) w.heap.size rfl (.tmp 27) (.tmp 32) 72 3 (.int .i64 0) 8 rfl Tryd.underlying72 info3 rfl (by decide) (by omega) u3 x3_1 (rd t282 x4_1) [.int .i64 (rd t282 x4_1)] (fun _ => True) (fun _ => False) rfl rfl ?aP (fun _ hk => hk.elim) ?aF ?aO ?aB ?aS ?aL ?_; (case aP => exact rfl); (case aB => exact x_bel); (case aF => exact (fun _ _ => trivial)); (case aO => exact (x_rr HO_3.out)); (case aS => exact (below_size x_bel)); (case aL => have := LMc16.out; omega); intro v293 w18 ho hb hg hat; rw [← Ny292.out] at ho; replace HO_0 := x_m (Kd.V_afterv (ok := (fun _ => True)) (by (with_reducible repeat (first | apply Kd.V_alloc | apply Kd.V_drewN | apply Kd.V_drew)); exact Kd.V_mono HO_0.out (fun _ hk => ⟨trivial, hk⟩)) hg hat); replace HB := x_m (hb); have HO294 := x_m (ho); clear HO_3; clear ho hb hg hat)))
   go_roundg k1
   case measure => have := HK1.out; omega
   case rel => exact ⟨(y292), (wrap64 (x4_1 + 1)), x_eqs, H', ⟨by have := HK1.out; omega⟩, ⟨by (with_reducible repeat (first | apply Kd.V_alloc | apply Kd.V_drewN | apply Kd.V_drew)); exact Kd.V_mono HO_0.out (fun _ hk => hk.2)⟩, ⟨x_rr HO294.out⟩, ⟨x_bel⟩⟩

mutual
def r02_pieces.l0 : Nat → List (List (S55)) → List Int → List (S86) → Int → Option ((List (S86)))
 | 0, _, _, _, _ => none
 | k + 1, x0, x3, x4, x5 => if x5 < (x4.length : Int) then (if 0 ≤ x5 then (if x3.length < 17592186044416 then ((some (x3 ++ [(rd_T86 x4 x5).f0] : List Int)).bind fun y299 => (if y299.length < 17592186044416 then (r02_pieces.l0 k x0 (y299 ++ [wrap64 (((rd_T86 x4 x5).f1) + 1)]) x4 (wrap64 (x5 + 1))) else (none))) else (none)) else (none)) else (r02_pieces.l1 k x0 x3 0)
def r02_pieces.l1 : Nat → List (List (S55)) → List Int → Int → Option ((List (S86)))
 | 0, _, _, _ => none
 | k + 1, x0, x3, x6 => if x6 < (x0.length : Int) then (r02_pieces.l2 k x0 x3 x6 0) else ((r02_sorted.f k x3).bind fun t317 => (r02_pieces.l3 k t317 ([] : List (S86)) 0))
def r02_pieces.l2 : Nat → List (List (S55)) → List Int → Int → Int → Option ((List (S86)))
 | 0, _, _, _, _ => none
 | k + 1, x0, x3, x6, x7 => if 0 ≤ x6 then (if x6 < (x0.length : Int) then (if x7 < ((rd_L6 x0 x6).length : Int) then (if 0 ≤ x7 then (if x3.length < 17592186044416 then ((some (x3 ++ [wrap64 ((rd_T55 (rd_L6 x0 x6) x7).f0)] : List Int)).bind fun y309 => (if y309.length < 17592186044416 then (r02_pieces.l2 k x0 (y309 ++ [wrap64 ((wrap64 ((rd_T55 (rd_L6 x0 x6) x7).f1)) + 1)]) x6 (wrap64 (x7 + 1))) else (none))) else (none)) else (none)) else (r02_pieces.l1 k x0 x3 (wrap64 (x6 + 1)))) else (none)) else (none)
def r02_pieces.l3 : Nat → List Int → List (S86) → Int → Option ((List (S86)))
 | 0, _, _, _ => none
 | k + 1, x3, x8, x9 => if (wrap64 (x9 + 1)) < (x3.length : Int) then (if 0 ≤ x9 then (if x9 < (x3.length : Int) then (if (rd x3 x9) ≥ 0 then (if (rd x3 x9) ≤ 1114367 then ((r02_block.f k (wrap32 (rd x3 x9))).bind fun t323 => (if t323 ≥ 0 then (if 0 ≤ (wrap64 (x9 + 1)) then (if x8.length < 8796093022208 then (r02_pieces.l3 k x3 (x8 ++ [(⟨rd x3 x9, wrap64 ((rd x3 (wrap64 (x9 + 1))) - 1)⟩ : S86)]) (wrap64 (x9 + 1))) else (none)) else (none)) else (r02_pieces.l3 k x3 x8 (wrap64 (x9 + 1))))) else (r02_pieces.l3 k x3 x8 (wrap64 (x9 + 1)))) else (r02_pieces.l3 k x3 x8 (wrap64 (x9 + 1)))) else (none)) else (none)) else (some x8)
end
def r02_pieces.f (k : Nat) (l0 : List (List (S55))) : Option ((List (S86))) := (r02_blocks.f).bind fun t295 => (r02_pieces.l0 k l0 ([] : List Int) t295 0)
def r02_pieces.T22 : Bool × List (List Nat × List Nat) := (true, [([], []), ([], []), ([], []), ([1, 2], [1, 2]), ([3], [3]), ([], []), ([], []), ([6], [6]), ([5, 7], [5, 7]), ([8], [8]), ([9], [9]), ([4, 10], [4, 10]), ([11], [11]), ([0, 12], [0, 12]), ([13, 13, 0, 1, 2, 3, 4, 5, 6, 7, 8, 9, 10, 11, 12, 13], [0, 13])])
def r02_pieces.B22 : List Nat := [0, 0, 0, 6, 14, 0, 0, 64, 224, 480, 992, 2046, 4094, 8191, 16383]
theorem r02_pieces.tab22 : rtab .any (opsOf Tryd.f57 22) = r02_pieces.T22 := by kernel_rfl
theorem r02_pieces.bits22 : waitsOk r02_pieces.T22.2 r02_pieces.B22 = true := by kernel_rfl
theorem r02_pieces.calls (k : Nat) (A0 : Option Addr) (c0 : Nat) (l0 : List (List (S55))) (r : List (S86)) (w : World) (hr0 : Kd.C (Kd.slice 55 k55) w A0 l0.length l0) (hc0 : l0.length ≤ c0) (h : r02_pieces.f k l0 = some r) :
  Calls Tryd.prog 57 #[.slice A0 l0.length c0] w fun e w' => ∃ v0_ : Value, e = .returned (v0_) ∧ Kd.R k86 86 w' w.heap.size (fun _ => True) v0_ r ∧ Below w.heap.size w w' := by
 have hu86 := Tryd.underlying86
 have HR0 := x_m hr0
 have HC0 := x_m hc0
 clear hr0 hc0
 have HB := x_m (Below.refl w.heap.size w)
 have H : ((r02_blocks.f).bind fun t295 => (r02_pieces.l0 k l0 ([] : List Int) t295 0)) = some r := h
 clear h
 replace H := x_bi H
 obtain ⟨t295, A20, H⟩ := H
 have A2 := x_m A20
 clear A20
 have H' := x_m H
 clear H
 go_enter Tryd.func57, Tryd.ntmps57
 go_wp2_with (first | ((with_reducible refine gate_callee (f := 48) rfl ?_); refine goesL_ (some 10) rfl rfl Tryd.func48 (by kernel_rfl) rfl #[] rfl x_ag ?_; (with_reducible refine (r02_blocks.calls  t295 _ A2.out).mono ?_); rintro e w3 ⟨v296, rfl, ho0, hb⟩; refine ⟨_, rfl, ?_⟩; have HO297 := x_m (Kd.R_lower ho0 (below_size x_bel)); replace HB := x_m (below_step x_bel hb); (try clear hb); (try clear hb2); (try clear hk); (try clear hi); (try clear ho0)))
 go_loopg [3, 5] k (fun kq v3 v5 w' => ∃ (x3_1 : List Int) (x5_1 : Int), v5 = .int .i64 x5_1 ∧ Aside0 (r02_pieces.l0 kq l0 x3_1 t295 x5_1 = some r) ∧ Aside0 (kq ≤ k) ∧ Aside0 (Kd.R (Kd.int .i64) 3 w' w.heap.size (fun _ => True) v3 x3_1) ∧ Aside0 (Kd.R k86 86 w' w.heap.size (fun _ => True) v296 t295) ∧ Aside0 (Below w.heap.size w w'))
 case atStart => exact ⟨(([] : List Int)), (0), x_eqs, H', ⟨Nat.le_refl _⟩, ⟨by first | exact Kd.R_nil _ _ _ _ _ | exact Kd.N_nil _ _ _ _ _ | exact Kd.V_nil _ _ _ _ _ | exact Kd.Q_nil _ _ _ _ _ | exact Kd.S_nil _ _ _ _ _⟩, ⟨x_rr HO297.out⟩, ⟨x_bel⟩⟩
 case round =>
  clear H'
  obtain ⟨x3_1, x5_1, rfl, HA, HK1, HO_3, HO_4, HB⟩ := hrel
  cases gk with
  | zero => exact absurd HA.out (by simp [r02_pieces.l0])
  | succ k1 =>
   have H := HA.out
   clear HA
   simp only [r02_pieces.l0] at H
   rcases x_if H with ⟨c4b0, H⟩ | ⟨c4b0, H⟩
   ·by_cases c5 : 0 ≤ x5_1
    ·rw [if_pos c5] at H
     have c5b0 := decide_eq_true c5
     clear c5
     obtain ⟨c6, H⟩ := x_gp H
     have LMc6 := x_m c6
     clear c6
     obtain ⟨y299, hy299⟩ : ∃ y_ : List Int, y_ = (x3_1 ++ [(rd_T86 t295 x5_1).f0]) := ⟨_, rfl⟩
     replace H : (if y299.length < 17592186044416 then (r02_pieces.l0 k1 l0 (y299 ++ [wrap64 (((rd_T86 t295 x5_1).f1) + 1)]) t295 (wrap64 (x5_1 + 1))) else (none)) = some r := x_hh hy299 H
     have Ny299 := x_m hy299
     clear hy299
     obtain ⟨c7, H⟩ := x_gp H
     have LMc7 := x_m c7
     clear c7
     obtain ⟨y303, hy303⟩ : ∃ y_ : List Int, y_ = (y299 ++ [wrap64 (((rd_T86 t295 x5_1).f1) + 1)]) := ⟨_, rfl⟩
     replace H : (r02_pieces.l0 k1 l0 y303 t295 (wrap64 (x5_1 + 1))) = some r := x_hh hy303 H
     have Ny303 := x_m hy303
     clear hy303
     have H' := x_m H
     clear H
     obtain ⟨Ao8, co8, eo8⟩ := Kd.R_slice HO_4.out
     subst eo8
     have p298 : 0 ≤ (x5_1 : Int) := x_da
     have q298 : x5_1 < (t295.length : Int) := x_da
     obtain ⟨ad298, e298, hx298_0, hx298_1⟩ := at_T86 (Kd.R_reads' HO_4.out).2.2 x5_1 p298 q298
     cases e298
     replace p298 := eq_true p298
     replace q298 := eq_true q298
     go_wp2_with (first | ((with_reducible refine gate_builtin (b := .append) (xs := #[.tmp 17, .tmp 23]) rfl ?_); at_builtin; refine Kd.R_append (Kd.int .i64) (w0 := w) w.heap.size rfl (.tmp 17) (.tmp 23) 72 3 (.int .i64 0) 8 rfl Tryd.underlying72 info3 rfl (by decide) (by omega) u3 x3_1 ((rd_T86 t295 x5_1).f0) [.int .i64 ((rd_T86 t295 x5_1).f0)] (fun _ => True) (fun _ => False) rfl rfl ?aP (fun _ hk => hk.elim) ?aF ?aO ?aB ?aS ?aL ?_; (case aP => exact rfl); (case aB => exact x_bel); (case aF => exact (fun _ _ => trivial)); (case aO => exact (x_rr HO_3.out)); (case aS => exact (below_size x_bel)); (case aL => have := LMc6.out; omega); intro v300 w9 ho hb hg hat; rw [← Ny299.out] at ho; replace HO_4 := x_m (Kd.R_over' (x_rr HO_4.out) (Kd.R_typed (x_rr HO_3.out)) (by decide) hg); replace HB := x_m (hb); have HO301 := x_m (ho); clear HO_3; clear ho hb hg hat; have p302 : 0 ≤ (x5_1 : Int) := x_da; have q302 : x5_1 < (t295.length : Int) := x_da; obtain ⟨ad302, e302, hx302_0, hx302_1⟩ := at_T86 (Kd.R_reads' HO_4.out).2.2 x5_1 p302 q302; obtain rfl : ad298 = ad302 := (by injection e302); replace p302 := eq_true p302; replace q302 := eq_true q302) | ((with_reducible refine gate_builtin (b := .append) (xs := #[.tmp 25, .tmp 32]) rfl ?_); at_builtin; refine Kd.R_append (Kd.int .i64) (w0 := w) w.heap.size rfl (.tmp 25) (.tmp 32) 72 3 (.int .i64 0) 8 rfl Tryd.underlying72 info3 rfl (by decide) (by omega) v300 y299 (wrap64 (((rd_T86 t295 x5_1).f1) + 1)) [.int .i64 (wrap64 (((rd_T86 t295 x5_1).f1) + 1))] (fun _ => True) (fun _ => False) rfl rfl ?aP (fun _ hk => hk.elim) ?aF ?aO ?aB ?aS ?aL ?_; (case aP => exact rfl); (case aB => exact x_bel); (case aF => exact (fun _ _ => trivial)); (case aO => exact (x_rr HO301.out)); (case aS => exact (below_size x_bel)); (case aL => have := LMc7.out; omega); intro v304 w10 ho hb hg hat; rw [← Ny303.out] at ho; replace HO_4 := x_m (Kd.R_over' (x_rr HO_4.out) (Kd.R_typed (x_rr HO301.out)) (by decide) hg); replace HB := x_m (hb); have HO305 := x_m (ho); clear HO301; clear ho hb hg hat))
     go_roundg k1
     case measure => have := HK1.out; omega
     case rel => exact ⟨(y303), (wrap64 (x5_1 + 1)), x_eqs, H', ⟨by have := HK1.out; omega⟩, ⟨x_rr HO305.out⟩, ⟨x_rr HO_4.out⟩, ⟨x_bel⟩⟩
    rw [if_neg c5] at H
    exact absurd H (by simp)
   have H' := x_m H
   clear H
   obtain ⟨Ao11, co11, eo11⟩ := Kd.R_slice HO_4.out
   subst eo11
   go_wp2
   go_loopg [3, 6] k1 (fun kq v3 v6 w' => ∃ (x3_2 : List Int) (x6_2 : Int), v6 = .int .i64 x6_2 ∧ Aside0 (r02_pieces.l1 kq l0 x3_2 x6_2 = some r) ∧ Aside0 (kq ≤ k1) ∧ Aside0 (Kd.R (Kd.int .i64) 3 w' w.heap.size (fun _ => True) v3 x3_2) ∧ Aside0 (Below w.heap.size w w'))
   case atStart => exact ⟨(x3_1), (0), x_eqs, H', ⟨Nat.le_refl _⟩, ⟨x_rr HO_3.out⟩, ⟨x_bel⟩⟩
   case round =>
    clear H'
    obtain ⟨x3_2, x6_2, rfl, HA, HK2, HO_3, HB⟩ := hrel
    cases gk with
    | zero => exact absurd HA.out (by simp [r02_pieces.l1])
    | succ k2 =>
     have H := HA.out
     clear HA
     simp only [r02_pieces.l1] at H
     rcases x_if H with ⟨c12b0, H⟩ | ⟨c12b0, H⟩
     ·have H' := x_m H
      clear H
      go_wp2
      go_loopg [3, 7] k2 (fun kq v3 v7 w' => ∃ (x3_3 : List Int) (x7_3 : Int), v7 = .int .i64 x7_3 ∧ Aside0 (r02_pieces.l2 kq l0 x3_3 x6_2 x7_3 = some r) ∧ Aside0 (kq ≤ k2) ∧ Aside0 (Kd.R (Kd.int .i64) 3 w' w.heap.size (fun _ => True) v3 x3_3) ∧ Aside0 (Below w.heap.size w w'))
      case atStart => exact ⟨(x3_2), (0), x_eqs, H', ⟨Nat.le_refl _⟩, ⟨x_rr HO_3.out⟩, ⟨x_bel⟩⟩
      case round =>
       clear H'
       obtain ⟨x3_3, x7_3, rfl, HA, HK3, HO_3, HB⟩ := hrel
       cases gk with
       | zero => exact absurd HA.out (by simp [r02_pieces.l2])
       | succ k3 =>
        have H := HA.out
        clear HA
        simp only [r02_pieces.l2] at H
        obtain ⟨c13b0, H⟩ := x_gd H
        obtain ⟨c14b0, H⟩ := x_gd H
        rcases x_fi H with ⟨c15b0, H⟩ | ⟨c15b0, H⟩
        ·have H' := x_m H
         clear H
         have p306 : 0 ≤ (x6_2 : Int) := x_da
         have q306 : x6_2 < (l0.length : Int) := x_da
         obtain ⟨ad306, A306_0, c306_0, e306, hx306_0, hl306_0, hi306_0⟩ := at_L6 HR0.out x6_2 p306 q306
         cases e306
         replace hx306_0 := x_tr HB.out hx306_0
         have HR306_0 := x_m hi306_0
         have HC306_0 := x_m hl306_0
         clear hi306_0 hl306_0
         replace p306 := eq_true p306
         replace q306 := eq_true q306
         go_wp2
         go_roundg k3
         case measure => have := HK1.out; have := HK2.out; have := HK3.out; omega
         case rel => exact ⟨(x3_3), (wrap64 (x6_2 + 1)), x_eqs, H', ⟨by have := HK1.out; have := HK2.out; have := HK3.out; omega⟩, ⟨x_rr HO_3.out⟩, ⟨x_bel⟩⟩
        obtain ⟨c16b0, H⟩ := x_gd H
        obtain ⟨c17, H⟩ := x_gp H
        have LMc17 := x_m c17
        clear c17
        obtain ⟨y309, hy309⟩ : ∃ y_ : List Int, y_ = (x3_3 ++ [wrap64 ((rd_T55 (rd_L6 l0 x6_2) x7_3).f0)]) := ⟨_, rfl⟩
        replace H : (if y309.length < 17592186044416 then (r02_pieces.l2 k3 l0 (y309 ++ [wrap64 ((wrap64 ((rd_T55 (rd_L6 l0 x6_2) x7_3).f1)) + 1)]) x6_2 (wrap64 (x7_3 + 1))) else (none)) = some r := x_hh hy309 H
        have Ny309 := x_m hy309
        clear hy309
        obtain ⟨c18, H⟩ := x_gp H
        have LMc18 := x_m c18
        clear c18
        obtain ⟨y314, hy314⟩ : ∃ y_ : List Int, y_ = (y309 ++ [wrap64 ((wrap64 ((rd_T55 (rd_L6 l0 x6_2) x7_3).f1)) + 1)]) := ⟨_, rfl⟩
        replace H : (r02_pieces.l2 k3 l0 y314 x6_2 (wrap64 (x7_3 + 1))) = some r := x_hh hy314 H
        have Ny314 := x_m hy314
        clear hy314
        have H' := x_m H
        clear H
        have p306 : 0 ≤ (x6_2 : Int) := x_da
        have q306 : x6_2 < (l0.length : Int) := x_da
        obtain ⟨ad306, A306_0, c306_0, e306, hx306_0, hl306_0, hi306_0⟩ := at_L6 HR0.out x6_2 p306 q306
        cases e306
        replace hx306_0 := x_tr HB.out hx306_0
        have HR306_0 := x_m hi306_0
        have HC306_0 := x_m hl306_0
        clear hi306_0 hl306_0
        replace p306 := eq_true p306
        replace q306 := eq_true q306
        have p307 : 0 ≤ (x6_2 : Int) := x_da
        have q307 : x6_2 < (l0.length : Int) := x_da
        obtain ⟨ad307, A307_0, c307_0, e307, hx307_0, hl307_0, hi307_0⟩ := at_L6 HR0.out x6_2 p307 q307
        obtain rfl : ad306 = ad307 := (by injection e307)
        replace hx307_0 := x_tr HB.out hx307_0
        have HR307_0 := x_m hi307_0
        have HC307_0 := x_m hl307_0
        clear hi307_0 hl307_0
        replace p307 := eq_true p307
        replace q307 := eq_true q307
        have ea_ := Option.some.inj (hx306_0.symm.trans hx307_0)
        injection ea_ with ea_ en_ ec_
        subst ea_
        subst ec_
        clear en_
        have p308 : 0 ≤ (x7_3 : Int) := x_da
        have q308 : x7_3 < ((rd_L6 l0 x6_2).length : Int) := x_da
        obtain ⟨ad308, e308, hx308_0, hx308_1⟩ := at_T55 HR307_0.out x7_3 p308 q308
        cases e308
        replace hx308_0 := x_tr HB.out hx308_0
        replace hx308_1 := x_tr HB.out hx308_1
        replace p308 := eq_true p308
        replace q308 := eq_true q308
        go_wp2_with (first | ((with_reducible refine gate_builtin (b := .append) (xs := #[.tmp 49, .tmp 59]) rfl ?_); at_builtin; refine Kd.R_append (Kd.int .i64) (w0 := w) w.heap.size rfl (.tmp 49) (.tmp 59) 72 3 (.int .i64 0) 8 rfl Tryd.underlying72 info3 rfl (by decide) (by omega) u3 x3_3 (wrap64 ((rd_T55 (rd_L6 l0 x6_2) x7_3).f0)) [.int .i64 (wrap64 ((rd_T55 (rd_L6 l0 x6_2) x7_3).f0))] (fun _ => True) (fun _ => False) rfl rfl ?aP (fun _ hk => hk.elim) ?aF ?aO ?aB ?aS ?aL ?_; (case aP => exact rfl); (case aB => exact x_bel); (case aF => exact (fun _ _ => trivial)); (case aO => exact (x_rr HO_3.out)); (case aS => exact (below_size x_bel)); (case aL => have := LMc17.out; omega); intro v310 w19 ho hb hg hat; rw [← Ny309.out] at ho; replace HB := x_m (hb); have HO311 := x_m (ho); clear HO_3; clear ho hb hg hat; have p312 : 0 ≤ (x6_2 : Int) := x_da; have q312 : x6_2 < (l0.length : Int) := x_da; obtain ⟨ad312, A312_0, c312_0, e312, hx312_0, hl312_0, hi312_0⟩ := at_L6 HR0.out x6_2 p312 q312; obtain rfl : ad306 = ad312 := (by injection e312); replace hx312_0 := x_tr HB.out hx312_0; have HR312_0 := x_m hi312_0; have HC312_0 := x_m hl312_0; clear hi312_0 hl312_0; replace p312 := eq_true p312; replace q312 := eq_true q312; have p313 : 0 ≤ (x7_3 : Int) := x_da; have q313 : x7_3 < ((rd_L6 l0 x6_2).length : Int) := x_da; obtain ⟨ad313, e313, hx313_0, hx313_1⟩ := at_T55 HR312_0.out x7_3 p313 q313; cases e313; replace hx313_0 := x_tr HB.out hx313_0; replace hx313_1 := x_tr HB.out hx313_1; replace p313 := eq_true p313; replace q313 := eq_true q313) | ((with_reducible refine gate_builtin (b := .append) (xs := #[.tmp 61, .tmp 72]) rfl ?_); at_builtin; refine Kd.R_append (Kd.int .i64) (w0 := w) w.heap.size rfl (.tmp 61) (.tmp 72) 72 3 (.int .i64 0) 8 rfl Tryd.underlying72 info3 rfl (by decide) (by omega) v310 y309 (wrap64 ((wrap64 ((rd_T55 (rd_L6 l0 x6_2) x7_3).f1)) + 1)) [.int .i64 (wrap64 ((wrap64 ((rd_T55 (rd_L6 l0 x6_2) x7_3).f1)) + 1))] (fun _ => True) (fun _ => False) rfl rfl ?aP (fun _ hk => hk.elim) ?aF ?aO ?aB ?aS ?aL ?_; (case aP => exact rfl); (case aB => exact x_bel); (case aF => exact (fun _ _ => trivial)); (case aO => exact (x_rr HO311.out)); (case aS => exact (below_size x_bel)); (case aL => have := LMc18.out; omega); intro v315 w20 ho hb hg hat; rw [← Ny314.out] at ho; replace HB := x_m (hb); have HO316 := x_m (ho); clear HO311; clear ho hb hg hat))
        go_roundg k3
        case measure => have := HK1.out; have := HK2.out; have := HK3.out; omega
        case rel => exact ⟨(y314), (wrap64 (x7_3 + 1)), x_eqs, H', ⟨by have := HK1.out; have := HK2.out; have := HK3.out; omega⟩, ⟨x_rr HO316.out⟩, ⟨x_bel⟩⟩
     replace H := x_bi H
     obtain ⟨t317, A210, H⟩ := H
     have A21 := x_m A210
     clear A210
     have H' := x_m H
     clear H
     obtain ⟨Ao22, co22, eo22⟩ := Kd.R_slice HO_3.out
     subst eo22
     go_wp2_with (first | ((with_reducible refine gate_callee (f := 69) rfl ?_); refine goesL_ (some 75) rfl rfl Tryd.func69 (by kernel_rfl) rfl #[.slice Ao22 x3_2.length co22] rfl x_ag ?_; (with_reducible refine (r02_sorted.calls k2 _ _ x3_2 t317 _ ?side1 ?side2 A21.out).mono ?_); (case side1 => repeat (first | exact (Kd.R_reads' HO_3.out).2.2 | (with_reducible refine Kd.C_alloc ?_ _) | (with_reducible refine Kd.C_drewN ?_ _) | (with_reducible refine Kd.C_drew ?_))); (case side2 => exact (Kd.R_reads' HO_3.out).2.1); rintro e w23 ⟨v318, rfl, ho0, hb⟩; refine ⟨_, rfl, ?_⟩; have n0_ := x_m (Kd.R_elder' (x_rr HO_3.out) (Kd.R_base ho0) hb); have n1_ := x_m (Kd.R_lower (Kd.R_new' ho0 (Kd.R_lt (x_rr HO_3.out))) (below_size x_bel)); have n2_ := x_m (below_step x_bel hb); clear HO_3; clear HB; have HO_3 := n0_; have HO319 := n1_; have HB := n2_; clear n0_ n1_ n2_; (try clear hb); (try clear hb2); (try clear hk); (try clear hi); (try clear ho0)))
     go_loopg [8, 9] k2 (fun kq v8 v9 w' => ∃ (x8_3 : List (S86)) (x9_3 : Int), v9 = .int .i64 x9_3 ∧ Aside0 (r02_pieces.l3 kq t317 x8_3 x9_3 = some r) ∧ Aside0 (kq ≤ k2) ∧ Aside0 (Kd.R (Kd.int .i64) 3 w' w.heap.size (fun _ => True) v318 t317) ∧ Aside0 (Kd.R k86 86 w' w.heap.size (fun _ => True) v8 x8_3) ∧ Aside0 (Below w.heap.size w w'))
     case atStart => exact ⟨(([] : List (S86))), (0), x_eqs, H', ⟨Nat.le_refl _⟩, ⟨by (with_reducible repeat (first | apply Kd.R_alloc | apply Kd.R_drewN | apply Kd.R_drew)); exact Kd.R_mono HO319.out (fun _ hk => trivial)⟩, ⟨by first | exact Kd.R_nil _ _ _ _ _ | exact Kd.N_nil _ _ _ _ _ | exact Kd.V_nil _ _ _ _ _ | exact Kd.Q_nil _ _ _ _ _ | exact Kd.S_nil _ _ _ _ _⟩, ⟨x_bel⟩⟩
     case round =>
      clear H'
      obtain ⟨x8_3, x9_3, rfl, HA, HK3, HO_3, HO_8, HB⟩ := hrel
      cases gk with
      | zero => exact absurd HA.out (by simp [r02_pieces.l3])
      | succ k3 =>
       have H := HA.out
       clear HA
       simp only [r02_pieces.l3] at H
       rcases x_fi H with ⟨c24b0, H⟩ | ⟨c24b0, H⟩
       ·obtain rfl := Option.some.inj H
        obtain ⟨Ao42, co42, eo42⟩ := Kd.R_slice HO_3.out
        subst eo42
        go_wp2
        go_ret
        exact ⟨_, by first | rfl | (simp [errW_none, errW_some] <;> rfl) | (simp [*, errW_none, errW_some] <;> rfl), by (with_reducible repeat (first | apply Kd.R_alloc | apply Kd.R_drewN | apply Kd.R_drew)); exact HO_8.out, x_bel⟩

       obtain ⟨c25b0, H⟩ := x_gd H
       obtain ⟨c26b0, H⟩ := x_gd H
       rcases x_fi H with ⟨c27b0, H⟩ | ⟨c27b0, H⟩
       ·have H' := x_m H
        clear H
        obtain ⟨Ao41, co41, eo41⟩ := Kd.R_slice HO_3.out
        subst eo41
        have p320 : 0 ≤ (x9_3 : Int) := x_da
        have q320 : x9_3 < (t317.length : Int) := x_da
        obtain ⟨ad320, e320, hx320_0⟩ := Kd.at_int (Kd.R_reads' HO_3.out).2.2 x9_3 p320 q320
        cases e320
        replace p320 := eq_true p320
        replace q320 := eq_true q320
        go_wp2
        go_roundg k3
        case measure => have := HK1.out; have := HK2.out; have := HK3.out; omega
        case rel => exact ⟨(x8_3), (wrap64 (x9_3 + 1)), x_eqs, H', ⟨by have := HK1.out; have := HK2.out; have := HK3.out; omega⟩, ⟨x_rr HO_3.out⟩, ⟨x_rr HO_8.out⟩, ⟨x_bel⟩⟩
       rcases x_fi H with ⟨c28b0, H⟩ | ⟨c28b0, H⟩
       ·have H' := x_m H
        clear H
        obtain ⟨Ao40, co40, eo40⟩ := Kd.R_slice HO_3.out
        subst eo40
        have p320 : 0 ≤ (x9_3 : Int) := x_da
        have q320 : x9_3 < (t317.length : Int) := x_da
        obtain ⟨ad320, e320, hx320_0⟩ := Kd.at_int (Kd.R_reads' HO_3.out).2.2 x9_3 p320 q320
        cases e320
        replace p320 := eq_true p320
        replace q320 := eq_true q320
        have p321 : 0 ≤ (x9_3 : Int) := x_da
        have q321 : x9_3 < (t317.length : Int) := x_da
        obtain ⟨ad321, e321, hx321_0⟩ := Kd.at_int (Kd.R_reads' HO_3.out).2.2 x9_3 p321 q321
        obtain rfl : ad320 = ad321 := (by injection e321)
        replace p321 := eq_true p321
        replace q321 := eq_true q321
        go_wp2
        go_roundg k3
        case measure => have := HK1.out; have := HK2.out; have := HK3.out; omega
        case rel => exact ⟨(x8_3), (wrap64 (x9_3 + 1)), x_eqs, H', ⟨by have := HK1.out; have := HK2.out; have := HK3.out; omega⟩, ⟨x_rr HO_3.out⟩, ⟨x_rr HO_8.out⟩, ⟨x_bel⟩⟩
       replace H := x_bi H
       obtain ⟨t323, A290, H⟩ := H
       have A29 := x_m A290
       clear A290
       rcases x_fi H with ⟨c30b0, H⟩ | ⟨c30b0, H⟩
       ·have H' := x_m H
        clear H
        obtain ⟨Ao38, co38, eo38⟩ := Kd.R_slice HO_3.out
        subst eo38
        have p320 : 0 ≤ (x9_3 : Int) := x_da
        have q320 : x9_3 < (t317.length : Int) := x_da
        obtain ⟨ad320, e320, hx320_0⟩ := Kd.at_int (Kd.R_reads' HO_3.out).2.2 x9_3 p320 q320
        cases e320
        replace p320 := eq_true p320
        replace q320 := eq_true q320
        have p321 : 0 ≤ (x9_3 : Int) := x_da
        have q321 : x9_3 < (t317.length : Int) := x_da
        obtain ⟨ad321, e321, hx321_0⟩ := Kd.at_int (Kd.R_reads' HO_3.out).2.2 x9_3 p321 q321
        obtain rfl : ad320 = ad321 := (by injection e321)
        replace p321 := eq_true p321
        replace q321 := eq_true q321
        have p322 : 0 ≤ (x9_3 : Int) := x_da
        have q322 : x9_3 < (t317.length : Int) := x_da
        obtain ⟨ad322, e322, hx322_0⟩ := Kd.at_int (Kd.R_reads' HO_3.out).2.2 x9_3 p322 q322
        obtain rfl : ad320 = ad322 := (by injection e322)
        replace p322 := eq_true p322
        replace q322 := eq_true q322
        go_wp2_with (first | (go_at_call 31; (with_reducible refine (r02_block.calls k3 (wrap32 (rd t317 x9_3)) t323 _ A29.out).mono ?_); rintro e w39 ⟨rfl, hb⟩; replace HO_3 := x_m (Kd.R_below (x_rr HO_3.out) hb); replace HO_8 := x_m (Kd.R_below (x_rr HO_8.out) hb); replace HB := x_m (below_step x_bel hb); (try clear hb); (try clear hb2); (try clear hk); (try clear hi)))
        go_roundg k3
        case measure => have := HK1.out; have := HK2.out; have := HK3.out; omega
        case rel => exact ⟨(x8_3), (wrap64 (x9_3 + 1)), x_eqs, H', ⟨by have := HK1.out; have := HK2.out; have := HK3.out; omega⟩, ⟨x_rr HO_3.out⟩, ⟨x_rr HO_8.out⟩, ⟨x_bel⟩⟩
       obtain ⟨ji31, hji31⟩ : ∃ j_ : Int, (wrap64 (x9_3 + 1)) = j_ := ⟨_, rfl⟩
       replace H : (if 0 ≤ (ji31) then (if x8_3.length < 8796093022208 then (r02_pieces.l3 k3 t317 (x8_3 ++ [(⟨rd t317 x9_3, wrap64 ((rd t317 (ji31)) - 1)⟩ : S86)]) ji31) else (none)) else (none)) = some r := by first | (rw [hji31] at H; exact H) | (simp only [hji31] at H ⊢; exact H)
       (try rw [hji31] at c24b0)
       (try rw [hji31] at A29)
       have hji31w : (IntKind.i64.wrap (x9_3 + 1)) = ji31 := (i64_w _).trans hji31
       obtain ⟨c32b0, H⟩ := x_gd H
       obtain ⟨c33, H⟩ := x_gp H
       have LMc33 := x_m c33
       clear c33
       obtain ⟨y326, hy326⟩ : ∃ y_ : List (S86), y_ = (x8_3 ++ [(⟨rd t317 x9_3, wrap64 ((rd t317 (ji31)) - 1)⟩ : S86)]) := ⟨_, rfl⟩
       replace H : (r02_pieces.l3 k3 t317 y326 ji31) = some r := x_hh hy326 H
       have Ny326 := x_m hy326
       clear hy326
       have H' := x_m H
       clear H
       obtain ⟨Ao34, co34, eo34⟩ := Kd.R_slice HO_3.out
       subst eo34
       have p320 : 0 ≤ (x9_3 : Int) := x_da
       have q320 : x9_3 < (t317.length : Int) := x_da
       obtain ⟨ad320, e320, hx320_0⟩ := Kd.at_int (Kd.R_reads' HO_3.out).2.2 x9_3 p320 q320
       cases e320
       replace p320 := eq_true p320
       replace q320 := eq_true q320
       have p321 : 0 ≤ (x9_3 : Int) := x_da
       have q321 : x9_3 < (t317.length : Int) := x_da
       obtain ⟨ad321, e321, hx321_0⟩ := Kd.at_int (Kd.R_reads' HO_3.out).2.2 x9_3 p321 q321
       obtain rfl : ad320 = ad321 := (by injection e321)
       replace p321 := eq_true p321
       replace q321 := eq_true q321
       have p322 : 0 ≤ (x9_3 : Int) := x_da
       have q322 : x9_3 < (t317.length : Int) := x_da
       obtain ⟨ad322, e322, hx322_0⟩ := Kd.at_int (Kd.R_reads' HO_3.out).2.2 x9_3 p322 q322
       obtain rfl : ad320 = ad322 := (by injection e322)
       replace p322 := eq_true p322
       replace q322 := eq_true q322
       try go_wp2_with (first | (go_at_call 31; (with_reducible refine (r02_block.calls k3 (wrap32 (rd t317 x9_3)) t323 _ A29.out).mono ?_); rintro e w35 ⟨rfl, hb⟩; replace HO_3 := x_m (Kd.R_below (x_rr HO_3.out) hb); replace HO_8 := x_m (Kd.R_below (x_rr HO_8.out) hb); replace HB := x_m (below_step x_bel hb); (try clear hb); (try clear hb2); (try clear hk); (try clear hi)))
       have n0_ := x_m (Kd.R_drew HO_3.out)
       have n1_ := x_m (Kd.R_drew HO_8.out)
       have n2_ := x_m (below_drew1 HB.out)
       clear HO_3
       clear HO_8
       clear HB
       have HO_3 := n0_
       have HO_8 := n1_
       have HB := n2_
       clear n0_ n1_ n2_
       have p324 : 0 ≤ (x9_3 : Int) := x_da
       have q324 : x9_3 < (t317.length : Int) := x_da
       obtain ⟨ad324, e324, hx324_0⟩ := Kd.at_int (Kd.R_reads' HO_3.out).2.2 x9_3 p324 q324
       obtain rfl : ad320 = ad324 := (by injection e324)
       replace p324 := eq_true p324
       replace q324 := eq_true q324
       have p325 : 0 ≤ ((ji31) : Int) := x_da
       have q325 : (ji31) < (t317.length : Int) := x_da
       obtain ⟨ad325, e325, hx325_0⟩ := Kd.at_int (Kd.R_reads' HO_3.out).2.2 (ji31) p325 q325
       obtain rfl : ad320 = ad325 := (by injection e325)
       replace p325 := eq_true p325
       replace q325 := eq_true q325
       refine start_ (n := 15) (S := fun w' => w'.cell? (ad320.add (x9_3).toNat) = some (.int .i64 (rd t317 x9_3)) ∧ w'.cell? (ad320.add ((ji31)).toNat) = some (.int .i64 (rd t317 (ji31)))) (ds := [12, 13]) #[i,i,i,i,i,i,i,i,i,i,i,i,i,i,i] (by kernel_rfl) rfl rfl ⟨hx324_0, hx325_0⟩ (fun hHeld => ?_); refine with_tabW r02_pieces.tab22 r02_pieces.bits22 (fun HT_ HW_ => ?_)
       generalize w35.drew = w36 at HO_3 HO_8 HB hx324_0 hx325_0 hHeld ⊢
       refine pure_ (i := 0) (N := some 104) (v := ?_) (a' := ?_) #[o,i,i,i,i,i,i,i,i,i,i,i,i,i,i] rfl rfl (any_of HT_.out (by kernel_rfl)) (fun _ _ _ h => h) (Or.inl ⟨by rfl, ?_⟩) ?_ ?_
       rotate_left
       ·intro w'
        go_simp
        with_reducible rfl
       rotate_left
       ·exact x_put
       refine pure_ (i := 1) (N := some 105) (v := ?_) (a' := ?_) #[o,o,i,i,i,i,i,i,i,i,i,i,i,i,i] rfl rfl (any_of HT_.out (by kernel_rfl)) (fun _ _ _ h => h) (Or.inl ⟨by rfl, ?_⟩) ?_ ?_
       rotate_left
       ·intro w'
        go_simp
        with_reducible rfl
       rotate_left
       ·exact x_put
       refine pure_ (i := 2) (N := some 106) (v := ?_) (a' := ?_) #[o,o,o,i,i,i,i,i,i,i,i,i,i,i,i] rfl rfl (any_of HT_.out (by kernel_rfl)) (fun _ _ _ h => h) (Or.inl ⟨by rfl, ?_⟩) ?_ ?_
       rotate_left
       ·intro w'
        go_simp
        with_reducible rfl
       rotate_left
       ·exact x_put
       refine pure_ (i := 3) (N := some 107) (v := ?_) (a' := ?_) #[o,o,o,o,i,i,i,i,i,i,i,i,i,i,i] rfl rfl (any_of HT_.out (by kernel_rfl)) (fun _ _ _ h => h) (Or.inl ⟨by rfl, ?_⟩) ?_ ?_
       rotate_left
       ·intro w'
        go_simp
        with_reducible rfl
       rotate_left
       ·exact x_put
       refine pure_ (i := 5) (N := some 109) (v := ?_) (a' := ?_) #[o,o,o,o,i,o,i,i,i,i,i,i,i,i,i] rfl rfl (any_of HT_.out (by kernel_rfl)) (fun _ _ _ h => h) (Or.inl ⟨by rfl, ?_⟩) ?_ ?_
       rotate_left
       ·intro w'
        go_simp
        with_reducible rfl
       rotate_left
       ·exact x_put
       refine pure_ (i := 6) (N := some 110) (v := ?_) (a' := ?_) #[o,o,o,o,i,o,o,i,i,i,i,i,i,i,i] rfl rfl (any_of HT_.out (by kernel_rfl)) (fun _ _ _ h => h) (Or.inl ⟨by rfl, ?_⟩) ?_ ?_
       rotate_left
       ·intro w'
        go_simp
        with_reducible rfl
       rotate_left
       ·exact x_put
       refine pure_ (i := 7) (N := some 111) (v := ?_) (a' := ?_) #[o,o,o,o,i,o,o,o,i,i,i,i,i,i,i] rfl rfl (any_of HT_.out (by kernel_rfl)) (fun _ _ _ h => h) (Or.inl ⟨by rfl, ?_⟩) ?_ ?_
       rotate_left
       ·intro w'
        go_simp
        with_reducible rfl
       rotate_left
       ·exact x_put
       refine pure_ (i := 8) (N := some 112) (v := ?_) (a' := ?_) #[o,o,o,o,i,o,o,o,o,i,i,i,i,i,i] rfl rfl (any_of HT_.out (by kernel_rfl)) (fun _ _ _ h => h) (Or.inl ⟨by rfl, ?_⟩) ?_ ?_
       rotate_left
       ·intro w'
        go_simp
        with_reducible rfl
       rotate_left
       ·exact x_put
       refine take_ (i := 4) (N := some 108) (v := ?_) (a' := ?_) #[o,o,o,o,o,o,o,o,o,i,i,i,i,i,i] rfl rfl (take_ofW HT_.out HW_.out (by kernel_rfl)) (fun _ _ _ h => h) (Or.inl ⟨by rfl, ?_⟩) hHeld ?_ ?_
       rotate_left
       ·rintro w' ⟨s0, s1⟩
        go_simp
        with_reducible rfl
       rotate_left
       ·exact x_put
       refine take_ (i := 9) (N := some 113) (v := ?_) (a' := ?_) #[o,o,o,o,o,o,o,o,o,o,i,i,i,i,i] rfl rfl (take_ofW HT_.out HW_.out (by kernel_rfl)) (fun _ _ _ h => h) (Or.inl ⟨by rfl, ?_⟩) hHeld ?_ ?_
       rotate_left
       ·rintro w' ⟨s0, s1⟩
        go_simp
        with_reducible rfl
       rotate_left
       ·exact x_put
       refine pure_ (i := 10) (N := some 114) (v := ?_) (a' := ?_) #[o,o,o,o,o,o,o,o,o,o,o,i,i,i,i] rfl rfl (any_of HT_.out (by kernel_rfl)) (fun _ _ _ h => h) (Or.inl ⟨by rfl, ?_⟩) ?_ ?_
       rotate_left
       ·intro w'
        go_simp
        with_reducible rfl
       rotate_left
       ·exact x_put
       refine pure_ (i := 11) (N := some 115) (v := ?_) (a' := ?_) #[o,o,o,o,o,o,o,o,o,o,o,o,i,i,i] rfl rfl (any_of HT_.out (by kernel_rfl)) (fun _ _ _ h => h) (Or.inl ⟨by rfl, ?_⟩) ?_ ?_
       rotate_left
       ·intro w'
        go_simp
        with_reducible rfl
       rotate_left
       ·exact x_put
       refine last_ (i := 12) (N := some 116) #[o,o,o,o,o,o,o,o,o,o,o,o,o,i,i] rfl rfl (one_of HT_.out (by kernel_rfl)) (by decide) (fun K hK => ?_)
       refine value_ (w1 := ?_) (v := ?_) (by rfl) rfl ?_ ?_
       rotate_left 2
       ·go_simp
        constructor
        ·rfl
        rfl
       refine hK.out _ _ ?_
       clear hK K
       refine norm_ (a' := ?_) ?_ ?_
       rotate_left
       ·show Act.put _ (some 116) _ = _
        simp only [Act.put, List.setIfInBounds_toArray, List.set_cons_zero, List.set_cons_succ, i64_w, i32_w]
        rfl
       refine last_ (i := 13) (N := some 117) #[o,o,o,o,o,o,o,o,o,o,o,o,o,o,i] rfl rfl (one_of HT_.out (by kernel_rfl)) (by decide) (fun K hK => ?_)
       refine Kd.R_append_step k86 (w0 := w) w.heap.size (by rfl) (.tmp 104) (.tmp 116) 83 86 (.agg #[(.int .i64 0), (.int .i64 0)]) 16 rfl Tryd.underlying83 info86 rfl (by decide) (by omega) u8 x8_3 (⟨rd t317 x9_3, wrap64 ((rd t317 (ji31)) - 1)⟩ : S86) [.int .i64 (rd t317 x9_3), .int .i64 (wrap64 ((rd t317 (ji31)) - 1))] (fun _ => True) (fun _ => False) rfl rfl ?aP (fun _ hk => hk.elim) ?aF ?aO ?aB ?aS ?aL ?_
       (case aP => exact k86_mkM _ _ _ (⟨rd t317 x9_3, wrap64 ((rd t317 (ji31)) - 1)⟩ : S86))
       (case aB => exact x_bel)
       (case aF => exact (fun _ _ => trivial))
       (case aO => exact (x_rr HO_8.out))
       (case aS => exact (below_size x_bel))
       (case aL => have := LMc33.out; omega)
       intro v327 w37 ho hb hg hat
       rw [← Ny326.out] at ho
       have n0_ := x_m (Kd.R_over' (x_rr HO_3.out) (Kd.R_typed (x_rr HO_8.out)) (by decide) hg)
       have n1_ := x_m (hb)
       have n2_ := x_m (ho)
       clear HO_3
       clear HB
       clear HO_8
       have HO_3 := n0_
       have HB := n1_
       have HO328 := n2_
       clear n0_ n1_ n2_
       clear ho hb hg hat
       refine hK.out _ _ ?_
       clear hK K
       refine norm_ (a' := ?_) ?_ ?_
       rotate_left
       ·show Act.put _ (some 117) _ = _
        simp only [Act.put, List.setIfInBounds_toArray, List.set_cons_zero, List.set_cons_succ, i64_w, i32_w]
        rfl
       refine pure_ (i := 14) (N := some 8) (v := ?_) (a' := ?_) #[o,o,o,o,o,o,o,o,o,o,o,o,o,o,o] rfl rfl (any_of HT_.out (by kernel_rfl)) (fun _ _ _ h => h) (Or.inl ⟨by rfl, ?_⟩) ?_ ?_
       rotate_left
       ·intro w'
        go_simp
        with_reducible rfl
       rotate_left
       ·exact x_put
       refine done_ (done_of HT_.out (by kernel_rfl)) ?_
       try go_wp2
       go_roundg k3
       case measure => have := HK1.out; have := HK2.out; have := HK3.out; omega
       case rel => exact ⟨(y326), (ji31), (by first | rfl | (simp; done) | (simp only [← hji31] <;> (first | rfl | simp)) | (simp [*]; done)), H', ⟨by have := HK1.out; have := HK2.out; have := HK3.out; omega⟩, ⟨x_rr HO_3.out⟩, ⟨x_rr HO328.out⟩, ⟨x_bel⟩⟩

mutual
def r02_inside.l0 : Nat → List (S55) → List (S86) → List Int → List Int → Int → Option (List Bool)
 | 0, _, _, _, _, _ => none
 | k + 1, x0, x1, x5, x6, x7 => if x7 < (x0.length : Int) then (if 0 ≤ x7 then (if x5.length < 17592186044416 then (if x6.length < 17592186044416 then (r02_inside.l0 k x0 x1 (x5 ++ [wrap64 ((rd_T55 x0 x7).f0)]) (x6 ++ [wrap64 ((rd_T55 x0 x7).f1)]) (wrap64 (x7 + 1))) else (none)) else (none)) else (none)) else ((r02_merged.f k x5).bind fun t337 => ((r02_merged.f k x6).bind fun t340 => (if 0 ≤ (x1.length : Int) then (if ((x1.length : Int) : Int).toNat ≤ 281474976710656 then (r02_inside.l1 k x1 t337 t340 (List.replicate ((x1.length : Int) : Int).toNat false) 0 0 0) else (none)) else (none))))
def r02_inside.l1 : Nat → List (S86) → List Int → List Int → List Bool → Int → Int → Int → Option (List Bool)
 | 0, _, _, _, _, _, _, _ => none
 | k + 1, x1, x5, x6, x8, x9, x10, x11 => if x11 < (x1.length : Int) then (r02_inside.l2 k x1 x5 x6 x8 x9 x10 x11) else (some x8)
def r02_inside.j3 : Nat → List (S86) → List Int → List Int → List Bool → Int → Int → Int → Option (List Bool)
 | 0, _, _, _, _, _, _, _ => none
 | k + 1, x1, x5, x6, x8, x9, x10, x11 => r02_inside.l3 k x1 x5 x6 x8 x9 x10 x11
def r02_inside.l3 : Nat → List (S86) → List Int → List Int → List Bool → Int → Int → Int → Option (List Bool)
 | 0, _, _, _, _, _, _, _ => none
 | k + 1, x1, x5, x6, x8, x9, x10, x11 => if x10 < (x6.length : Int) then (if 0 ≤ x10 then (if 0 ≤ x11 then (if x11 < (x1.length : Int) then (if (rd x6 x10) < ((rd_T86 x1 x11).f0) then (r02_inside.l3 k x1 x5 x6 x8 x9 (wrap64 (x10 + 1)) x11) else (if x11 < (x8.length : Int) then (r02_inside.l1 k x1 x5 x6 (x8.set (x11 : Int).toNat (decide (x9 > x10))) x9 x10 (wrap64 (x11 + 1))) else (none))) else (none)) else (none)) else (none)) else (if 0 ≤ x11 then (if x11 < (x8.length : Int) then (r02_inside.l1 k x1 x5 x6 (x8.set (x11 : Int).toNat (decide (x9 > x10))) x9 x10 (wrap64 (x11 + 1))) else (none)) else (none))
def r02_inside.l2 : Nat → List (S86) → List Int → List Int → List Bool → Int → Int → Int → Option (List Bool)
 | 0, _, _, _, _, _, _, _ => none
 | k + 1, x1, x5, x6, x8, x9, x10, x11 => if x9 < (x5.length : Int) then (if 0 ≤ x9 then (if 0 ≤ x11 then (if x11 < (x1.length : Int) then (if (rd x5 x9) ≤ ((rd_T86 x1 x11).f0) then (r02_inside.l2 k x1 x5 x6 x8 (wrap64 (x9 + 1)) x10 x11) else (r02_inside.j3 k x1 x5 x6 x8 x9 x10 x11)) else (none)) else (none)) else (none)) else (r02_inside.j3 k x1 x5 x6 x8 x9 x10 x11)
end
def r02_inside.f (k : Nat) (l0 : List (S55)) (l1 : List (S86)) : Option (List Bool) := r02_inside.l0 k l0 l1 ([] : List Int) ([] : List Int) 0
theorem r02_inside.calls (k : Nat) (A0 : Option Addr) (c0 : Nat) (l0 : List (S55)) (A1 : Option Addr) (c1 : Nat) (l1 : List (S86)) (r : List Bool) (w : World) (hr0 : Kd.C k55 w A0 l0.length l0) (hc0 : l0.length ≤ c0) (hr1 : Kd.C k86 w A1 l1.length l1) (hc1 : l1.length ≤ c1) (h : r02_inside.f k l0 l1 = some r) :
  Calls Tryd.prog 58 #[.slice A0 l0.length c0, .slice A1 l1.length c1] w fun e w' => ∃ v0_ : Value, e = .returned (v0_) ∧ Kd.R Kd.bool 4 w' w.heap.size (fun _ => True) v0_ r ∧ Below w.heap.size w w' := by
 have HR0 := x_m hr0
 have HC0 := x_m hc0
 clear hr0 hc0
 have HR1 := x_m hr1
 have HC1 := x_m hc1
 clear hr1 hc1
 have HB := x_m (Below.refl w.heap.size w)
 have H : (r02_inside.l0 k l0 l1 ([] : List Int) ([] : List Int) 0) = some r := h
 clear h
 have H' := x_m H
 clear H
 go_enter Tryd.func58, Tryd.ntmps58
 go_wp2
 repeat (go_quiet (fail); try go_wp2)
 go_loopg [5, 6, 7] k (fun kq v5 v6 v7 w' => ∃ (x5_1 : List Int) (x6_1 : List Int) (x7_1 : Int), v7 = .int .i64 x7_1 ∧ Aside0 (r02_inside.l0 kq l0 l1 x5_1 x6_1 x7_1 = some r) ∧ Aside0 (kq ≤ k) ∧ Aside0 (Kd.R (Kd.int .i64) 3 w' w.heap.size (fun k_ => some k_ ≠ (v6 : Value).ownBlock) v5 x5_1) ∧ Aside0 (Kd.R (Kd.int .i64) 3 w' w.heap.size (fun k_ => some k_ ≠ (v5 : Value).ownBlock) v6 x6_1) ∧ Aside0 (Below w.heap.size w w'))
 case atStart => exact ⟨(([] : List Int)), (([] : List Int)), (0), x_eqs, H', ⟨Nat.le_refl _⟩, ⟨by first | exact Kd.R_nil _ _ _ _ _ | exact Kd.N_nil _ _ _ _ _ | exact Kd.V_nil _ _ _ _ _ | exact Kd.Q_nil _ _ _ _ _ | exact Kd.S_nil _ _ _ _ _⟩, ⟨by first | exact Kd.R_nil _ _ _ _ _ | exact Kd.N_nil _ _ _ _ _ | exact Kd.V_nil _ _ _ _ _ | exact Kd.Q_nil _ _ _ _ _ | exact Kd.S_nil _ _ _ _ _⟩, ⟨x_bel⟩⟩
 case round =>
  clear H'
  obtain ⟨x5_1, x6_1, x7_1, rfl, HA, HK1, HO_5, HO_6, HB⟩ := hrel
  cases gk with
  | zero => exact absurd HA.out (by simp [r02_inside.l0])
  | succ k1 =>
   have H := HA.out
   clear HA
   simp only [r02_inside.l0] at H
   rcases x_if H with ⟨c3b0, H⟩ | ⟨c3b0, H⟩
   ·by_cases c4 : 0 ≤ x7_1
    ·rw [if_pos c4] at H
     have c4b0 := decide_eq_true c4
     clear c4
     obtain ⟨c5, H⟩ := x_gp H
     have LMc5 := x_m c5
     clear c5
     obtain ⟨y330, hy330⟩ : ∃ y_ : List Int, y_ = (x5_1 ++ [wrap64 ((rd_T55 l0 x7_1).f0)]) := ⟨_, rfl⟩
     replace H : (if x6_1.length < 17592186044416 then (r02_inside.l0 k1 l0 l1 y330 (x6_1 ++ [wrap64 ((rd_T55 l0 x7_1).f1)]) (wrap64 (x7_1 + 1))) else (none)) = some r := x_hh hy330 H
     have Ny330 := x_m hy330
     clear hy330
     obtain ⟨c6, H⟩ := x_gp H
     have LMc6 := x_m c6
     clear c6
     obtain ⟨y334, hy334⟩ : ∃ y_ : List Int, y_ = (x6_1 ++ [wrap64 ((rd_T55 l0 x7_1).f1)]) := ⟨_, rfl⟩
     replace H : (r02_inside.l0 k1 l0 l1 y330 y334 (wrap64 (x7_1 + 1))) = some r := x_hh hy334 H
     have Ny334 := x_m hy334
     clear hy334
     have H' := x_m H
     clear H
     have p329 : 0 ≤ (x7_1 : Int) := x_da
     have q329 : x7_1 < (l0.length : Int) := x_da
     obtain ⟨ad329, e329, hx329_0, hx329_1⟩ := at_T55 HR0.out x7_1 p329 q329
     cases e329
     replace hx329_0 := x_tr HB.out hx329_0
     replace hx329_1 := x_tr HB.out hx329_1
     replace p329 := eq_true p329
     replace q329 := eq_true q329
     go_wp2_with (first | ((with_reducible refine gate_builtin (b := .append) (xs := #[.tmp 18, .tmp 25]) rfl ?_); at_builtin; refine Kd.R_append (Kd.int .i64) (w0 := w) w.heap.size rfl (.tmp 18) (.tmp 25) 72 3 (.int .i64 0) 8 rfl Tryd.underlying72 info3 rfl (by decide) (by omega) u5 x5_1 (wrap64 ((rd_T55 l0 x7_1).f0)) [.int .i64 (wrap64 ((rd_T55 l0 x7_1).f0))] (fun k_ => some k_ ≠ (u6 : Value).ownBlock) (fun _ => False) rfl rfl ?aP (fun _ hk => hk.elim) ?aF ?aO ?aB ?aS ?aL ?_; (case aP => exact rfl); (case aB => exact x_bel); (case aF => exact (fun k_ hk => Kd.fresh' (Kd.R_lt (x_rr HO_6.out)) k_ hk)); (case aO => exact (x_rr HO_5.out)); (case aS => exact (below_size x_bel)); (case aL => have := LMc5.out; omega); intro v331 w7 ho hb hg hat; rw [← Ny330.out] at ho; replace HO_6 := x_m (Kd.R_after (ok := (fun _ => True)) (by (with_reducible repeat (first | apply Kd.R_alloc | apply Kd.R_drewN | apply Kd.R_drew)); exact Kd.R_mono HO_6.out (fun _ hk => ⟨trivial, hk⟩)) hg hat); replace HB := x_m (hb); have HO332 := x_m (ho); clear HO_5; clear ho hb hg hat; have p333 : 0 ≤ (x7_1 : Int) := x_da; have q333 : x7_1 < (l0.length : Int) := x_da; obtain ⟨ad333, e333, hx333_0, hx333_1⟩ := at_T55 HR0.out x7_1 p333 q333; obtain rfl : ad329 = ad333 := (by injection e333); replace hx333_0 := x_tr HB.out hx333_0; replace hx333_1 := x_tr HB.out hx333_1; replace p333 := eq_true p333; replace q333 := eq_true q333) | ((with_reducible refine gate_builtin (b := .append) (xs := #[.tmp 27, .tmp 34]) rfl ?_); at_builtin; refine Kd.R_append (Kd.int .i64) (w0 := w) w.heap.size rfl (.tmp 27) (.tmp 34) 72 3 (.int .i64 0) 8 rfl Tryd.underlying72 info3 rfl (by decide) (by omega) u6 x6_1 (wrap64 ((rd_T55 l0 x7_1).f1)) [.int .i64 (wrap64 ((rd_T55 l0 x7_1).f1))] (fun k_ => some k_ ≠ (v331 : Value).ownBlock) (fun _ => False) rfl rfl ?aP (fun _ hk => hk.elim) ?aF ?aO ?aB ?aS ?aL ?_; (case aP => exact rfl); (case aB => exact x_bel); (case aF => exact (fun k_ hk => Kd.fresh' (Kd.R_lt (x_rr HO332.out)) k_ hk)); (case aO => exact (by (with_reducible repeat (first | apply Kd.R_alloc | apply Kd.R_drewN | apply Kd.R_drew)); exact Kd.R_mono HO_6.out (fun _ hk => hk.2))); (case aS => exact (below_size x_bel)); (case aL => have := LMc6.out; omega); intro v335 w8 ho hb hg hat; rw [← Ny334.out] at ho; replace HO332 := x_m (Kd.R_after (ok := (fun _ => True)) (by (with_reducible repeat (first | apply Kd.R_alloc | apply Kd.R_drewN | apply Kd.R_drew)); exact Kd.R_mono HO332.out (fun _ hk => ⟨trivial, hk⟩)) hg hat); replace HB := x_m (hb); have HO336 := x_m (ho); clear HO_6; clear ho hb hg hat))
     go_roundg k1
     case measure => have := HK1.out; omega
     case rel => exact ⟨(y330), (y334), (wrap64 (x7_1 + 1)), x_eqs, H', ⟨by have := HK1.out; omega⟩, ⟨by (with_reducible repeat (first | apply Kd.R_alloc | apply Kd.R_drewN | apply Kd.R_drew)); exact Kd.R_mono HO332.out (fun _ hk => hk.2)⟩, ⟨x_rr HO336.out⟩, ⟨x_bel⟩⟩
    rw [if_neg c4] at H
    exact absurd H (by simp)
   replace H := x_bi H
   obtain ⟨t337, A90, H⟩ := H
   have A9 := x_m A90
   clear A90
   replace H := x_bi H
   obtain ⟨t340, A100, H⟩ := H
   have A10 := x_m A100
   clear A100
   by_cases c11 : 0 ≤ (l1.length : Int)
   rotate_left
   ·rw [if_neg c11] at H
    exact absurd H (by simp)

   rw [if_pos c11] at H
   have c11b0 := eq_true c11
   have c11b1 := decide_eq_true c11
   clear c11
   obtain ⟨c12, H⟩ := x_gp H
   have c12b0 := eq_true c12
   have c12b1 := decide_eq_true c12
   clear c12
   obtain ⟨y343, hy343⟩ : ∃ y_ : List Bool, y_ = (List.replicate ((l1.length : Int) : Int).toNat false) := ⟨_, rfl⟩
   replace H : (r02_inside.l1 k1 l1 t337 t340 y343 0 0 0) = some r := x_hh hy343 H
   have Ny343 := x_m hy343
   clear hy343
   have H' := x_m H
   clear H
   obtain ⟨Ao13, co13, eo13⟩ := Kd.R_slice HO_5.out
   subst eo13
   go_wp2_with (first | (go_at_call 70; (with_reducible refine (r02_merged.calls k1 (fun k_ => some k_ = (.slice Ao13 x5_1.length co13 : Value).ownBlock) _ _ x5_1 t337 _ ?side1 A9.out).mono ?_); (case side1 => exact Kd.R_V (Kd.R_tight rfl (HO_5.out))); rintro e w14 ⟨v338, rfl, ho0, hb⟩; have n0_ := x_m (Kd.R_below (x_rr HO_5.out) hb); have n1_ := x_m (Kd.R_below (x_rr HO_6.out) hb); have n2_ := x_m (Kd.V_lower (Kd.V_mono (ok' := fun k_ => some k_ ≠ (u6 : Value).ownBlock) ho0 (fun k_ hk_ => Or.elim hk_ (fun hs_ => ((HO_5.out).1 k_ hs_.symm)) (fun hn_ => (Kd.fresh' (Kd.R_lt (x_rr HO_6.out)) k_ hn_)))) (below_size x_bel)); have n3_ := x_m (below_step x_bel hb); clear HO_5; clear HO_6; clear HB; have HO_5 := n0_; have HO_6 := n1_; have HO339 := n2_; have HB := n3_; clear n0_ n1_ n2_ n3_; (try clear hb); (try clear hb2); (try clear hk); (try clear hi); (try clear ho0); obtain ⟨Ao15, co15, eo15⟩ := Kd.R_slice HO_6.out; subst eo15) | (go_at_call 70; (with_reducible refine (r02_merged.calls k1 (fun k_ => some k_ = (.slice Ao15 x6_1.length co15 : Value).ownBlock) _ _ x6_1 t340 _ ?side1 A10.out).mono ?_); (case side1 => exact Kd.R_V (Kd.R_tight rfl (HO_6.out))); rintro e w16 ⟨v341, rfl, ho0, hb⟩; have n0_ := x_m (Kd.R_below (x_rr HO_5.out) hb); have n1_ := x_m (Kd.R_below (x_rr HO_6.out) hb); have n2_ := x_m (Kd.V_below (x_vv HO339.out) hb); have n3_ := x_m (Kd.V_lower (Kd.V_mono (ok' := fun k_ => some k_ ≠ (.slice Ao13 x5_1.length co13 : Value).ownBlock) ho0 (fun k_ hk_ => Or.elim hk_ (fun hs_ => ((HO_6.out).1 k_ hs_.symm)) (fun hn_ => (Kd.fresh' (Kd.R_lt (x_rr HO_5.out)) k_ hn_)))) (below_size x_bel)); have n4_ := x_m (below_step x_bel hb); clear HO_5; clear HO_6; clear HO339; clear HB; have HO_5 := n0_; have HO_6 := n1_; have HO339 := n2_; have HO342 := n3_; have HB := n4_; clear n0_ n1_ n2_ n3_ n4_; (try clear hb); (try clear hb2); (try clear hk); (try clear hi); (try clear ho0)) | ((with_reducible refine gate_dst (N := 42) rfl ?_); refine Kd.R_make Kd.bool _ 4 rfl (N := 42) rfl 94 _ _ rfl (l1.length : Int) rfl rfl Tryd.underlying94 (.bool false) 1 info4 rfl (by decide) (by omega) false (ok := fun _ => True) (okp := fun _ => True) rfl (fun _ hk => hk) trivial (of_decide_eq_true x_asm) (Nat.le_trans (Nat.mul_le_mul_right _ (of_decide_eq_true x_asm : (l1.length : Int).toNat ≤ 281474976710656)) (by omega)) (Below.refl _ _) (Nat.le_refl _) ?_; intro v344 w17 ho18 hb hg_ hnew_; clear hg_ hnew_; (first | rw [← Ny343.out] at ho18 | (simp only [Int.reduceToNat] at ho18; rw [← Ny343.out] at ho18)); replace HO_5 := x_m (Kd.R_below (x_rr HO_5.out) hb); replace HO_6 := x_m (Kd.R_below (x_rr HO_6.out) hb); replace HO339 := x_m (Kd.V_elder' (x_vv HO339.out) (Kd.R_base ho18) hb); replace HO342 := x_m (Kd.V_elder' (x_vv HO342.out) (Kd.R_base ho18) hb); have HO345 := x_m (Kd.R_lower ho18 (below_size x_bel)); replace HB := x_m (below_step x_bel hb); clear hb ho18))
   go_loopg [9, 10, 11] k1 (fun kq v9 v10 v11 w' => ∃ (x8_2 : List Bool) (x9_2 : Int) (x10_2 : Int) (x11_2 : Int), v9 = .int .i64 x9_2 ∧ v10 = .int .i64 x10_2 ∧ v11 = .int .i64 x11_2 ∧ Aside0 (r02_inside.l1 kq l1 t337 t340 x8_2 x9_2 x10_2 x11_2 = some r) ∧ Aside0 (kq ≤ k1) ∧ Aside0 (Kd.V (Kd.int .i64) 3 w' w.heap.size (fun k_ => some k_ ≠ (v344 : Value).ownBlock) v338 t337) ∧ Aside0 (Kd.V (Kd.int .i64) 3 w' w.heap.size (fun k_ => some k_ ≠ (v344 : Value).ownBlock) v341 t340) ∧ Aside0 (Kd.R Kd.bool 4 w' w.heap.size (fun _ => True) v344 x8_2) ∧ Aside0 (Below w.heap.size w w'))
   case atStart => exact ⟨(y343), (0), (0), (0), x_eqs, x_eqs, x_eqs, H', ⟨Nat.le_refl _⟩, ⟨by (with_reducible repeat (first | apply Kd.V_alloc | apply Kd.V_drewN | apply Kd.V_drew)); exact Kd.V_mono HO339.out (fun _ hk => hk.2)⟩, ⟨by (with_reducible repeat (first | apply Kd.V_alloc | apply Kd.V_drewN | apply Kd.V_drew)); exact Kd.V_mono HO342.out (fun _ hk => hk.2)⟩, ⟨x_rr HO345.out⟩, ⟨x_bel⟩⟩
   case round =>
    clear H'
    obtain ⟨x8_2, x9_2, x10_2, x11_2, rfl, rfl, rfl, HA, HK2, HO_5, HO_6, HO_8, HB⟩ := hrel
    cases gk with
    | zero => exact absurd HA.out (by simp [r02_inside.l1])
    | succ k2 =>
     have H := HA.out
     clear HA
     simp only [r02_inside.l1] at H
     rcases x_fi H with ⟨c19b0, H⟩ | ⟨c19b0, H⟩
     ·obtain rfl := Option.some.inj H
      go_wp2
      repeat (go_quiet (fail); try go_wp2)
      go_ret
      exact ⟨_, by first | rfl | (simp [errW_none, errW_some] <;> rfl) | (simp [*, errW_none, errW_some] <;> rfl), by (with_reducible repeat (first | apply Kd.R_alloc | apply Kd.R_drewN | apply Kd.R_drew)); exact HO_8.out, x_bel⟩
     have HC20 := x_m H
     clear H
     go_upto_block 4 with (fail)
     repeat (go_quiet (fail); go_upto_block 4 with (fail))
     go_cut [9] (fun v9 wc => ∃ (kq : Nat) (x9_19 : Int), v9 = .int .i64 x9_19 ∧ Aside0 (r02_inside.j3 kq l1 t337 t340 x8_2 x9_19 x10_2 x11_2 = some r) ∧ Aside0 (kq ≤ k2) ∧ Aside0 (Kd.V (Kd.int .i64) 3 wc w.heap.size (fun k_ => some k_ ≠ (v344 : Value).ownBlock) v338 t337) ∧ Aside0 (Kd.V (Kd.int .i64) 3 wc w.heap.size (fun k_ => some k_ ≠ (v344 : Value).ownBlock) v341 t340) ∧ Aside0 (Kd.R Kd.bool 4 wc w.heap.size (fun _ => True) v344 x8_2) ∧ Aside0 (Below w.heap.size w wc))
     case first =>
      have H := HC20.out
      clear HC20
      have H' := x_m H
      clear H
      go_wp2
      repeat (go_quiet (fail); try go_wp2)
      go_loopg [9] k2 (fun kq v9 w' => ∃ (x9_3 : Int), v9 = .int .i64 x9_3 ∧ Aside0 (r02_inside.l2 kq l1 t337 t340 x8_2 x9_3 x10_2 x11_2 = some r) ∧ Aside0 (kq ≤ k2) ∧ Aside0 (Kd.V (Kd.int .i64) 3 w' w.heap.size (fun k_ => some k_ ≠ (v344 : Value).ownBlock) v338 t337) ∧ Aside0 (Kd.V (Kd.int .i64) 3 w' w.heap.size (fun k_ => some k_ ≠ (v344 : Value).ownBlock) v341 t340) ∧ Aside0 (Kd.R Kd.bool 4 w' w.heap.size (fun _ => True) v344 x8_2) ∧ Aside0 (Below w.heap.size w w'))
      case atStart => exact ⟨(x9_2), x_eqs, H', ⟨Nat.le_refl _⟩, ⟨by (with_reducible repeat (first | apply Kd.V_alloc | apply Kd.V_drewN | apply Kd.V_drew)); exact HO_5.out⟩, ⟨by (with_reducible repeat (first | apply Kd.V_alloc | apply Kd.V_drewN | apply Kd.V_drew)); exact HO_6.out⟩, ⟨x_rr HO_8.out⟩, ⟨x_bel⟩⟩
      case round =>
       clear H'
       obtain ⟨x9_3, rfl, HA, HK3, HO_5, HO_6, HO_8, HB⟩ := hrel
       cases gk with
       | zero => exact absurd HA.out (by simp [r02_inside.l2])
       | succ k3 =>
        have H := HA.out
        clear HA
        simp only [r02_inside.l2] at H
        rcases x_fi H with ⟨c21b0, H⟩ | ⟨c21b0, H⟩
        ·(first | rw [c21b0] | (simp only [i64_w, i32_w]; rw [c21b0]) | skip)
         have H' := x_m H
         clear H
         obtain ⟨Ao28, co28, eo28⟩ := Kd.V_slice HO_5.out
         subst eo28
         go_wp2
         repeat (go_quiet (fail); try go_wp2)
         go_meet
         case rel => exact ⟨_, (x9_3), x_eqs, H', ⟨by have := HK1.out; have := HK2.out; have := HK3.out; first | omega | exact Nat.le_refl _⟩, ⟨by (with_reducible repeat (first | apply Kd.V_alloc | apply Kd.V_drewN | apply Kd.V_drew)); exact HO_5.out⟩, ⟨by (with_reducible repeat (first | apply Kd.V_alloc | apply Kd.V_drewN | apply Kd.V_drew)); exact HO_6.out⟩, ⟨x_rr HO_8.out⟩, ⟨x_bel⟩⟩
        (first | rw [c21b0] | (simp only [i64_w, i32_w]; rw [c21b0]) | skip)
        obtain ⟨c22b0, H⟩ := x_gd H
        obtain ⟨c23b0, H⟩ := x_gd H
        obtain ⟨c24b0, H⟩ := x_gd H
        rcases x_fi H with ⟨c25b0, H⟩ | ⟨c25b0, H⟩
        ·have H' := x_m H
         clear H
         obtain ⟨Ao27, co27, eo27⟩ := Kd.V_slice HO_5.out
         subst eo27
         have p346 : 0 ≤ (x9_3 : Int) := x_da
         have q346 : x9_3 < (t337.length : Int) := x_da
         obtain ⟨ad346, e346, hx346_0⟩ := Kd.at_int (Kd.V_reads' HO_5.out).2.2 x9_3 p346 q346
         cases e346
         replace p346 := eq_true p346
         replace q346 := eq_true q346
         have p347 : 0 ≤ (x11_2 : Int) := x_da
         have q347 : x11_2 < (l1.length : Int) := x_da
         obtain ⟨ad347, e347, hx347_0, hx347_1⟩ := at_T86 HR1.out x11_2 p347 q347
         cases e347
         replace hx347_0 := x_tr HB.out hx347_0
         replace hx347_1 := x_tr HB.out hx347_1
         replace p347 := eq_true p347
         replace q347 := eq_true q347
         go_wp2
         repeat (go_quiet (fail); try go_wp2)
         go_meet
         case rel => exact ⟨_, (x9_3), x_eqs, H', ⟨by have := HK1.out; have := HK2.out; have := HK3.out; first | omega | exact Nat.le_refl _⟩, ⟨by (with_reducible repeat (first | apply Kd.V_alloc | apply Kd.V_drewN | apply Kd.V_drew)); exact HO_5.out⟩, ⟨by (with_reducible repeat (first | apply Kd.V_alloc | apply Kd.V_drewN | apply Kd.V_drew)); exact HO_6.out⟩, ⟨x_rr HO_8.out⟩, ⟨x_bel⟩⟩
        have H' := x_m H
        clear H
        obtain ⟨Ao26, co26, eo26⟩ := Kd.V_slice HO_5.out
        subst eo26
        have p346 : 0 ≤ (x9_3 : Int) := x_da
        have q346 : x9_3 < (t337.length : Int) := x_da
        obtain ⟨ad346, e346, hx346_0⟩ := Kd.at_int (Kd.V_reads' HO_5.out).2.2 x9_3 p346 q346
        cases e346
        replace p346 := eq_true p346
        replace q346 := eq_true q346
        have p347 : 0 ≤ (x11_2 : Int) := x_da
        have q347 : x11_2 < (l1.length : Int) := x_da
        obtain ⟨ad347, e347, hx347_0, hx347_1⟩ := at_T86 HR1.out x11_2 p347 q347
        cases e347
        replace hx347_0 := x_tr HB.out hx347_0
        replace hx347_1 := x_tr HB.out hx347_1
        replace p347 := eq_true p347
        replace q347 := eq_true q347
        go_wp2
        repeat (go_quiet (fail); try go_wp2)
        go_roundg k3
        case measure => have := HK1.out; have := HK2.out; have := HK3.out; omega
        case rel => exact ⟨(wrap64 (x9_3 + 1)), x_eqs, H', ⟨by have := HK1.out; have := HK2.out; have := HK3.out; omega⟩, ⟨by (with_reducible repeat (first | apply Kd.V_alloc | apply Kd.V_drewN | apply Kd.V_drew)); exact HO_5.out⟩, ⟨by (with_reducible repeat (first | apply Kd.V_alloc | apply Kd.V_drewN | apply Kd.V_drew)); exact HO_6.out⟩, ⟨x_rr HO_8.out⟩, ⟨x_bel⟩⟩
     case rest =>
      clear HC20
      obtain ⟨kq, x9_19, rfl, HA, HJ19, HO_5, HO_6, HO_8, HB⟩ := hcut
      cases kq with
      | zero => exact absurd HA.out (by simp [r02_inside.j3])
      | succ kj19 =>
       have H := HA.out
       clear HA
       simp only [r02_inside.j3] at H
       have H' := x_m H
       clear H
       go_wp2
       repeat (go_quiet (fail); try go_wp2)
       go_loopg [10] kj19 (fun kq v10 w' => ∃ (x10_4 : Int), v10 = .int .i64 x10_4 ∧ Aside0 (r02_inside.l3 kq l1 t337 t340 x8_2 x9_19 x10_4 x11_2 = some r) ∧ Aside0 (kq ≤ kj19) ∧ Aside0 (Kd.V (Kd.int .i64) 3 w' w.heap.size (fun k_ => some k_ ≠ (v344 : Value).ownBlock) v338 t337) ∧ Aside0 (Kd.V (Kd.int .i64) 3 w' w.heap.size (fun k_ => some k_ ≠ (v344 : Value).ownBlock) v341 t340) ∧ Aside0 (Kd.R Kd.bool 4 w' w.heap.size (fun _ => True) v344 x8_2) ∧ Aside0 (Below w.heap.size w w'))
       case atStart => exact ⟨(x10_2), x_eqs, H', ⟨Nat.le_refl _⟩, ⟨by (with_reducible repeat (first | apply Kd.V_alloc | apply Kd.V_drewN | apply Kd.V_drew)); exact HO_5.out⟩, ⟨by (with_reducible repeat (first | apply Kd.V_alloc | apply Kd.V_drewN | apply Kd.V_drew)); exact HO_6.out⟩, ⟨x_rr HO_8.out⟩, ⟨x_bel⟩⟩
       case round =>
        clear H'
        obtain ⟨x10_4, rfl, HA, HK4, HO_5, HO_6, HO_8, HB⟩ := hrel
        cases gk with
        | zero => exact absurd HA.out (by simp [r02_inside.l3])
        | succ k4 =>
         have H := HA.out
         clear HA
         simp only [r02_inside.l3] at H
         rcases x_fi H with ⟨c29b0, H⟩ | ⟨c29b0, H⟩
         ·by_cases c40 : 0 ≤ x11_2
          ·rw [if_pos c40] at H
           have c40b0 := decide_eq_true c40
           clear c40
           obtain ⟨c41b0, H⟩ := x_gd H
           obtain ⟨y351, hy351⟩ : ∃ y_ : List Bool, y_ = (x8_2.set (x11_2 : Int).toNat (decide (x9_19 > x10_4))) := ⟨_, rfl⟩
           replace H : (r02_inside.l1 k4 l1 t337 t340 y351 x9_19 x10_4 (wrap64 (x11_2 + 1))) = some r := x_hh hy351 H
           have Ny351 := x_m hy351
           clear hy351
           have H' := x_m H
           clear H
           obtain ⟨Ao43, co43, eo43⟩ := Kd.V_slice HO_6.out
           subst eo43
           have p42 : 0 ≤ (x11_2 : Int) := x_da
           have q42 : (x11_2 : Int) < ((x8_2.length : Int) : Int) := x_da
           obtain ⟨go42, co42, eo42, gb42, gl42, cl42, HG42⟩ := Kd.R_form HO_8.out (by omega)
           (first | cases eo42 | (injection eo42 with ea_ en_ ec_; (first | subst ea_ | (injection ea_ with ea_; subst ea_)); subst ec_; clear en_))
           have GB42 := x_m gb42
           have GG42 := x_m HG42
           clear gb42 gl42 HG42
           obtain ⟨hx42_0, hf42_0⟩ := Kd.R_celln false HO_8.out (x11_2 : Int) p42 q42
           replace p42 := eq_true p42
           replace q42 := eq_true q42
           obtain ⟨hy44_, hz44_⟩ := Kd.R_celln false HO_8.out (x11_2 : Int) (of_decide_eq_true x_asm) (of_decide_eq_true x_asm)
           have HP44 := Kd.R_putg HO_8.out (x11_2 : Int) (decide (x9_19 > x10_4))
           go_wp2_with (first | ((with_reducible refine gate_store (t := 4) (p := 90) rfl ?_); (try (rw [drewN_self wr]; generalize hq_ : World.drewN wr _ = wr; have n0_ := x_m (XLib.V_atd hq_ HO_5.out); have n1_ := x_m (XLib.V_atd hq_ HO_6.out); have n2_ := x_m (Kd.R_at hq_ HO_8.out); have n3_ := x_m (below_at hq_ HB.out); clear hq_ HO_5 HO_6 HO_8 HB; have HO_5 := n0_; have HO_6 := n1_; have HO_8 := n2_; have HB := n3_; clear n0_ n1_ n2_ n3_; (try (obtain ⟨hy44_, hz44_⟩ := Kd.R_celln false HO_8.out (x11_2 : Int) (of_decide_eq_true x_asm) (of_decide_eq_true x_asm))); (try (have HP44 := Kd.R_putg HO_8.out (x11_2 : Int) (decide (x9_19 > x10_4)))))); refine store_event (t := 4) (p := 90) (v := ?vo_w45) (w1 := (wr.setCell ⟨go42, (x11_2 : Int).toNat, none⟩ (.bool (decide (x9_19 > x10_4))))) ?hg ?ho ?hn ?hr ?_; (case ho => rfl); (case hg => rfl); (case hn => rfl); (case hr => first | (go_simp; done) | (go_simp; rfl)); intro w45 hw; have hg : wr.grownBy w45 (some go42) := (by rw [hw]; exact HP44.2); have hp_ : Kd.R Kd.bool 4 w45 w.heap.size (fun _ => True) (.slice (some ⟨go42, 0, none⟩) x8_2.length co42) y351 := (by rw [hw, Ny351.out]; exact HP44.1); clear HP44; replace HO_5 := x_m (Kd.V_afterv (v := (.slice (some ⟨go42, 0, none⟩) x8_2.length co42)) (v1 := (.slice (some ⟨go42, 0, none⟩) x8_2.length co42)) (ok := (fun _ => True)) (by (with_reducible repeat (first | apply Kd.V_alloc | apply Kd.V_drewN | apply Kd.V_drew)); exact Kd.V_mono HO_5.out (fun _ hk => ⟨trivial, hk⟩)) hg (.inl rfl)); replace HO_6 := x_m (Kd.V_afterv (v := (.slice (some ⟨go42, 0, none⟩) x8_2.length co42)) (v1 := (.slice (some ⟨go42, 0, none⟩) x8_2.length co42)) (ok := (fun _ => True)) (by (with_reducible repeat (first | apply Kd.V_alloc | apply Kd.V_drewN | apply Kd.V_drew)); exact Kd.V_mono HO_6.out (fun _ hk => ⟨trivial, hk⟩)) hg (.inl rfl)); replace HO_8 := x_m (hp_); replace HB := x_m ((by rw [hw]; exact below_set (HB.out) GB42.out : Below w.heap.size w w45)); clear hg hw hp_))
           repeat (go_quiet (first | ((with_reducible refine gate_store (t := 4) (p := 90) rfl ?_); (try (rw [drewN_self wr]; generalize hq_ : World.drewN wr _ = wr; have n0_ := x_m (XLib.V_atd hq_ HO_5.out); have n1_ := x_m (XLib.V_atd hq_ HO_6.out); have n2_ := x_m (Kd.R_at hq_ HO_8.out); have n3_ := x_m (below_at hq_ HB.out); clear hq_ HO_5 HO_6 HO_8 HB; have HO_5 := n0_; have HO_6 := n1_; have HO_8 := n2_; have HB := n3_; clear n0_ n1_ n2_ n3_; (try (obtain ⟨hy44_, hz44_⟩ := Kd.R_celln false HO_8.out (x11_2 : Int) (of_decide_eq_true x_asm) (of_decide_eq_true x_asm))); (try (have HP44 := Kd.R_putg HO_8.out (x11_2 : Int) (decide (x9_19 > x10_4)))))); refine store_event (t := 4) (p := 90) (v := ?vo_w45) (w1 := (wr.setCell ⟨go42, (x11_2 : Int).toNat, none⟩ (.bool (decide (x9_19 > x10_4))))) ?hg ?ho ?hn ?hr ?_; (case ho => rfl); (case hg => rfl); (case hn => rfl); (case hr => first | (go_simp; done) | (go_simp; rfl)); intro w45 hw; have hg : wr.grownBy w45 (some go42) := (by rw [hw]; exact HP44.2); have hp_ : Kd.R Kd.bool 4 w45 w.heap.size (fun _ => True) (.slice (some ⟨go42, 0, none⟩) x8_2.length co42) y351 := (by rw [hw, Ny351.out]; exact HP44.1); clear HP44; replace HO_5 := x_m (Kd.V_afterv (v := (.slice (some ⟨go42, 0, none⟩) x8_2.length co42)) (v1 := (.slice (some ⟨go42, 0, none⟩) x8_2.length co42)) (ok := (fun _ => True)) (by (with_reducible repeat (first | apply Kd.V_alloc | apply Kd.V_drewN | apply Kd.V_drew)); exact Kd.V_mono HO_5.out (fun _ hk => ⟨trivial, hk⟩)) hg (.inl rfl)); replace HO_6 := x_m (Kd.V_afterv (v := (.slice (some ⟨go42, 0, none⟩) x8_2.length co42)) (v1 := (.slice (some ⟨go42, 0, none⟩) x8_2.length co42)) (ok := (fun _ => True)) (by (with_reducible repeat (first | apply Kd.V_alloc | apply Kd.V_drewN | apply Kd.V_drew)); exact Kd.V_mono HO_6.out (fun _ hk => ⟨trivial, hk⟩)) hg (.inl rfl)); replace HO_8 := x_m (hp_); replace HB := x_m ((by rw [hw]; exact below_set (HB.out) GB42.out : Below w.heap.size w w45)); clear hg hw hp_)); try go_wp2_with (first | ((with_reducible refine gate_store (t := 4) (p := 90) rfl ?_); (try (rw [drewN_self wr]; generalize hq_ : World.drewN wr _ = wr; have n0_ := x_m (XLib.V_atd hq_ HO_5.out); have n1_ := x_m (XLib.V_atd hq_ HO_6.out); have n2_ := x_m (Kd.R_at hq_ HO_8.out); have n3_ := x_m (below_at hq_ HB.out); clear hq_ HO_5 HO_6 HO_8 HB; have HO_5 := n0_; have HO_6 := n1_; have HO_8 := n2_; have HB := n3_; clear n0_ n1_ n2_ n3_; (try (obtain ⟨hy44_, hz44_⟩ := Kd.R_celln false HO_8.out (x11_2 : Int) (of_decide_eq_true x_asm) (of_decide_eq_true x_asm))); (try (have HP44 := Kd.R_putg HO_8.out (x11_2 : Int) (decide (x9_19 > x10_4)))))); refine store_event (t := 4) (p := 90) (v := ?vo_w45) (w1 := (wr.setCell ⟨go42, (x11_2 : Int).toNat, none⟩ (.bool (decide (x9_19 > x10_4))))) ?hg ?ho ?hn ?hr ?_; (case ho => rfl); (case hg => rfl); (case hn => rfl); (case hr => first | (go_simp; done) | (go_simp; rfl)); intro w45 hw; have hg : wr.grownBy w45 (some go42) := (by rw [hw]; exact HP44.2); have hp_ : Kd.R Kd.bool 4 w45 w.heap.size (fun _ => True) (.slice (some ⟨go42, 0, none⟩) x8_2.length co42) y351 := (by rw [hw, Ny351.out]; exact HP44.1); clear HP44; replace HO_5 := x_m (Kd.V_afterv (v := (.slice (some ⟨go42, 0, none⟩) x8_2.length co42)) (v1 := (.slice (some ⟨go42, 0, none⟩) x8_2.length co42)) (ok := (fun _ => True)) (by (with_reducible repeat (first | apply Kd.V_alloc | apply Kd.V_drewN | apply Kd.V_drew)); exact Kd.V_mono HO_5.out (fun _ hk => ⟨trivial, hk⟩)) hg (.inl rfl)); replace HO_6 := x_m (Kd.V_afterv (v := (.slice (some ⟨go42, 0, none⟩) x8_2.length co42)) (v1 := (.slice (some ⟨go42, 0, none⟩) x8_2.length co42)) (ok := (fun _ => True)) (by (with_reducible repeat (first | apply Kd.V_alloc | apply Kd.V_drewN | apply Kd.V_drew)); exact Kd.V_mono HO_6.out (fun _ hk => ⟨trivial, hk⟩)) hg (.inl rfl)); replace HO_8 := x_m (hp_); replace HB := x_m ((by rw [hw]; exact below_set (HB.out) GB42.out : Below w.heap.size w w45)); clear hg hw hp_)))
           go_roundg k4
           case measure => have := HK1.out; have := HK2.out; have := HJ19.out; have := HK4.out; omega
           case rel => exact ⟨(y351), (x9_19), (x10_4), (wrap64 (x11_2 + 1)), x_eqs, x_eqs, x_eqs, H', ⟨by have := HK1.out; have := HK2.out; have := HJ19.out; have := HK4.out; omega⟩, ⟨by (with_reducible repeat (first | apply Kd.V_alloc | apply Kd.V_drewN | apply Kd.V_drew)); exact Kd.V_mono HO_5.out (fun _ hk => hk.2)⟩, ⟨by (with_reducible repeat (first | apply Kd.V_alloc | apply Kd.V_drewN | apply Kd.V_drew)); exact Kd.V_mono HO_6.out (fun _ hk => hk.2)⟩, ⟨x_rr HO_8.out⟩, ⟨x_bel⟩⟩
          rw [if_neg c40] at H
          exact absurd H (by simp)
         obtain ⟨c30b0, H⟩ := x_gd H
         obtain ⟨c31b0, H⟩ := x_gd H
         obtain ⟨c32b0, H⟩ := x_gd H
         rcases x_if H with ⟨c33b0, H⟩ | ⟨c33b0, H⟩
         ·have H' := x_m H
          clear H
          obtain ⟨Ao34, co34, eo34⟩ := Kd.V_slice HO_6.out
          subst eo34
          have p348 : 0 ≤ (x10_4 : Int) := x_da
          have q348 : x10_4 < (t340.length : Int) := x_da
          obtain ⟨ad348, e348, hx348_0⟩ := Kd.at_int (Kd.V_reads' HO_6.out).2.2 x10_4 p348 q348
          cases e348
          replace p348 := eq_true p348
          replace q348 := eq_true q348
          have p349 : 0 ≤ (x11_2 : Int) := x_da
          have q349 : x11_2 < (l1.length : Int) := x_da
          obtain ⟨ad349, e349, hx349_0, hx349_1⟩ := at_T86 HR1.out x11_2 p349 q349
          cases e349
          replace hx349_0 := x_tr HB.out hx349_0
          replace hx349_1 := x_tr HB.out hx349_1
          replace p349 := eq_true p349
          replace q349 := eq_true q349
          go_wp2
          repeat (go_quiet (fail); try go_wp2)
          go_roundg k4
          case measure => have := HK1.out; have := HK2.out; have := HJ19.out; have := HK4.out; omega
          case rel => exact ⟨(wrap64 (x10_4 + 1)), x_eqs, H', ⟨by have := HK1.out; have := HK2.out; have := HJ19.out; have := HK4.out; omega⟩, ⟨by (with_reducible repeat (first | apply Kd.V_alloc | apply Kd.V_drewN | apply Kd.V_drew)); exact HO_5.out⟩, ⟨by (with_reducible repeat (first | apply Kd.V_alloc | apply Kd.V_drewN | apply Kd.V_drew)); exact HO_6.out⟩, ⟨x_rr HO_8.out⟩, ⟨x_bel⟩⟩
         obtain ⟨c35b0, H⟩ := x_gd H
         obtain ⟨y350, hy350⟩ : ∃ y_ : List Bool, y_ = (x8_2.set (x11_2 : Int).toNat (decide (x9_19 > x10_4))) := ⟨_, rfl⟩
         replace H : (r02_inside.l1 k4 l1 t337 t340 y350 x9_19 x10_4 (wrap64 (x11_2 + 1))) = some r := x_hh hy350 H
         have Ny350 := x_m hy350
         clear hy350
         have H' := x_m H
         clear H
         obtain ⟨Ao37, co37, eo37⟩ := Kd.V_slice HO_6.out
         subst eo37
         have p348 : 0 ≤ (x10_4 : Int) := x_da
         have q348 : x10_4 < (t340.length : Int) := x_da
         obtain ⟨ad348, e348, hx348_0⟩ := Kd.at_int (Kd.V_reads' HO_6.out).2.2 x10_4 p348 q348
         cases e348
         replace p348 := eq_true p348
         replace q348 := eq_true q348
         have p349 : 0 ≤ (x11_2 : Int) := x_da
         have q349 : x11_2 < (l1.length : Int) := x_da
         obtain ⟨ad349, e349, hx349_0, hx349_1⟩ := at_T86 HR1.out x11_2 p349 q349
         cases e349
         replace hx349_0 := x_tr HB.out hx349_0
         replace hx349_1 := x_tr HB.out hx349_1
         replace p349 := eq_true p349
         replace q349 := eq_true q349
         have p36 : 0 ≤ (x11_2 : Int) := x_da
         have q36 : (x11_2 : Int) < ((x8_2.length : Int) : Int) := x_da
         obtain ⟨go36, co36, eo36, gb36, gl36, cl36, HG36⟩ := Kd.R_form HO_8.out (by omega)
         (first | cases eo36 | (injection eo36 with ea_ en_ ec_; (first | subst ea_ | (injection ea_ with ea_; subst ea_)); subst ec_; clear en_))
         have GB36 := x_m gb36
         have GG36 := x_m HG36
         clear gb36 gl36 HG36
         obtain ⟨hx36_0, hf36_0⟩ := Kd.R_celln false HO_8.out (x11_2 : Int) p36 q36
         replace p36 := eq_true p36
         replace q36 := eq_true q36
         obtain ⟨hy38_, hz38_⟩ := Kd.R_celln false HO_8.out (x11_2 : Int) (of_decide_eq_true x_asm) (of_decide_eq_true x_asm)
         have HP38 := Kd.R_putg HO_8.out (x11_2 : Int) (decide (x9_19 > x10_4))
         go_wp2_with (first | ((with_reducible refine gate_store (t := 4) (p := 90) rfl ?_); (try (rw [drewN_self wr]; generalize hq_ : World.drewN wr _ = wr; have n0_ := x_m (XLib.V_atd hq_ HO_5.out); have n1_ := x_m (XLib.V_atd hq_ HO_6.out); have n2_ := x_m (Kd.R_at hq_ HO_8.out); have n3_ := x_m (below_at hq_ HB.out); clear hq_ HO_5 HO_6 HO_8 HB; have HO_5 := n0_; have HO_6 := n1_; have HO_8 := n2_; have HB := n3_; clear n0_ n1_ n2_ n3_; (try (obtain ⟨hy38_, hz38_⟩ := Kd.R_celln false HO_8.out (x11_2 : Int) (of_decide_eq_true x_asm) (of_decide_eq_true x_asm))); (try (have HP38 := Kd.R_putg HO_8.out (x11_2 : Int) (decide (x9_19 > x10_4)))))); refine store_event (t := 4) (p := 90) (v := ?vo_w39) (w1 := (wr.setCell ⟨go36, (x11_2 : Int).toNat, none⟩ (.bool (decide (x9_19 > x10_4))))) ?hg ?ho ?hn ?hr ?_; (case ho => rfl); (case hg => rfl); (case hn => rfl); (case hr => first | (go_simp; done) | (go_simp; rfl)); intro w39 hw; have hg : wr.grownBy w39 (some go36) := (by rw [hw]; exact HP38.2); have hp_ : Kd.R Kd.bool 4 w39 w.heap.size (fun _ => True) (.slice (some ⟨go36, 0, none⟩) x8_2.length co36) y350 := (by rw [hw, Ny350.out]; exact HP38.1); clear HP38; replace HO_5 := x_m (Kd.V_afterv (v := (.slice (some ⟨go36, 0, none⟩) x8_2.length co36)) (v1 := (.slice (some ⟨go36, 0, none⟩) x8_2.length co36)) (ok := (fun _ => True)) (by (with_reducible repeat (first | apply Kd.V_alloc | apply Kd.V_drewN | apply Kd.V_drew)); exact Kd.V_mono HO_5.out (fun _ hk => ⟨trivial, hk⟩)) hg (.inl rfl)); replace HO_6 := x_m (Kd.V_afterv (v := (.slice (some ⟨go36, 0, none⟩) x8_2.length co36)) (v1 := (.slice (some ⟨go36, 0, none⟩) x8_2.length co36)) (ok := (fun _ => True)) (by (with_reducible repeat (first | apply Kd.V_alloc | apply Kd.V_drewN | apply Kd.V_drew)); exact Kd.V_mono HO_6.out (fun _ hk => ⟨trivial, hk⟩)) hg (.inl rfl)); replace HO_8 := x_m (hp_); replace HB := x_m ((by rw [hw]; exact below_set (HB.out) GB36.out : Below w.heap.size w w39)); clear hg hw hp_))
         repeat (go_quiet (first | ((with_reducible refine gate_store (t := 4) (p := 90) rfl ?_); (try (rw [drewN_self wr]; generalize hq_ : World.drewN wr _ = wr; have n0_ := x_m (XLib.V_atd hq_ HO_5.out); have n1_ := x_m (XLib.V_atd hq_ HO_6.out); have n2_ := x_m (Kd.R_at hq_ HO_8.out); have n3_ := x_m (below_at hq_ HB.out); clear hq_ HO_5 HO_6 HO_8 HB; have HO_5 := n0_; have HO_6 := n1_; have HO_8 := n2_; have HB := n3_; clear n0_ n1_ n2_ n3_; (try (obtain ⟨hy38_, hz38_⟩ := Kd.R_celln false HO_8.out (x11_2 : Int) (of_decide_eq_true x_asm) (of_decide_eq_true x_asm))); (try (have HP38 := Kd.R_putg HO_8.out (x11_2 : Int) (decide (x9_19 > x10_4)))))); refine store_event (t := 4) (p := 90) (v := ?vo_w39) (w1 := (wr.setCell ⟨go36, (x11_2 : Int).toNat, none⟩ (.bool (decide (x9_19 > x10_4))))) ?hg ?ho ?hn ?hr ?_; (case ho => rfl); (case hg => rfl); (case hn => rfl); (case hr => first | (go_simp; done) | (go_simp; rfl)); intro w39 hw; have hg : wr.grownBy w39 (some go36) := (by rw [hw]; exact HP38.2); have hp_ : Kd.R Kd.bool 4 w39 w.heap.size (fun _ => True) (.slice (some ⟨go36, 0, none⟩) x8_2.length co36) y350 := (by rw [hw, Ny350.out]; exact HP38.1); clear HP38; replace HO_5 := x_m (Kd.V_afterv (v := (.slice (some ⟨go36, 0, none⟩) x8_2.length co36)) (v1 := (.slice (some ⟨go36, 0, none⟩) x8_2.length co36)) (ok := (fun _ => True)) (by (with_reducible repeat (first | apply Kd.V_alloc | apply Kd.V_drewN | apply Kd.V_drew)); exact Kd.V_mono HO_5.out (fun _ hk => ⟨trivial, hk⟩)) hg (.inl rfl)); replace HO_6 := x_m (Kd.V_afterv (v := (.slice (some ⟨go36, 0, none⟩) x8_2.length co36)) (v1 := (.slice (some ⟨go36, 0, none⟩) x8_2.length co36)) (ok := (fun _ => True)) (by (with_reducible repeat (first | apply Kd.V_alloc | apply Kd.V_drewN | apply Kd.V_drew)); exact Kd.V_mono HO_6.out (fun _ hk => ⟨trivial, hk⟩)) hg (.inl rfl)); replace HO_8 := x_m (hp_); replace HB := x_m ((by rw [hw]; exact below_set (HB.out) GB36.out : Below w.heap.size w w39)); clear hg hw hp_)); try go_wp2_with (first | ((with_reducible refine gate_store (t := 4) (p := 90) rfl ?_); (try (rw [drewN_self wr]; generalize hq_ : World.drewN wr _ = wr; have n0_ := x_m (XLib.V_atd hq_ HO_5.out); have n1_ := x_m (XLib.V_atd hq_ HO_6.out); have n2_ := x_m (Kd.R_at hq_ HO_8.out); have n3_ := x_m (below_at hq_ HB.out); clear hq_ HO_5 HO_6 HO_8 HB; have HO_5 := n0_; have HO_6 := n1_; have HO_8 := n2_; have HB := n3_; clear n0_ n1_ n2_ n3_; (try (obtain ⟨hy38_, hz38_⟩ := Kd.R_celln false HO_8.out (x11_2 : Int) (of_decide_eq_true x_asm) (of_decide_eq_true x_asm))); (try (have HP38 := Kd.R_putg HO_8.out (x11_2 : Int) (decide (x9_19 > x10_4)))))); refine store_event (t := 4) (p := 90) (v := ?vo_w39) (w1 := (wr.setCell ⟨go36, (x11_2 : Int).toNat, none⟩ (.bool (decide (x9_19 > x10_4))))) ?hg ?ho ?hn ?hr ?_; (case ho => rfl); (case hg => rfl); (case hn => rfl); (case hr => first | (go_simp; done) | (go_simp; rfl)); intro w39 hw; have hg : wr.grownBy w39 (some go36) := (by rw [hw]; exact HP38.2); have hp_ : Kd.R Kd.bool 4 w39 w.heap.size (fun _ => True) (.slice (some ⟨go36, 0, none⟩) x8_2.length co36) y350 := (by rw [hw, Ny350.out]; exact HP38.1); clear HP38; replace HO_5 := x_m (Kd.V_afterv (v := (.slice (some ⟨go36, 0, none⟩) x8_2.length co36)) (v1 := (.slice (some ⟨go36, 0, none⟩) x8_2.length co36)) (ok := (fun _ => True)) (by (with_reducible repeat (first | apply Kd.V_alloc | apply Kd.V_drewN | apply Kd.V_drew)); exact Kd.V_mono HO_5.out (fun _ hk => ⟨trivial, hk⟩)) hg (.inl rfl)); replace HO_6 := x_m (Kd.V_afterv (v := (.slice (some ⟨go36, 0, none⟩) x8_2.length co36)) (v1 := (.slice (some ⟨go36, 0, none⟩) x8_2.length co36)) (ok := (fun _ => True)) (by (with_reducible repeat (first | apply Kd.V_alloc | apply Kd.V_drewN | apply Kd.V_drew)); exact Kd.V_mono HO_6.out (fun _ hk => ⟨trivial, hk⟩)) hg (.inl rfl)); replace HO_8 := x_m (hp_); replace HB := x_m ((by rw [hw]; exact below_set (HB.out) GB36.out : Below w.heap.size w w39)); clear hg hw hp_)))
         go_roundg k4
         case measure => have := HK1.out; have := HK2.out; have := HJ19.out; have := HK4.out; omega
         case rel => exact ⟨(y350), (x9_19), (x10_4), (wrap64 (x11_2 + 1)), x_eqs, x_eqs, x_eqs, H', ⟨by have := HK1.out; have := HK2.out; have := HJ19.out; have := HK4.out; omega⟩, ⟨by (with_reducible repeat (first | apply Kd.V_alloc | apply Kd.V_drewN | apply Kd.V_drew)); exact Kd.V_mono HO_5.out (fun _ hk => hk.2)⟩, ⟨by (with_reducible repeat (first | apply Kd.V_alloc | apply Kd.V_drewN | apply Kd.V_drew)); exact Kd.V_mono HO_6.out (fun _ hk => hk.2)⟩, ⟨x_rr HO_8.out⟩, ⟨x_bel⟩⟩
def r02_join.f (l0 : List (S55)) (a1_0 : Int) (a1_1 : Int) : Option ((List (S55))) := if (l0.length : Int) > 0 then (if 0 ≤ (wrap64 ((l0.length : Int) - 1)) then (if (wrap64 ((l0.length : Int) - 1)) < (l0.length : Int) then (if (wrap64 ((wrap64 ((rd_T55 l0 (wrap64 ((l0.length : Int) - 1))).f1)) + 1)) = a1_0 then (some (l0.set ((wrap64 ((l0.length : Int) - 1)) : Int).toNat (⟨(rd_T55 l0 (wrap64 ((l0.length : Int) - 1))).f0, wrap32 (a1_1)⟩ : S55))) else (if l0.length < 17592186044416 then (some (l0 ++ [(⟨wrap32 (a1_0), wrap32 (a1_1)⟩ : S55)])) else (none))) else (none)) else (none)) else (if l0.length < 17592186044416 then (some (l0 ++ [(⟨wrap32 (a1_0), wrap32 (a1_1)⟩ : S55)])) else (none))
theorem r02_join.calls (P0_ : Nat → Prop) (u9000_ : Value) (l0 : List (S55)) (a1_0 : Int) (a1_1 : Int) (r : List (S55)) (w0 w : World) (hB : Below w0.heap.size w0 w) (ho0 : Kd.R k55 55 w w0.heap.size P0_ u9000_ l0) (h : r02_join.f l0 a1_0 a1_1 = some r) :
  Calls Tryd.prog 59 #[u9000_, .agg #[.int .i64 a1_0, .int .i64 a1_1]] w fun e w' => ∃ v0_ : Value, e = .returned (v0_) ∧ Kd.R k55 55 w' w0.heap.size (fun k_ => (P0_ k_ ∨ w.heap.size ≤ k_)) v0_ r ∧ Below w0.heap.size w0 w' ∧ Kept w w' (fun k_ => P0_ k_) := by
 have hu86 := Tryd.underlying86
 have hu55 := Tryd.underlying55
 have HO0 := x_m (show Kd.R k55 55 w w0.heap.size (fun k_ => (P0_ k_ ∨ w.heap.size ≤ k_)) u9000_ l0 from Kd.R_mono ho0 (fun k_ hk => (.inl hk)))
 have HK := x_m (Kept.refl w (fun k_ => P0_ k_))
 have HW0 := x_m hB.size
 have HB := x_m hB
 clear hB
 have H : (if (l0.length : Int) > 0 then (if 0 ≤ (wrap64 ((l0.length : Int) - 1)) then (if (wrap64 ((l0.length : Int) - 1)) < (l0.length : Int) then (if (wrap64 ((wrap64 ((rd_T55 l0 (wrap64 ((l0.length : Int) - 1))).f1)) + 1)) = a1_0 then (some (l0.set ((wrap64 ((l0.length : Int) - 1)) : Int).toNat (⟨(rd_T55 l0 (wrap64 ((l0.length : Int) - 1))).f0, wrap32 (a1_1)⟩ : S55))) else (if l0.length < 17592186044416 then (some (l0 ++ [(⟨wrap32 (a1_0), wrap32 (a1_1)⟩ : S55)])) else (none))) else (none)) else (none)) else (if l0.length < 17592186044416 then (some (l0 ++ [(⟨wrap32 (a1_0), wrap32 (a1_1)⟩ : S55)])) else (none))) = some r := h
 clear h
 by_cases c3 : (l0.length : Int) > 0
 rotate_left
 ·rw [if_neg c3] at H
  have c3b0 := decide_eq_false c3
  have c3b1 : decide (0 < l0.length) = false := decide_eq_false (by omega)
  clear c3
  by_cases c19 : l0.length < 17592186044416
  rotate_left
  ·rw [if_neg c19] at H
   exact absurd H (by simp)

  rw [if_pos c19] at H
  have LMc19 := x_m c19
  clear c19
  obtain ⟨y358, hy358⟩ : ∃ y_ : List (S55), y_ = (l0 ++ [(⟨wrap32 (a1_0), wrap32 (a1_1)⟩ : S55)]) := ⟨_, rfl⟩
  replace H : (some y358) = some r := x_hh hy358 H
  have Ny358 := x_m hy358
  clear hy358
  obtain rfl := Option.some.inj H
  go_enter Tryd.func59, Tryd.ntmps59
  go_wp2_with (first | ((with_reducible refine gate_dst (N := 3) rfl ?_); refine box_event ?hg (N := 3) ?hd (cs := #[.int .i64 a1_0, .int .i64 a1_1]) (t := 86) ?hr ?_; (case hd => rfl); (case hg => rfl); (case hr => first | (go_simp; done) | (go_simp; rfl)); intro gb352 hg w20 hbox hb; have n0_ := x_m (Kd.R_below (x_rr HO0.out) hb); have n1_ := x_m (Kept.below (S := (fun k_ => P0_ k_)) (by repeat (first | (with_reducible first | exact HK.out | apply Kept.alloc | apply Kept.drewN | apply Kept.drew) | exact HK.out)) hb); have n2_ := x_m (below_step x_bel hb); have n3_ := x_m (hbox); have n4_ := x_m ((by rw [hg]; exact (by first | exact HK.out.1 | exact (show Kept w _ (fun k_ => P0_ k_) from by repeat (first | (with_reducible first | exact HK.out | apply Kept.alloc | apply Kept.drewN | apply Kept.drew) | exact HK.out)).1) : w.heap.size ≤ gb352)); have n5_ := x_m ((by rw [hg]; exact (below_size x_bel) : w0.heap.size ≤ gb352)); clear HO0; clear HK; clear HB; have HO0 := n0_; have HK := n1_; have HB := n2_; have BK352 := n3_; have GW352 := n4_; have GE352 := n5_; clear n0_ n1_ n2_ n3_ n4_ n5_; clear hb hbox hg; obtain ⟨Ao21, co21, eo21⟩ := Kd.R_slice HO0.out; subst eo21; have hcz22_0 := x_cz BK352.out 0 rfl; have hcz22_1 := x_cz BK352.out 1 rfl; have hfz22_0 := blk_frozen BK352.out 0; have hfz22_1 := blk_frozen BK352.out 1) | ((with_reducible refine gate_builtin (b := .append) (xs := #[.tmp 32, .tmp 40]) rfl ?_); at_builtin; refine Kd.R_append k55 (w0 := w0) w0.heap.size rfl (.tmp 32) (.tmp 40) 25 55 (.agg #[(.int .i32 0), (.int .i32 0)]) 8 rfl Tryd.underlying25 info55 rfl (by decide) (by omega) (.slice Ao21 l0.length co21) l0 (⟨wrap32 (a1_0), wrap32 (a1_1)⟩ : S55) [.int .i32 (wrap32 (a1_0)), .int .i32 (wrap32 (a1_1))] (fun k_ => (P0_ k_ ∨ w.heap.size ≤ k_)) (fun _ => False) rfl rfl ?aP (fun _ hk => hk.elim) ?aF ?aO ?aB ?aS ?aL ?_; (case aP => exact k55_mkM _ _ _ (⟨wrap32 (a1_0), wrap32 (a1_1)⟩ : S55)); (case aB => exact x_bels); (case aF => exact (fun k_ hk => (.inr (Nat.le_trans (by first | exact HK.out.1 | exact (show Kept w _ (fun k_ => P0_ k_) from by repeat (first | (with_reducible first | exact HK.out | apply Kept.alloc | apply Kept.drewN | apply Kept.drew | refine Kept.setCell ?_ (.inr GW352.out) _) | exact HK.out)).1) hk)))); (case aO => exact (x_rr HO0.out)); (case aS => exact (below_size x_bels)); (case aL => have := LMc19.out; omega); intro v359 w23 ho hb hg hat; rw [← Ny358.out] at ho; have n0_ := x_m (blk_grown (g := gb352) (o := .cells #[.int .i64 a1_0, .int .i64 a1_1] 86 (0, 0)) (x_bk BK352.out) hg (Kd.R_ne HO0.out BK352.out (by decide))); have n1_ := x_m (hb); have n2_ := x_m (Kept.of_grown (S := (fun k_ => P0_ k_)) hg (by repeat (first | (with_reducible first | exact HK.out | apply Kept.alloc | apply Kept.drewN | apply Kept.drew | refine Kept.setCell ?_ (.inr GW352.out) _) | exact HK.out)) (fun k_ e_ => (HO0.out.1 k_ e_))); have n3_ := x_m (ho); clear BK352; clear HB; clear HK; clear HO0; have BK352 := n0_; have HB := n1_; have HK := n2_; have HO360 := n3_; clear n0_ n1_ n2_ n3_; clear ho hb hg hat))
  repeat (go_quiet (first | ((with_reducible refine gate_dst (N := 3) rfl ?_); refine box_event ?hg (N := 3) ?hd (cs := #[.int .i64 a1_0, .int .i64 a1_1]) (t := 86) ?hr ?_; (case hd => rfl); (case hg => rfl); (case hr => first | (go_simp; done) | (go_simp; rfl)); intro gb352 hg w20 hbox hb; have n0_ := x_m (Kd.R_below (x_rr HO0.out) hb); have n1_ := x_m (Kept.below (S := (fun k_ => P0_ k_)) (by repeat (first | (with_reducible first | exact HK.out | apply Kept.alloc | apply Kept.drewN | apply Kept.drew) | exact HK.out)) hb); have n2_ := x_m (below_step x_bel hb); have n3_ := x_m (hbox); have n4_ := x_m ((by rw [hg]; exact (by first | exact HK.out.1 | exact (show Kept w _ (fun k_ => P0_ k_) from by repeat (first | (with_reducible first | exact HK.out | apply Kept.alloc | apply Kept.drewN | apply Kept.drew) | exact HK.out)).1) : w.heap.size ≤ gb352)); have n5_ := x_m ((by rw [hg]; exact (below_size x_bel) : w0.heap.size ≤ gb352)); clear HO0; clear HK; clear HB; have HO0 := n0_; have HK := n1_; have HB := n2_; have BK352 := n3_; have GW352 := n4_; have GE352 := n5_; clear n0_ n1_ n2_ n3_ n4_ n5_; clear hb hbox hg; obtain ⟨Ao21, co21, eo21⟩ := Kd.R_slice HO0.out; subst eo21; have hcz22_0 := x_cz BK352.out 0 rfl; have hcz22_1 := x_cz BK352.out 1 rfl; have hfz22_0 := blk_frozen BK352.out 0; have hfz22_1 := blk_frozen BK352.out 1) | ((with_reducible refine gate_builtin (b := .append) (xs := #[.tmp 32, .tmp 40]) rfl ?_); at_builtin; refine Kd.R_append k55 (w0 := w0) w0.heap.size rfl (.tmp 32) (.tmp 40) 25 55 (.agg #[(.int .i32 0), (.int .i32 0)]) 8 rfl Tryd.underlying25 info55 rfl (by decide) (by omega) (.slice Ao21 l0.length co21) l0 (⟨wrap32 (a1_0), wrap32 (a1_1)⟩ : S55) [.int .i32 (wrap32 (a1_0)), .int .i32 (wrap32 (a1_1))] (fun k_ => (P0_ k_ ∨ w.heap.size ≤ k_)) (fun _ => False) rfl rfl ?aP (fun _ hk => hk.elim) ?aF ?aO ?aB ?aS ?aL ?_; (case aP => exact k55_mkM _ _ _ (⟨wrap32 (a1_0), wrap32 (a1_1)⟩ : S55)); (case aB => exact x_bels); (case aF => exact (fun k_ hk => (.inr (Nat.le_trans (by first | exact HK.out.1 | exact (show Kept w _ (fun k_ => P0_ k_) from by repeat (first | (with_reducible first | exact HK.out | apply Kept.alloc | apply Kept.drewN | apply Kept.drew | refine Kept.setCell ?_ (.inr GW352.out) _) | exact HK.out)).1) hk)))); (case aO => exact (x_rr HO0.out)); (case aS => exact (below_size x_bels)); (case aL => have := LMc19.out; omega); intro v359 w23 ho hb hg hat; rw [← Ny358.out] at ho; have n0_ := x_m (blk_grown (g := gb352) (o := .cells #[.int .i64 a1_0, .int .i64 a1_1] 86 (0, 0)) (x_bk BK352.out) hg (Kd.R_ne HO0.out BK352.out (by decide))); have n1_ := x_m (hb); have n2_ := x_m (Kept.of_grown (S := (fun k_ => P0_ k_)) hg (by repeat (first | (with_reducible first | exact HK.out | apply Kept.alloc | apply Kept.drewN | apply Kept.drew | refine Kept.setCell ?_ (.inr GW352.out) _) | exact HK.out)) (fun k_ e_ => (HO0.out.1 k_ e_))); have n3_ := x_m (ho); clear BK352; clear HB; clear HK; clear HO0; have BK352 := n0_; have HB := n1_; have HK := n2_; have HO360 := n3_; clear n0_ n1_ n2_ n3_; clear ho hb hg hat)); try go_wp2_with (first | ((with_reducible refine gate_dst (N := 3) rfl ?_); refine box_event ?hg (N := 3) ?hd (cs := #[.int .i64 a1_0, .int .i64 a1_1]) (t := 86) ?hr ?_; (case hd => rfl); (case hg => rfl); (case hr => first | (go_simp; done) | (go_simp; rfl)); intro gb352 hg w20 hbox hb; have n0_ := x_m (Kd.R_below (x_rr HO0.out) hb); have n1_ := x_m (Kept.below (S := (fun k_ => P0_ k_)) (by repeat (first | (with_reducible first | exact HK.out | apply Kept.alloc | apply Kept.drewN | apply Kept.drew) | exact HK.out)) hb); have n2_ := x_m (below_step x_bel hb); have n3_ := x_m (hbox); have n4_ := x_m ((by rw [hg]; exact (by first | exact HK.out.1 | exact (show Kept w _ (fun k_ => P0_ k_) from by repeat (first | (with_reducible first | exact HK.out | apply Kept.alloc | apply Kept.drewN | apply Kept.drew) | exact HK.out)).1) : w.heap.size ≤ gb352)); have n5_ := x_m ((by rw [hg]; exact (below_size x_bel) : w0.heap.size ≤ gb352)); clear HO0; clear HK; clear HB; have HO0 := n0_; have HK := n1_; have HB := n2_; have BK352 := n3_; have GW352 := n4_; have GE352 := n5_; clear n0_ n1_ n2_ n3_ n4_ n5_; clear hb hbox hg; obtain ⟨Ao21, co21, eo21⟩ := Kd.R_slice HO0.out; subst eo21; have hcz22_0 := x_cz BK352.out 0 rfl; have hcz22_1 := x_cz BK352.out 1 rfl; have hfz22_0 := blk_frozen BK352.out 0; have hfz22_1 := blk_frozen BK352.out 1) | ((with_reducible refine gate_builtin (b := .append) (xs := #[.tmp 32, .tmp 40]) rfl ?_); at_builtin; refine Kd.R_append k55 (w0 := w0) w0.heap.size rfl (.tmp 32) (.tmp 40) 25 55 (.agg #[(.int .i32 0), (.int .i32 0)]) 8 rfl Tryd.underlying25 info55 rfl (by decide) (by omega) (.slice Ao21 l0.length co21) l0 (⟨wrap32 (a1_0), wrap32 (a1_1)⟩ : S55) [.int .i32 (wrap32 (a1_0)), .int .i32 (wrap32 (a1_1))] (fun k_ => (P0_ k_ ∨ w.heap.size ≤ k_)) (fun _ => False) rfl rfl ?aP (fun _ hk => hk.elim) ?aF ?aO ?aB ?aS ?aL ?_; (case aP => exact k55_mkM _ _ _ (⟨wrap32 (a1_0), wrap32 (a1_1)⟩ : S55)); (case aB => exact x_bels); (case aF => exact (fun k_ hk => (.inr (Nat.le_trans (by first | exact HK.out.1 | exact (show Kept w _ (fun k_ => P0_ k_) from by repeat (first | (with_reducible first | exact HK.out | apply Kept.alloc | apply Kept.drewN | apply Kept.drew | refine Kept.setCell ?_ (.inr GW352.out) _) | exact HK.out)).1) hk)))); (case aO => exact (x_rr HO0.out)); (case aS => exact (below_size x_bels)); (case aL => have := LMc19.out; omega); intro v359 w23 ho hb hg hat; rw [← Ny358.out] at ho; have n0_ := x_m (blk_grown (g := gb352) (o := .cells #[.int .i64 a1_0, .int .i64 a1_1] 86 (0, 0)) (x_bk BK352.out) hg (Kd.R_ne HO0.out BK352.out (by decide))); have n1_ := x_m (hb); have n2_ := x_m (Kept.of_grown (S := (fun k_ => P0_ k_)) hg (by repeat (first | (with_reducible first | exact HK.out | apply Kept.alloc | apply Kept.drewN | apply Kept.drew | refine Kept.setCell ?_ (.inr GW352.out) _) | exact HK.out)) (fun k_ e_ => (HO0.out.1 k_ e_))); have n3_ := x_m (ho); clear BK352; clear HB; clear HK; clear HO0; have BK352 := n0_; have HB := n1_; have HK := n2_; have HO360 := n3_; clear n0_ n1_ n2_ n3_; clear ho hb hg hat)))
  go_ret
  exact ⟨_, by first | rfl | (simp [errW_none, errW_some] <;> rfl) | (simp [*, errW_none, errW_some] <;> rfl), by (with_reducible repeat (first | apply Kd.R_alloc | apply Kd.R_drewN | apply Kd.R_drew)); exact HO360.out, by repeat (first | (with_reducible first | exact HB.out | apply below_alloc | apply pw_below_drewN | apply below_drew1 | refine below_set ?_ GE352.out) | exact HB.out), by repeat (first | (with_reducible first | exact HK.out | apply Kept.alloc | apply Kept.drewN | apply Kept.drew | refine Kept.setCell ?_ (.inr GW352.out) _) | exact HK.out)⟩
 rw [if_pos c3] at H
 have c3b0 := decide_eq_true c3
 have c3b1 : decide (0 < l0.length) = true := decide_eq_true (by omega)
 clear c3
 obtain ⟨ji4, hji4⟩ : ∃ j_ : Int, (wrap64 ((l0.length : Int) - 1)) = j_ := ⟨_, rfl⟩
 replace H : (if 0 ≤ (ji4) then (if (ji4) < (l0.length : Int) then (if (wrap64 ((wrap64 ((rd_T55 l0 (ji4)).f1)) + 1)) = a1_0 then (some (l0.set ((ji4) : Int).toNat (⟨(rd_T55 l0 (ji4)).f0, wrap32 (a1_1)⟩ : S55))) else (if l0.length < 17592186044416 then (some (l0 ++ [(⟨wrap32 (a1_0), wrap32 (a1_1)⟩ : S55)])) else (none))) else (none)) else (none)) = some r := by first | (rw [hji4] at H; exact H) | (simp only [hji4] at H ⊢; exact H)
 have hji4w : (IntKind.i64.wrap ((l0.length : Int) - 1)) = ji4 := (i64_w _).trans hji4
 obtain ⟨c5b0, H⟩ := x_gd H
 obtain ⟨c6b0, H⟩ := x_gd H
 rcases x_ie H with ⟨c7b0, c7b1, H⟩ | ⟨c7, c7b0, c7b1, H⟩
 ·obtain ⟨y354, hy354⟩ : ∃ y_ : List (S55), y_ = (l0.set ((ji4) : Int).toNat (⟨(rd_T55 l0 (ji4)).f0, wrap32 (a1_1)⟩ : S55)) := ⟨_, rfl⟩
  replace H : (some y354) = some r := x_hh hy354 H
  have Ny354 := x_m hy354
  clear hy354
  obtain rfl := Option.some.inj H
  go_enter Tryd.func59, Tryd.ntmps59
  go_wp2_with (first | ((with_reducible refine gate_dst (N := 3) rfl ?_); refine box_event ?hg (N := 3) ?hd (cs := #[.int .i64 a1_0, .int .i64 a1_1]) (t := 86) ?hr ?_; (case hd => rfl); (case hg => rfl); (case hr => first | (go_simp; done) | (go_simp; rfl)); intro gb352 hg w9 hbox hb; have n0_ := x_m (Kd.R_below (x_rr HO0.out) hb); have n1_ := x_m (Kept.below (S := (fun k_ => P0_ k_)) (by repeat (first | (with_reducible first | exact HK.out | apply Kept.alloc | apply Kept.drewN | apply Kept.drew) | exact HK.out)) hb); have n2_ := x_m (below_step x_bel hb); have n3_ := x_m (hbox); have n4_ := x_m ((by rw [hg]; exact (by first | exact HK.out.1 | exact (show Kept w _ (fun k_ => P0_ k_) from by repeat (first | (with_reducible first | exact HK.out | apply Kept.alloc | apply Kept.drewN | apply Kept.drew) | exact HK.out)).1) : w.heap.size ≤ gb352)); have n5_ := x_m ((by rw [hg]; exact (below_size x_bel) : w0.heap.size ≤ gb352)); clear HO0; clear HK; clear HB; have HO0 := n0_; have HK := n1_; have HB := n2_; have BK352 := n3_; have GW352 := n4_; have GE352 := n5_; clear n0_ n1_ n2_ n3_ n4_ n5_; clear hb hbox hg; obtain ⟨Ao10, co10, eo10⟩ := Kd.R_slice HO0.out; subst eo10; have p353 : 0 ≤ ((ji4) : Int) := x_da; have q353 : (ji4) < (l0.length : Int) := x_da; obtain ⟨ad353, e353, hx353_0, hx353_1⟩ := at_T55 (Kd.R_reads' HO0.out).2.2 (ji4) p353 q353; cases e353; replace p353 := eq_true p353; replace q353 := eq_true q353; have hcz11_0 := x_cz BK352.out 0 rfl; have hcz11_1 := x_cz BK352.out 1 rfl; have hfz11_0 := blk_frozen BK352.out 0; have hfz11_1 := blk_frozen BK352.out 1; have p8 : 0 ≤ ((ji4) : Int) := x_da; have q8 : ((ji4) : Int) < ((l0.length : Int) : Int) := x_da; obtain ⟨go8, co8, eo8, gb8, gl8, cl8, HG8⟩ := Kd.R_form HO0.out (by omega); (first | cases eo8 | (injection eo8 with ea_ en_ ec_; (first | subst ea_ | (injection ea_ with ea_; subst ea_)); subst ec_; clear en_)); have GB8 := x_m gb8; have GG8 := x_m HG8; clear gb8 gl8 HG8; have HMgo8 := x_m (show (P0_ go8 ∨ w.heap.size ≤ go8) from (HO0.out.1 _ rfl)); (first | simp only [add_plain] at hx353_0 | skip); (first | simp only [add_plain] at hx353_1 | skip); obtain ⟨ce8, hcl8, hM8, hcc8, hfr8⟩ := Kd.R_elem HO0.out z55 ((ji4) : Int) p8 q8; obtain rfl := k55_openM hM8; have hx8_0 : w9.cell? ⟨go8, ((ji4) : Int).toNat * 2, none⟩ = some (.int .i32 ((rd_T55 l0 (ji4)).f0)) := hcc8 0 _ rfl; have hx8_1 : w9.cell? ⟨go8, ((ji4) : Int).toNat * 2 + 1, none⟩ = some (.int .i32 ((rd_T55 l0 (ji4)).f1)) := hcc8 1 _ rfl; have hf8_0 : w9.frozen? ⟨go8, ((ji4) : Int).toNat * 2, none⟩ = false := hfr8 0; have hf8_1 : w9.frozen? ⟨go8, ((ji4) : Int).toNat * 2 + 1, none⟩ = false := hfr8 1; clear hcl8 hcc8 hfr8 hM8; replace p8 := eq_true p8; replace q8 := eq_true q8; have HX12 := x_m (show Kd.R k55 55 w9 w0.heap.size (fun k_ => (P0_ k_ ∨ w.heap.size ≤ k_)) (.slice (some ⟨go8, 0, none⟩) l0.length co10) l0 from (x_rr HO0.out)); obtain ⟨ce12, hcl12, hM12, hcc12, hfr12⟩ := Kd.R_elem HX12.out z55 ((ji4) : Int) (of_decide_eq_true x_asm) (by have h_ : ((ji4) : Int) < ((l0.length : Int) : Int) := x_da; first | exact h_ | (have e_ := (Kd.R_reads' HO0.out).1; omega) | simpa using h_); obtain rfl := k55_openM hM12; have HP12 := Kd.R_seg HX12.out ((ji4) : Int) (of_decide_eq_true x_asm) (by have h_ : ((ji4) : Int) < ((l0.length : Int) : Int) := x_da; first | exact h_ | (have e_ := (Kd.R_reads' HO0.out).1; omega) | simpa using h_) (seg := [.int .i32 (wrap32 (a1_1))]) (j := 1) hcl12 hcc12 (show 2 ≤ 2 from by decide) (x' := (⟨(rd_T55 l0 (ji4)).f0, wrap32 (a1_1)⟩ : S55)) (k55_mkM _ _ _ (⟨(rd_T55 l0 (ji4)).f0, wrap32 (a1_1)⟩ : S55) ) (fun _ hk => hk); have hx12_1 := hcc12 1 _ rfl; (try simp only [show (k55).sz = 2 from rfl, Nat.mul_one, Nat.add_zero] at hx12_1); have hf12_1 := hfr12 1; (try simp only [show (k55).sz = 2 from rfl, Nat.mul_one, Nat.add_zero] at hf12_1); clear hcl12 hcc12 hfr12 hM12) | ((with_reducible refine gate_store (t := 21) (p := 30) rfl ?_); (try (rw [drewN_self w9]; generalize hq_ : World.drewN w9 _ = w9; have n0_ := x_m (Kd.R_at hq_ HO0.out); have n1_ := x_m (blk_at hq_ BK352.out); have n2_ := x_m (kept_at hq_ HK.out); have n3_ := x_m (below_at hq_ HB.out); clear hq_ HO0 BK352 HK HB; have HO0 := n0_; have BK352 := n1_; have HK := n2_; have HB := n3_; clear n0_ n1_ n2_ n3_; (try (have HX12 := x_m (show Kd.R k55 55 w9 w0.heap.size (fun k_ => (P0_ k_ ∨ w.heap.size ≤ k_)) (.slice (some ⟨go8, 0, none⟩) l0.length co10) l0 from (x_rr HO0.out)))); (try (obtain ⟨ce12, hcl12, hM12, hcc12, hfr12⟩ := Kd.R_elem HX12.out z55 ((ji4) : Int) (of_decide_eq_true x_asm) (by have h_ : ((ji4) : Int) < ((l0.length : Int) : Int) := x_da; first | exact h_ | (have e_ := (Kd.R_reads' HO0.out).1; omega) | simpa using h_))); (try (obtain rfl := k55_openM hM12)); (try (have HP12 := Kd.R_seg HX12.out ((ji4) : Int) (of_decide_eq_true x_asm) (by have h_ : ((ji4) : Int) < ((l0.length : Int) : Int) := x_da; first | exact h_ | (have e_ := (Kd.R_reads' HO0.out).1; omega) | simpa using h_) (seg := [.int .i32 (wrap32 (a1_1))]) (j := 1) hcl12 hcc12 (show 2 ≤ 2 from by decide) (x' := (⟨(rd_T55 l0 (ji4)).f0, wrap32 (a1_1)⟩ : S55)) (k55_mkM _ _ _ (⟨(rd_T55 l0 (ji4)).f0, wrap32 (a1_1)⟩ : S55) ) (fun _ hk => hk))); (try (have hx12_1 := hcc12 1 _ rfl)); (try (try simp only [show (k55).sz = 2 from rfl, Nat.mul_one, Nat.add_zero] at hx12_1)); (try (have hf12_1 := hfr12 1)); (try (try simp only [show (k55).sz = 2 from rfl, Nat.mul_one, Nat.add_zero] at hf12_1)); (try (clear hcl12 hcc12 hfr12 hM12)))); refine store_event (t := 21) (p := 30) (v := ?vo_w13) (w1 := (w9.setCell ⟨go8, ((ji4) : Int).toNat * 2 + 1, none⟩ (.int .i32 (wrap32 (a1_1))))) ?hg ?ho ?hn ?hr ?_; (case ho => rfl); (case hg => rfl); (case hn => rfl); (case hr => first | (go_simp; done) | (go_simp; rfl)); intro w13 hw; have hg : w9.grownBy w13 (some go8) := (by rw [hw]; exact HP12.2); have hp_ : Kd.R k55 55 w13 w0.heap.size (fun k_ => (P0_ k_ ∨ w.heap.size ≤ k_)) (.slice (some ⟨go8, 0, none⟩) l0.length co10) y354 := (by rw [hw, Ny354.out]; exact HP12.1); clear HP12; have n0_ := x_m (hp_); have n1_ := x_m (blk_grown (g := gb352) (o := .cells #[.int .i64 a1_0, .int .i64 a1_1] 86 (0, 0)) (x_bk BK352.out) hg (Kd.R_ne HO0.out BK352.out (by decide))); have n2_ := x_m ((by rw [hw]; exact below_set (HB.out) GB8.out : Below w0.heap.size w0 w13)); have n3_ := x_m (Kept.of_grown (S := (fun k_ => P0_ k_)) hg (by repeat (first | (with_reducible first | exact HK.out | apply Kept.alloc | apply Kept.drewN | apply Kept.drew | refine Kept.setCell ?_ (.inr GW352.out) _) | exact HK.out)) (fun k_ e_ => (HO0.out.1 k_ e_))); clear HO0; clear BK352; clear HB; clear HK; have HO0 := n0_; have BK352 := n1_; have HB := n2_; have HK := n3_; clear n0_ n1_ n2_ n3_; clear hg hw hp_))
  repeat (go_quiet (first | ((with_reducible refine gate_dst (N := 3) rfl ?_); refine box_event ?hg (N := 3) ?hd (cs := #[.int .i64 a1_0, .int .i64 a1_1]) (t := 86) ?hr ?_; (case hd => rfl); (case hg => rfl); (case hr => first | (go_simp; done) | (go_simp; rfl)); intro gb352 hg w9 hbox hb; have n0_ := x_m (Kd.R_below (x_rr HO0.out) hb); have n1_ := x_m (Kept.below (S := (fun k_ => P0_ k_)) (by repeat (first | (with_reducible first | exact HK.out | apply Kept.alloc | apply Kept.drewN | apply Kept.drew) | exact HK.out)) hb); have n2_ := x_m (below_step x_bel hb); have n3_ := x_m (hbox); have n4_ := x_m ((by rw [hg]; exact (by first | exact HK.out.1 | exact (show Kept w _ (fun k_ => P0_ k_) from by repeat (first | (with_reducible first | exact HK.out | apply Kept.alloc | apply Kept.drewN | apply Kept.drew) | exact HK.out)).1) : w.heap.size ≤ gb352)); have n5_ := x_m ((by rw [hg]; exact (below_size x_bel) : w0.heap.size ≤ gb352)); clear HO0; clear HK; clear HB; have HO0 := n0_; have HK := n1_; have HB := n2_; have BK352 := n3_; have GW352 := n4_; have GE352 := n5_; clear n0_ n1_ n2_ n3_ n4_ n5_; clear hb hbox hg; obtain ⟨Ao10, co10, eo10⟩ := Kd.R_slice HO0.out; subst eo10; have p353 : 0 ≤ ((ji4) : Int) := x_da; have q353 : (ji4) < (l0.length : Int) := x_da; obtain ⟨ad353, e353, hx353_0, hx353_1⟩ := at_T55 (Kd.R_reads' HO0.out).2.2 (ji4) p353 q353; cases e353; replace p353 := eq_true p353; replace q353 := eq_true q353; have hcz11_0 := x_cz BK352.out 0 rfl; have hcz11_1 := x_cz BK352.out 1 rfl; have hfz11_0 := blk_frozen BK352.out 0; have hfz11_1 := blk_frozen BK352.out 1; have p8 : 0 ≤ ((ji4) : Int) := x_da; have q8 : ((ji4) : Int) < ((l0.length : Int) : Int) := x_da; obtain ⟨go8, co8, eo8, gb8, gl8, cl8, HG8⟩ := Kd.R_form HO0.out (by omega); (first | cases eo8 | (injection eo8 with ea_ en_ ec_; (first | subst ea_ | (injection ea_ with ea_; subst ea_)); subst ec_; clear en_)); have GB8 := x_m gb8; have GG8 := x_m HG8; clear gb8 gl8 HG8; have HMgo8 := x_m (show (P0_ go8 ∨ w.heap.size ≤ go8) from (HO0.out.1 _ rfl)); (first | simp only [add_plain] at hx353_0 | skip); (first | simp only [add_plain] at hx353_1 | skip); obtain ⟨ce8, hcl8, hM8, hcc8, hfr8⟩ := Kd.R_elem HO0.out z55 ((ji4) : Int) p8 q8; obtain rfl := k55_openM hM8; have hx8_0 : w9.cell? ⟨go8, ((ji4) : Int).toNat * 2, none⟩ = some (.int .i32 ((rd_T55 l0 (ji4)).f0)) := hcc8 0 _ rfl; have hx8_1 : w9.cell? ⟨go8, ((ji4) : Int).toNat * 2 + 1, none⟩ = some (.int .i32 ((rd_T55 l0 (ji4)).f1)) := hcc8 1 _ rfl; have hf8_0 : w9.frozen? ⟨go8, ((ji4) : Int).toNat * 2, none⟩ = false := hfr8 0; have hf8_1 : w9.frozen? ⟨go8, ((ji4) : Int).toNat * 2 + 1, none⟩ = false := hfr8 1; clear hcl8 hcc8 hfr8 hM8; replace p8 := eq_true p8; replace q8 := eq_true q8; have HX12 := x_m (show Kd.R k55 55 w9 w0.heap.size (fun k_ => (P0_ k_ ∨ w.heap.size ≤ k_)) (.slice (some ⟨go8, 0, none⟩) l0.length co10) l0 from (x_rr HO0.out)); obtain ⟨ce12, hcl12, hM12, hcc12, hfr12⟩ := Kd.R_elem HX12.out z55 ((ji4) : Int) (of_decide_eq_true x_asm) (by have h_ : ((ji4) : Int) < ((l0.length : Int) : Int) := x_da; first | exact h_ | (have e_ := (Kd.R_reads' HO0.out).1; omega) | simpa using h_); obtain rfl := k55_openM hM12; have HP12 := Kd.R_seg HX12.out ((ji4) : Int) (of_decide_eq_true x_asm) (by have h_ : ((ji4) : Int) < ((l0.length : Int) : Int) := x_da; first | exact h_ | (have e_ := (Kd.R_reads' HO0.out).1; omega) | simpa using h_) (seg := [.int .i32 (wrap32 (a1_1))]) (j := 1) hcl12 hcc12 (show 2 ≤ 2 from by decide) (x' := (⟨(rd_T55 l0 (ji4)).f0, wrap32 (a1_1)⟩ : S55)) (k55_mkM _ _ _ (⟨(rd_T55 l0 (ji4)).f0, wrap32 (a1_1)⟩ : S55) ) (fun _ hk => hk); have hx12_1 := hcc12 1 _ rfl; (try simp only [show (k55).sz = 2 from rfl, Nat.mul_one, Nat.add_zero] at hx12_1); have hf12_1 := hfr12 1; (try simp only [show (k55).sz = 2 from rfl, Nat.mul_one, Nat.add_zero] at hf12_1); clear hcl12 hcc12 hfr12 hM12) | ((with_reducible refine gate_store (t := 21) (p := 30) rfl ?_); (try (rw [drewN_self w9]; generalize hq_ : World.drewN w9 _ = w9; have n0_ := x_m (Kd.R_at hq_ HO0.out); have n1_ := x_m (blk_at hq_ BK352.out); have n2_ := x_m (kept_at hq_ HK.out); have n3_ := x_m (below_at hq_ HB.out); clear hq_ HO0 BK352 HK HB; have HO0 := n0_; have BK352 := n1_; have HK := n2_; have HB := n3_; clear n0_ n1_ n2_ n3_; (try (have HX12 := x_m (show Kd.R k55 55 w9 w0.heap.size (fun k_ => (P0_ k_ ∨ w.heap.size ≤ k_)) (.slice (some ⟨go8, 0, none⟩) l0.length co10) l0 from (x_rr HO0.out)))); (try (obtain ⟨ce12, hcl12, hM12, hcc12, hfr12⟩ := Kd.R_elem HX12.out z55 ((ji4) : Int) (of_decide_eq_true x_asm) (by have h_ : ((ji4) : Int) < ((l0.length : Int) : Int) := x_da; first | exact h_ | (have e_ := (Kd.R_reads' HO0.out).1; omega) | simpa using h_))); (try (obtain rfl := k55_openM hM12)); (try (have HP12 := Kd.R_seg HX12.out ((ji4) : Int) (of_decide_eq_true x_asm) (by have h_ : ((ji4) : Int) < ((l0.length : Int) : Int) := x_da; first | exact h_ | (have e_ := (Kd.R_reads' HO0.out).1; omega) | simpa using h_) (seg := [.int .i32 (wrap32 (a1_1))]) (j := 1) hcl12 hcc12 (show 2 ≤ 2 from by decide) (x' := (⟨(rd_T55 l0 (ji4)).f0, wrap32 (a1_1)⟩ : S55)) (k55_mkM _ _ _ (⟨(rd_T55 l0 (ji4)).f0, wrap32 (a1_1)⟩ : S55) ) (fun _ hk => hk))); (try (have hx12_1 := hcc12 1 _ rfl)); (try (try simp only [show (k55).sz = 2 from rfl, Nat.mul_one, Nat.add_zero] at hx12_1)); (try (have hf12_1 := hfr12 1)); (try (try simp only [show (k55).sz = 2 from rfl, Nat.mul_one, Nat.add_zero] at hf12_1)); (try (clear hcl12 hcc12 hfr12 hM12)))); refine store_event (t := 21) (p := 30) (v := ?vo_w13) (w1 := (w9.setCell ⟨go8, ((ji4) : Int).toNat * 2 + 1, none⟩ (.int .i32 (wrap32 (a1_1))))) ?hg ?ho ?hn ?hr ?_; (case ho => rfl); (case hg => rfl); (case hn => rfl); (case hr => first | (go_simp; done) | (go_simp; rfl)); intro w13 hw; have hg : w9.grownBy w13 (some go8) := (by rw [hw]; exact HP12.2); have hp_ : Kd.R k55 55 w13 w0.heap.size (fun k_ => (P0_ k_ ∨ w.heap.size ≤ k_)) (.slice (some ⟨go8, 0, none⟩) l0.length co10) y354 := (by rw [hw, Ny354.out]; exact HP12.1); clear HP12; have n0_ := x_m (hp_); have n1_ := x_m (blk_grown (g := gb352) (o := .cells #[.int .i64 a1_0, .int .i64 a1_1] 86 (0, 0)) (x_bk BK352.out) hg (Kd.R_ne HO0.out BK352.out (by decide))); have n2_ := x_m ((by rw [hw]; exact below_set (HB.out) GB8.out : Below w0.heap.size w0 w13)); have n3_ := x_m (Kept.of_grown (S := (fun k_ => P0_ k_)) hg (by repeat (first | (with_reducible first | exact HK.out | apply Kept.alloc | apply Kept.drewN | apply Kept.drew | refine Kept.setCell ?_ (.inr GW352.out) _) | exact HK.out)) (fun k_ e_ => (HO0.out.1 k_ e_))); clear HO0; clear BK352; clear HB; clear HK; have HO0 := n0_; have BK352 := n1_; have HB := n2_; have HK := n3_; clear n0_ n1_ n2_ n3_; clear hg hw hp_)); try go_wp2_with (first | ((with_reducible refine gate_dst (N := 3) rfl ?_); refine box_event ?hg (N := 3) ?hd (cs := #[.int .i64 a1_0, .int .i64 a1_1]) (t := 86) ?hr ?_; (case hd => rfl); (case hg => rfl); (case hr => first | (go_simp; done) | (go_simp; rfl)); intro gb352 hg w9 hbox hb; have n0_ := x_m (Kd.R_below (x_rr HO0.out) hb); have n1_ := x_m (Kept.below (S := (fun k_ => P0_ k_)) (by repeat (first | (with_reducible first | exact HK.out | apply Kept.alloc | apply Kept.drewN | apply Kept.drew) | exact HK.out)) hb); have n2_ := x_m (below_step x_bel hb); have n3_ := x_m (hbox); have n4_ := x_m ((by rw [hg]; exact (by first | exact HK.out.1 | exact (show Kept w _ (fun k_ => P0_ k_) from by repeat (first | (with_reducible first | exact HK.out | apply Kept.alloc | apply Kept.drewN | apply Kept.drew) | exact HK.out)).1) : w.heap.size ≤ gb352)); have n5_ := x_m ((by rw [hg]; exact (below_size x_bel) : w0.heap.size ≤ gb352)); clear HO0; clear HK; clear HB; have HO0 := n0_; have HK := n1_; have HB := n2_; have BK352 := n3_; have GW352 := n4_; have GE352 := n5_; clear n0_ n1_ n2_ n3_ n4_ n5_; clear hb hbox hg; obtain ⟨Ao10, co10, eo10⟩ := Kd.R_slice HO0.out; subst eo10; have p353 : 0 ≤ ((ji4) : Int) := x_da; have q353 : (ji4) < (l0.length : Int) := x_da; obtain ⟨ad353, e353, hx353_0, hx353_1⟩ := at_T55 (Kd.R_reads' HO0.out).2.2 (ji4) p353 q353; cases e353; replace p353 := eq_true p353; replace q353 := eq_true q353; have hcz11_0 := x_cz BK352.out 0 rfl; have hcz11_1 := x_cz BK352.out 1 rfl; have hfz11_0 := blk_frozen BK352.out 0; have hfz11_1 := blk_frozen BK352.out 1; have p8 : 0 ≤ ((ji4) : Int) := x_da; have q8 : ((ji4) : Int) < ((l0.length : Int) : Int) := x_da; obtain ⟨go8, co8, eo8, gb8, gl8, cl8, HG8⟩ := Kd.R_form HO0.out (by omega); (first | cases eo8 | (injection eo8 with ea_ en_ ec_; (first | subst ea_ | (injection ea_ with ea_; subst ea_)); subst ec_; clear en_)); have GB8 := x_m gb8; have GG8 := x_m HG8; clear gb8 gl8 HG8; have HMgo8 := x_m (show (P0_ go8 ∨ w.heap.size ≤ go8) from (HO0.out.1 _ rfl)); (first | simp only [add_plain] at hx353_0 | skip); (first | simp only [add_plain] at hx353_1 | skip); obtain ⟨ce8, hcl8, hM8, hcc8, hfr8⟩ := Kd.R_elem HO0.out z55 ((ji4) : Int) p8 q8; obtain rfl := k55_openM hM8; have hx8_0 : w9.cell? ⟨go8, ((ji4) : Int).toNat * 2, none⟩ = some (.int .i32 ((rd_T55 l0 (ji4)).f0)) := hcc8 0 _ rfl; have hx8_1 : w9.cell? ⟨go8, ((ji4) : Int).toNat * 2 + 1, none⟩ = some (.int .i32 ((rd_T55 l0 (ji4)).f1)) := hcc8 1 _ rfl; have hf8_0 : w9.frozen? ⟨go8, ((ji4) : Int).toNat * 2, none⟩ = false := hfr8 0; have hf8_1 : w9.frozen? ⟨go8, ((ji4) : Int).toNat * 2 + 1, none⟩ = false := hfr8 1; clear hcl8 hcc8 hfr8 hM8; replace p8 := eq_true p8; replace q8 := eq_true q8; have HX12 := x_m (show Kd.R k55 55 w9 w0.heap.size (fun k_ => (P0_ k_ ∨ w.heap.size ≤ k_)) (.slice (some ⟨go8, 0, none⟩) l0.length co10) l0 from (x_rr HO0.out)); obtain ⟨ce12, hcl12, hM12, hcc12, hfr12⟩ := Kd.R_elem HX12.out z55 ((ji4) : Int) (of_decide_eq_true x_asm) (by have h_ : ((ji4) : Int) < ((l0.length : Int) : Int) := x_da; first | exact h_ | (have e_ := (Kd.R_reads' HO0.out).1; omega) | simpa using h_); obtain rfl := k55_openM hM12; have HP12 := Kd.R_seg HX12.out ((ji4) : Int) (of_decide_eq_true x_asm) (by have h_ : ((ji4) : Int) < ((l0.length : Int) : Int) := x_da; first | exact h_ | (have e_ := (Kd.R_reads' HO0.out).1; omega) | simpa using h_) (seg := [.int .i32 (wrap32 (a1_1))]) (j := 1) hcl12 hcc12 (show 2 ≤ 2 from by decide) (x' := (⟨(rd_T55 l0 (ji4)).f0, wrap32 (a1_1)⟩ : S55)) (k55_mkM _ _ _ (⟨(rd_T55 l0 (ji4)).f0, wrap32 (a1_1)⟩ : S55) ) (fun _ hk => hk); have hx12_1 := hcc12 1 _ rfl; (try simp only [show (k55).sz = 2 from rfl, Nat.mul_one, Nat.add_zero] at hx12_1); have hf12_1 := hfr12 1; (try simp only [show (k55).sz = 2 from rfl, Nat.mul_one, Nat.add_zero] at hf12_1); clear hcl12 hcc12 hfr12 hM12) | ((with_reducible refine gate_store (t := 21) (p := 30) rfl ?_); (try (rw [drewN_self w9]; generalize hq_ : World.drewN w9 _ = w9; have n0_ := x_m (Kd.R_at hq_ HO0.out); have n1_ := x_m (blk_at hq_ BK352.out); have n2_ := x_m (kept_at hq_ HK.out); have n3_ := x_m (below_at hq_ HB.out); clear hq_ HO0 BK352 HK HB; have HO0 := n0_; have BK352 := n1_; have HK := n2_; have HB := n3_; clear n0_ n1_ n2_ n3_; (try (have HX12 := x_m (show Kd.R k55 55 w9 w0.heap.size (fun k_ => (P0_ k_ ∨ w.heap.size ≤ k_)) (.slice (some ⟨go8, 0, none⟩) l0.length co10) l0 from (x_rr HO0.out)))); (try (obtain ⟨ce12, hcl12, hM12, hcc12, hfr12⟩ := Kd.R_elem HX12.out z55 ((ji4) : Int) (of_decide_eq_true x_asm) (by have h_ : ((ji4) : Int) < ((l0.length : Int) : Int) := x_da; first | exact h_ | (have e_ := (Kd.R_reads' HO0.out).1; omega) | simpa using h_))); (try (obtain rfl := k55_openM hM12)); (try (have HP12 := Kd.R_seg HX12.out ((ji4) : Int) (of_decide_eq_true x_asm) (by have h_ : ((ji4) : Int) < ((l0.length : Int) : Int) := x_da; first | exact h_ | (have e_ := (Kd.R_reads' HO0.out).1; omega) | simpa using h_) (seg := [.int .i32 (wrap32 (a1_1))]) (j := 1) hcl12 hcc12 (show 2 ≤ 2 from by decide) (x' := (⟨(rd_T55 l0 (ji4)).f0, wrap32 (a1_1)⟩ : S55)) (k55_mkM _ _ _ (⟨(rd_T55 l0 (ji4)).f0, wrap32 (a1_1)⟩ : S55) ) (fun _ hk => hk))); (try (have hx12_1 := hcc12 1 _ rfl)); (try (try simp only [show (k55).sz = 2 from rfl, Nat.mul_one, Nat.add_zero] at hx12_1)); (try (have hf12_1 := hfr12 1)); (try (try simp only [show (k55).sz = 2 from rfl, Nat.mul_one, Nat.add_zero] at hf12_1)); (try (clear hcl12 hcc12 hfr12 hM12)))); refine store_event (t := 21) (p := 30) (v := ?vo_w13) (w1 := (w9.setCell ⟨go8, ((ji4) : Int).toNat * 2 + 1, none⟩ (.int .i32 (wrap32 (a1_1))))) ?hg ?ho ?hn ?hr ?_; (case ho => rfl); (case hg => rfl); (case hn => rfl); (case hr => first | (go_simp; done) | (go_simp; rfl)); intro w13 hw; have hg : w9.grownBy w13 (some go8) := (by rw [hw]; exact HP12.2); have hp_ : Kd.R k55 55 w13 w0.heap.size (fun k_ => (P0_ k_ ∨ w.heap.size ≤ k_)) (.slice (some ⟨go8, 0, none⟩) l0.length co10) y354 := (by rw [hw, Ny354.out]; exact HP12.1); clear HP12; have n0_ := x_m (hp_); have n1_ := x_m (blk_grown (g := gb352) (o := .cells #[.int .i64 a1_0, .int .i64 a1_1] 86 (0, 0)) (x_bk BK352.out) hg (Kd.R_ne HO0.out BK352.out (by decide))); have n2_ := x_m ((by rw [hw]; exact below_set (HB.out) GB8.out : Below w0.heap.size w0 w13)); have n3_ := x_m (Kept.of_grown (S := (fun k_ => P0_ k_)) hg (by repeat (first | (with_reducible first | exact HK.out | apply Kept.alloc | apply Kept.drewN | apply Kept.drew | refine Kept.setCell ?_ (.inr GW352.out) _) | exact HK.out)) (fun k_ e_ => (HO0.out.1 k_ e_))); clear HO0; clear BK352; clear HB; clear HK; have HO0 := n0_; have BK352 := n1_; have HB := n2_; have HK := n3_; clear n0_ n1_ n2_ n3_; clear hg hw hp_)))
  go_ret
  exact ⟨_, by first | rfl | (simp [errW_none, errW_some] <;> rfl) | (simp only [← hji4]; first | rfl | (simp [errW_none, errW_some] <;> rfl)) | (simp [*, errW_none, errW_some] <;> rfl), by (with_reducible repeat (first | apply Kd.R_alloc | apply Kd.R_drewN | apply Kd.R_drew)); exact HO0.out, by repeat (first | (with_reducible first | exact HB.out | apply below_alloc | apply pw_below_drewN | apply below_drew1 | refine below_set ?_ GE352.out) | exact HB.out), by repeat (first | (with_reducible first | exact HK.out | apply Kept.alloc | apply Kept.drewN | apply Kept.drew | refine Kept.setCell ?_ (.inr GW352.out) _) | exact HK.out)⟩
 obtain ⟨c14, H⟩ := x_gp H
 have LMc14 := x_m c14
 clear c14
 obtain ⟨y355, hy355⟩ : ∃ y_ : List (S55), y_ = (l0 ++ [(⟨wrap32 (a1_0), wrap32 (a1_1)⟩ : S55)]) := ⟨_, rfl⟩
 replace H : (some y355) = some r := x_hh hy355 H
 have Ny355 := x_m hy355
 clear hy355
 obtain rfl := Option.some.inj H
 go_enter Tryd.func59, Tryd.ntmps59
 go_wp2_with (first | ((with_reducible refine gate_dst (N := 3) rfl ?_); refine box_event ?hg (N := 3) ?hd (cs := #[.int .i64 a1_0, .int .i64 a1_1]) (t := 86) ?hr ?_; (case hd => rfl); (case hg => rfl); (case hr => first | (go_simp; done) | (go_simp; rfl)); intro gb352 hg w15 hbox hb; have n0_ := x_m (Kd.R_below (x_rr HO0.out) hb); have n1_ := x_m (Kept.below (S := (fun k_ => P0_ k_)) (by repeat (first | (with_reducible first | exact HK.out | apply Kept.alloc | apply Kept.drewN | apply Kept.drew) | exact HK.out)) hb); have n2_ := x_m (below_step x_bel hb); have n3_ := x_m (hbox); have n4_ := x_m ((by rw [hg]; exact (by first | exact HK.out.1 | exact (show Kept w _ (fun k_ => P0_ k_) from by repeat (first | (with_reducible first | exact HK.out | apply Kept.alloc | apply Kept.drewN | apply Kept.drew) | exact HK.out)).1) : w.heap.size ≤ gb352)); have n5_ := x_m ((by rw [hg]; exact (below_size x_bel) : w0.heap.size ≤ gb352)); clear HO0; clear HK; clear HB; have HO0 := n0_; have HK := n1_; have HB := n2_; have BK352 := n3_; have GW352 := n4_; have GE352 := n5_; clear n0_ n1_ n2_ n3_ n4_ n5_; clear hb hbox hg; obtain ⟨Ao16, co16, eo16⟩ := Kd.R_slice HO0.out; subst eo16; have p353 : 0 ≤ ((ji4) : Int) := x_da; have q353 : (ji4) < (l0.length : Int) := x_da; obtain ⟨ad353, e353, hx353_0, hx353_1⟩ := at_T55 (Kd.R_reads' HO0.out).2.2 (ji4) p353 q353; cases e353; replace p353 := eq_true p353; replace q353 := eq_true q353; have hcz17_0 := x_cz BK352.out 0 rfl; have hcz17_1 := x_cz BK352.out 1 rfl; have hfz17_0 := blk_frozen BK352.out 0; have hfz17_1 := blk_frozen BK352.out 1) | ((with_reducible refine gate_builtin (b := .append) (xs := #[.tmp 32, .tmp 40]) rfl ?_); at_builtin; refine Kd.R_append k55 (w0 := w0) w0.heap.size rfl (.tmp 32) (.tmp 40) 25 55 (.agg #[(.int .i32 0), (.int .i32 0)]) 8 rfl Tryd.underlying25 info55 rfl (by decide) (by omega) (.slice (some ad353) l0.length co16) l0 (⟨wrap32 (a1_0), wrap32 (a1_1)⟩ : S55) [.int .i32 (wrap32 (a1_0)), .int .i32 (wrap32 (a1_1))] (fun k_ => (P0_ k_ ∨ w.heap.size ≤ k_)) (fun _ => False) rfl rfl ?aP (fun _ hk => hk.elim) ?aF ?aO ?aB ?aS ?aL ?_; (case aP => exact k55_mkM _ _ _ (⟨wrap32 (a1_0), wrap32 (a1_1)⟩ : S55)); (case aB => exact x_bels); (case aF => exact (fun k_ hk => (.inr (Nat.le_trans (by first | exact HK.out.1 | exact (show Kept w _ (fun k_ => P0_ k_) from by repeat (first | (with_reducible first | exact HK.out | apply Kept.alloc | apply Kept.drewN | apply Kept.drew | refine Kept.setCell ?_ (.inr GW352.out) _) | exact HK.out)).1) hk)))); (case aO => exact (x_rr HO0.out)); (case aS => exact (below_size x_bels)); (case aL => have := LMc14.out; omega); intro v356 w18 ho hb hg hat; rw [← Ny355.out] at ho; have n0_ := x_m (blk_grown (g := gb352) (o := .cells #[.int .i64 a1_0, .int .i64 a1_1] 86 (0, 0)) (x_bk BK352.out) hg (Kd.R_ne HO0.out BK352.out (by decide))); have n1_ := x_m (hb); have n2_ := x_m (Kept.of_grown (S := (fun k_ => P0_ k_)) hg (by repeat (first | (with_reducible first | exact HK.out | apply Kept.alloc | apply Kept.drewN | apply Kept.drew | refine Kept.setCell ?_ (.inr GW352.out) _) | exact HK.out)) (fun k_ e_ => (HO0.out.1 k_ e_))); have n3_ := x_m (ho); clear BK352; clear HB; clear HK; clear HO0; have BK352 := n0_; have HB := n1_; have HK := n2_; have HO357 := n3_; clear n0_ n1_ n2_ n3_; clear ho hb hg hat))
 repeat (go_quiet (first | ((with_reducible refine gate_dst (N := 3) rfl ?_); refine box_event ?hg (N := 3) ?hd (cs := #[.int .i64 a1_0, .int .i64 a1_1]) (t := 86) ?hr ?_; (case hd => rfl); (case hg => rfl); (case hr => first | (go_simp; done) | (go_simp; rfl)); intro gb352 hg w15 hbox hb; have n0_ := x_m (Kd.R_below (x_rr HO0.out) hb); have n1_ := x_m (Kept.below (S := (fun k_ => P0_ k_)) (by repeat (first | (with_reducible first | exact HK.out | apply Kept.alloc | apply Kept.drewN | apply Kept.drew) | exact HK.out)) hb); have n2_ := x_m (below_step x_bel hb); have n3_ := x_m (hbox); have n4_ := x_m ((by rw [hg]; exact (by first | exact HK.out.1 | exact (show Kept w _ (fun k_ => P0_ k_) from by repeat (first | (with_reducible first | exact HK.out | apply Kept.alloc | apply Kept.drewN | apply Kept.drew) | exact HK.out)).1) : w.heap.size ≤ gb352)); have n5_ := x_m ((by rw [hg]; exact (below_size x_bel) : w0.heap.size ≤ gb352)); clear HO0; clear HK; clear HB; have HO0 := n0_; have HK := n1_; have HB := n2_; have BK352 := n3_; have GW352 := n4_; have GE352 := n5_; clear n0_ n1_ n2_ n3_ n4_ n5_; clear hb hbox hg; obtain ⟨Ao16, co16, eo16⟩ := Kd.R_slice HO0.out; subst eo16; have p353 : 0 ≤ ((ji4) : Int) := x_da; have q353 : (ji4) < (l0.length : Int) := x_da; obtain ⟨ad353, e353, hx353_0, hx353_1⟩ := at_T55 (Kd.R_reads' HO0.out).2.2 (ji4) p353 q353; cases e353; replace p353 := eq_true p353; replace q353 := eq_true q353; have hcz17_0 := x_cz BK352.out 0 rfl; have hcz17_1 := x_cz BK352.out 1 rfl; have hfz17_0 := blk_frozen BK352.out 0; have hfz17_1 := blk_frozen BK352.out 1) | ((with_reducible refine gate_builtin (b := .append) (xs := #[.tmp 32, .tmp 40]) rfl ?_); at_builtin; refine Kd.R_append k55 (w0 := w0) w0.heap.size rfl (.tmp 32) (.tmp 40) 25 55 (.agg #[(.int .i32 0), (.int .i32 0)]) 8 rfl Tryd.underlying25 info55 rfl (by decide) (by omega) (.slice (some ad353) l0.length co16) l0 (⟨wrap32 (a1_0), wrap32 (a1_1)⟩ : S55) [.int .i32 (wrap32 (a1_0)), .int .i32 (wrap32 (a1_1))] (fun k_ => (P0_ k_ ∨ w.heap.size ≤ k_)) (fun _ => False) rfl rfl ?aP (fun _ hk => hk.elim) ?aF ?aO ?aB ?aS ?aL ?_; (case aP => exact k55_mkM _ _ _ (⟨wrap32 (a1_0), wrap32 (a1_1)⟩ : S55)); (case aB => exact x_bels); (case aF => exact (fun k_ hk => (.inr (Nat.le_trans (by first | exact HK.out.1 | exact (show Kept w _ (fun k_ => P0_ k_) from by repeat (first | (with_reducible first | exact HK.out | apply Kept.alloc | apply Kept.drewN | apply Kept.drew | refine Kept.setCell ?_ (.inr GW352.out) _) | exact HK.out)).1) hk)))); (case aO => exact (x_rr HO0.out)); (case aS => exact (below_size x_bels)); (case aL => have := LMc14.out; omega); intro v356 w18 ho hb hg hat; rw [← Ny355.out] at ho; have n0_ := x_m (blk_grown (g := gb352) (o := .cells #[.int .i64 a1_0, .int .i64 a1_1] 86 (0, 0)) (x_bk BK352.out) hg (Kd.R_ne HO0.out BK352.out (by decide))); have n1_ := x_m (hb); have n2_ := x_m (Kept.of_grown (S := (fun k_ => P0_ k_)) hg (by repeat (first | (with_reducible first | exact HK.out | apply Kept.alloc | apply Kept.drewN | apply Kept.drew | refine Kept.setCell ?_ (.inr GW352.out) _) | exact HK.out)) (fun k_ e_ => (HO0.out.1 k_ e_))); have n3_ := x_m (ho); clear BK352; clear HB; clear HK; clear HO0; have BK352 := n0_; have HB := n1_; have HK := n2_; have HO357 := n3_; clear n0_ n1_ n2_ n3_; clear ho hb hg hat)); try go_wp2_with (first | ((with_reducible refine gate_dst (N := 3) rfl ?_); refine box_event ?hg (N := 3) ?hd (cs := #[.int .i64 a1_0, .int .i64 a1_1]) (t := 86) ?hr ?_; (case hd => rfl); (case hg => rfl); (case hr => first | (go_simp; done) | (go_simp; rfl)); intro gb352 hg w15 hbox hb; have n0_ := x_m (Kd.R_below (x_rr HO0.out) hb); have n1_ := x_m (Kept.below (S := (fun k_ => P0_ k_)) (by repeat (first | (with_reducible first | exact HK.out | apply Kept.alloc | apply Kept.drewN | apply Kept.drew) | exact HK.out)) hb); have n2_ := x_m (below_step x_bel hb); have n3_ := x_m (hbox); have n4_ := x_m ((by rw [hg]; exact (by first | exact HK.out.1 | exact (show Kept w _ (fun k_ => P0_ k_) from by repeat (first | (with_reducible first | exact HK.out | apply Kept.alloc | apply Kept.drewN | apply Kept.drew) | exact HK.out)).1) : w.heap.size ≤ gb352)); have n5_ := x_m ((by rw [hg]; exact (below_size x_bel) : w0.heap.size ≤ gb352)); clear HO0; clear HK; clear HB; have HO0 := n0_; have HK := n1_; have HB := n2_; have BK352 := n3_; have GW352 := n4_; have GE352 := n5_; clear n0_ n1_ n2_ n3_ n4_ n5_; clear hb hbox hg; obtain ⟨Ao16, co16, eo16⟩ := Kd.R_slice HO0.out; subst eo16; have p353 : 0 ≤ ((ji4) : Int) := x_da; have q353 : (ji4) < (l0.length : Int) := x_da; obtain ⟨ad353, e353, hx353_0, hx353_1⟩ := at_T55 (Kd.R_reads' HO0.out).2.2 (ji4) p353 q353; cases e353; replace p353 := eq_true p353; replace q353 := eq_true q353; have hcz17_0 := x_cz BK352.out 0 rfl; have hcz17_1 := x_cz BK352.out 1 rfl; have hfz17_0 := blk_frozen BK352.out 0; have hfz17_1 := blk_frozen BK352.out 1) | ((with_reducible refine gate_builtin (b := .append) (xs := #[.tmp 32, .tmp 40]) rfl ?_); at_builtin; refine Kd.R_append k55 (w0 := w0) w0.heap.size rfl (.tmp 32) (.tmp 40) 25 55 (.agg #[(.int .i32 0), (.int .i32 0)]) 8 rfl Tryd.underlying25 info55 rfl (by decide) (by omega) (.slice (some ad353) l0.length co16) l0 (⟨wrap32 (a1_0), wrap32 (a1_1)⟩ : S55) [.int .i32 (wrap32 (a1_0)), .int .i32 (wrap32 (a1_1))] (fun k_ => (P0_ k_ ∨ w.heap.size ≤ k_)) (fun _ => False) rfl rfl ?aP (fun _ hk => hk.elim) ?aF ?aO ?aB ?aS ?aL ?_; (case aP => exact k55_mkM _ _ _ (⟨wrap32 (a1_0), wrap32 (a1_1)⟩ : S55)); (case aB => exact x_bels); (case aF => exact (fun k_ hk => (.inr (Nat.le_trans (by first | exact HK.out.1 | exact (show Kept w _ (fun k_ => P0_ k_) from by repeat (first | (with_reducible first | exact HK.out | apply Kept.alloc | apply Kept.drewN | apply Kept.drew | refine Kept.setCell ?_ (.inr GW352.out) _) | exact HK.out)).1) hk)))); (case aO => exact (x_rr HO0.out)); (case aS => exact (below_size x_bels)); (case aL => have := LMc14.out; omega); intro v356 w18 ho hb hg hat; rw [← Ny355.out] at ho; have n0_ := x_m (blk_grown (g := gb352) (o := .cells #[.int .i64 a1_0, .int .i64 a1_1] 86 (0, 0)) (x_bk BK352.out) hg (Kd.R_ne HO0.out BK352.out (by decide))); have n1_ := x_m (hb); have n2_ := x_m (Kept.of_grown (S := (fun k_ => P0_ k_)) hg (by repeat (first | (with_reducible first | exact HK.out | apply Kept.alloc | apply Kept.drewN | apply Kept.drew | refine Kept.setCell ?_ (.inr GW352.out) _) | exact HK.out)) (fun k_ e_ => (HO0.out.1 k_ e_))); have n3_ := x_m (ho); clear BK352; clear HB; clear HK; clear HO0; have BK352 := n0_; have HB := n1_; have HK := n2_; have HO357 := n3_; clear n0_ n1_ n2_ n3_; clear ho hb hg hat)))
 go_ret
 exact ⟨_, by first | rfl | (simp [errW_none, errW_some] <;> rfl) | (simp only [← hji4]; first | rfl | (simp [errW_none, errW_some] <;> rfl)) | (simp [*, errW_none, errW_some] <;> rfl), by (with_reducible repeat (first | apply Kd.R_alloc | apply Kd.R_drewN | apply Kd.R_drew)); exact HO357.out, by repeat (first | (with_reducible first | exact HB.out | apply below_alloc | apply pw_below_drewN | apply below_drew1 | refine below_set ?_ GE352.out) | exact HB.out), by repeat (first | (with_reducible first | exact HK.out | apply Kept.alloc | apply Kept.drewN | apply Kept.drew | refine Kept.setCell ?_ (.inr GW352.out) _) | exact HK.out)⟩

mutual
def r02_Make.l0 : Nat → List (S55) → Int → Option ((List (S55)) × Int)
 | 0, _, _ => none
 | k + 1, x0, x4 => if x4 < (x0.length : Int) then (if 0 ≤ x4 then (if ((rd_T55 x0 x4).f0) > ((rd_T55 x0 x4).f1) then (some (([] : List (S55)), 2)) else (r02_Make.l0 k x0 (wrap64 (x4 + 1)))) else (none)) else ((r02_pieces.f k (([x0] : List (List (S55))))).bind fun t366 => ((r02_inside.f k x0 t366).bind fun t369 => (r02_Make.l1 k ([] : List (S55)) t366 t369 0)))
def r02_Make.l1 : Nat → List (S55) → List (S86) → List Bool → Int → Option ((List (S55)) × Int)
 | 0, _, _, _, _ => none
 | k + 1, x5, x6, x7, x8 => if x8 < (x6.length : Int) then (if 0 ≤ x8 then (if x8 < (x7.length : Int) then (if rdOf false x7 x8 = true then ((r02_join.f x5 ((rd_T86 x6 x8).f0) ((rd_T86 x6 x8).f1)).bind fun t374 => (r02_Make.l1 k t374 x6 x7 (wrap64 (x8 + 1)))) else (r02_Make.l1 k x5 x6 x7 (wrap64 (x8 + 1)))) else (none)) else (none)) else (some (x5, 0))
end
def r02_Make.f (k : Nat) (l0 : List (S55)) : Option ((List (S55)) × Int) := r02_Make.l0 k l0 0
theorem r02_Make.calls (k : Nat) (P0_ : Nat → Prop) (A0 : Option Addr) (c0 : Nat) (l0 : List (S55)) (r1 : List (S55)) (r2 : Int) (w : World) (hs0 : Kd.V k55 55 w w.heap.size (fun k_ => P0_ k_) (.slice A0 l0.length c0) l0) (h : r02_Make.f k l0 = some (r1, r2)) :
  Calls Tryd.prog 39 #[.slice A0 l0.length c0] w fun e w' => ∃ v0_ : Value, e = .returned (.tuple #[v0_, .int .i64 r2]) ∧ Kd.R k55 55 w' w.heap.size (fun k_ => (w.heap.size ≤ k_)) v0_ r1 ∧ Below w.heap.size w w' := by
 have hu86 := Tryd.underlying86
 have HO0 := x_m (show Kd.V k55 55 w w.heap.size (fun k_ => (P0_ k_ ∨ w.heap.size ≤ k_)) (.slice A0 l0.length c0) l0 from Kd.V_mono hs0 (fun k_ hk => .inl hk))
 have HB := x_m (Below.refl w.heap.size w)
 have H : (r02_Make.l0 k l0 0) = some (r1, r2) := h
 clear h
 have H' := x_m H
 clear H
 go_enter Tryd.func39, Tryd.ntmps39
 go_wp2
 repeat (go_quiet (fail); try go_wp2)
 go_loopg [4] k (fun kq v4 w' => ∃ (x4_1 : Int), v4 = .int .i64 x4_1 ∧ Aside0 (r02_Make.l0 kq l0 x4_1 = some (r1, r2)) ∧ Aside0 (kq ≤ k) ∧ Aside0 (Kd.V k55 55 w' w.heap.size (fun k_ => (P0_ k_ ∨ w.heap.size ≤ k_)) (.slice A0 l0.length c0) l0) ∧ Aside0 (Below w.heap.size w w'))
 case atStart => exact ⟨(0), x_eqs, H', ⟨Nat.le_refl _⟩, ⟨by (with_reducible repeat (first | apply Kd.V_alloc | apply Kd.V_drewN | apply Kd.V_drew)); exact HO0.out⟩, ⟨x_bel⟩⟩
 case round =>
  clear H'
  obtain ⟨x4_1, rfl, HA, HK1, HO_0, HB⟩ := hrel
  cases gk with
  | zero => exact absurd HA.out (by simp [r02_Make.l0])
  | succ k1 =>
   have H := HA.out
   clear HA
   simp only [r02_Make.l0] at H
   rcases x_if H with ⟨c2b0, H⟩ | ⟨c2b0, H⟩
   ·by_cases c3 : 0 ≤ x4_1
    ·rw [if_pos c3] at H
     have c3b0 := decide_eq_true c3
     clear c3
     rcases x_if H with ⟨c4b0, H⟩ | ⟨c4b0, H⟩
     ·simp only [Option.some.injEq, Prod.mk.injEq] at H
      obtain ⟨rfl, rfl⟩ := H
      have p361 : 0 ≤ (x4_1 : Int) := x_da
      have q361 : x4_1 < (l0.length : Int) := x_da
      obtain ⟨ad361, e361, hx361_0, hx361_1⟩ := at_T55 (Kd.V_reads' HO_0.out).2.2 x4_1 p361 q361
      cases e361
      replace p361 := eq_true p361
      replace q361 := eq_true q361
      have p362 : 0 ≤ (x4_1 : Int) := x_da
      have q362 : x4_1 < (l0.length : Int) := x_da
      obtain ⟨ad362, e362, hx362_0, hx362_1⟩ := at_T55 (Kd.V_reads' HO_0.out).2.2 x4_1 p362 q362
      obtain rfl : ad361 = ad362 := (by injection e362)
      replace p362 := eq_true p362
      replace q362 := eq_true q362
      go_wp2
      repeat (go_quiet (fail); try go_wp2)
      go_ret2
      exact ⟨_, by first | rfl | (simp [errW_none, errW_some] <;> rfl) | (simp [*, errW_none, errW_some] <;> rfl), by first | exact Kd.R_nil _ _ _ _ _ | exact Kd.N_nil _ _ _ _ _ | exact Kd.V_nil _ _ _ _ _ | exact Kd.Q_nil _ _ _ _ _ | exact Kd.S_nil _ _ _ _ _, x_bel⟩
     have H' := x_m H
     clear H
     have p361 : 0 ≤ (x4_1 : Int) := x_da
     have q361 : x4_1 < (l0.length : Int) := x_da
     obtain ⟨ad361, e361, hx361_0, hx361_1⟩ := at_T55 (Kd.V_reads' HO_0.out).2.2 x4_1 p361 q361
     cases e361
     replace p361 := eq_true p361
     replace q361 := eq_true q361
     have p362 : 0 ≤ (x4_1 : Int) := x_da
     have q362 : x4_1 < (l0.length : Int) := x_da
     obtain ⟨ad362, e362, hx362_0, hx362_1⟩ := at_T55 (Kd.V_reads' HO_0.out).2.2 x4_1 p362 q362
     obtain rfl : ad361 = ad362 := (by injection e362)
     replace p362 := eq_true p362
     replace q362 := eq_true q362
     go_wp2
     repeat (go_quiet (fail); try go_wp2)
     go_roundg k1
     case measure => have := HK1.out; omega
     case rel => exact ⟨(wrap64 (x4_1 + 1)), x_eqs, H', ⟨by have := HK1.out; omega⟩, ⟨by (with_reducible repeat (first | apply Kd.V_alloc | apply Kd.V_drewN | apply Kd.V_drew)); exact HO_0.out⟩, ⟨x_bel⟩⟩
    rw [if_neg c3] at H
    exact absurd H (by simp)
   obtain ⟨y363, hy363⟩ : ∃ y_ : List (List (S55)), y_ = (([l0] : List (List (S55)))) := ⟨_, rfl⟩
   replace H : ((r02_pieces.f k1 y363).bind fun t366 => ((r02_inside.f k1 l0 t366).bind fun t369 => (r02_Make.l1 k1 ([] : List (S55)) t366 t369 0))) = some (r1, r2) := x_hh hy363 H
   have Ny363 := x_m hy363
   clear hy363
   replace H := x_bi H
   obtain ⟨t366, A50, H⟩ := H
   have A5 := x_m A50
   clear A50
   replace H := x_bi H
   obtain ⟨t369, A60, H⟩ := H
   have A6 := x_m A60
   clear A60
   have H' := x_m H
   clear H
   go_wp2_with (first | ((with_reducible refine gate_dst (N := 27) rfl ?_); refine Kd.N_lit (Kd.slice 55 k55) _ 25 ?hg (N' := 27) ?hd (xs := ([l0] : List (List (S55)))) (inner := [.slice A0 l0.length c0]) (ok := (fun k_ => (P0_ k_ ∨ w.heap.size ≤ k_))) (okp := (fun k_ => (P0_ k_ ∨ w.heap.size ≤ k_))) ?hr ?hp (fun _ hk => hk) ((show ∀ k_, wr.heap.size ≤ k_ → (fun k_ => (P0_ k_ ∨ w.heap.size ≤ k_)) k_ from fun k_ hk => (.inr (Nat.le_trans (below_size x_bel) hk))) _ (Nat.le_refl _)) (Below.refl _ _) (Nat.le_refl _) (by simp) ?_; (case hd => rfl); (case hg => rfl); (case hr => first | (go_simp; done) | (go_simp; rfl)); (case hp => exact (Reps.one (show Kd.FK (Kd.slice 55 k55) _ _ l0 [.slice A0 l0.length c0] from (Kd.FK_slice_mk (Kd.V_reads' (Kd.V_mono (ok' := (fun k_ => (P0_ k_ ∨ w.heap.size ≤ k_))) (HO_0.out) (fun k_ hk => hk))).2.1 (Kd.V_F (Kd.V_mono (ok' := (fun k_ => (P0_ k_ ∨ w.heap.size ≤ k_))) (HO_0.out) (fun k_ hk => hk))))) (Reps.none _ _))); intro v364 w7 ho8 hb hg_ hnew_; clear hg_ hnew_; (first | rw [← Ny363.out] at ho8 | (simp only [Int.reduceToNat] at ho8; rw [← Ny363.out] at ho8)); replace HO_0 := x_m (Kd.V_elder' (x_vv HO_0.out) (Kd.N_base ho8) hb); have HO365 := x_m (Kd.N_lower ho8 (below_size x_bel)); replace HB := x_m (below_step x_bel hb); clear hb ho8; obtain ⟨Ao9, co9, eo9⟩ := Kd.N_slice HO365.out; subst eo9) | (go_at_call 57; (with_reducible refine (r02_pieces.calls k1 _ _ y363 t366 _ ?side1 ?side2 A5.out).mono ?_); (case side1 => repeat (first | exact (Kd.N_reads' HO365.out).2.2 | (with_reducible refine Kd.C_alloc ?_ _) | (with_reducible refine Kd.C_drewN ?_ _) | (with_reducible refine Kd.C_drew ?_))); (case side2 => exact (Kd.N_reads' HO365.out).2.1); rintro e w10 ⟨v367, rfl, ho0, hb⟩; replace HO_0 := x_m (Kd.V_elder' (x_vv HO_0.out) (Kd.R_base ho0) hb); replace HO365 := x_m (Kd.N_elder' (by (with_reducible repeat (first | apply Kd.N_alloc | apply Kd.N_drewN | apply Kd.N_drew)); exact HO365.out) (Kd.R_base ho0) hb); have HO368 := x_m (Kd.R_lower (Kd.R_newM (M := fun k_ => (w.heap.size ≤ k_)) ho0 (below_size x_bel) (fun k_ h_ => h_)) (below_size x_bel)); replace HB := x_m (below_step x_bel hb); (try clear hb); (try clear hb2); (try clear hk); (try clear hi); (try clear ho0); obtain ⟨Ao11, co11, eo11⟩ := Kd.R_slice HO368.out; subst eo11) | (go_at_call 58; (with_reducible refine (r02_inside.calls k1 _ _ l0 _ _ t366 t369 _ ?side1 ?side2 ?side3 ?side4 A6.out).mono ?_); (case side1 => repeat (first | exact (Kd.V_reads' HO_0.out).2.2 | (with_reducible refine Kd.C_alloc ?_ _) | (with_reducible refine Kd.C_drewN ?_ _) | (with_reducible refine Kd.C_drew ?_))); (case side2 => exact (Kd.V_reads' HO_0.out).2.1); (case side3 => repeat (first | exact (Kd.R_reads' HO368.out).2.2 | (with_reducible refine Kd.C_alloc ?_ _) | (with_reducible refine Kd.C_drewN ?_ _) | (with_reducible refine Kd.C_drew ?_))); (case side4 => exact (Kd.R_reads' HO368.out).2.1); rintro e w12 ⟨v370, rfl, ho0, hb⟩; replace HO_0 := x_m (Kd.V_elder' (x_vv HO_0.out) (Kd.R_base ho0) hb); replace HO365 := x_m (Kd.N_elder' (by (with_reducible repeat (first | apply Kd.N_alloc | apply Kd.N_drewN | apply Kd.N_drew)); exact HO365.out) (Kd.R_base ho0) hb); replace HO368 := x_m (Kd.R_below (x_rr HO368.out) hb); have HO371 := x_m (Kd.R_lower (Kd.R_newM (M := fun k_ => (w.heap.size ≤ k_)) ho0 (below_size x_bel) (fun k_ h_ => h_)) (below_size x_bel)); replace HB := x_m (below_step x_bel hb); (try clear hb); (try clear hb2); (try clear hk); (try clear hi); (try clear ho0)))
   go_loopg [5, 8] k1 (fun kq v5 v8 w' => ∃ (x5_2 : List (S55)) (x8_2 : Int), v8 = .int .i64 x8_2 ∧ Aside0 (r02_Make.l1 kq x5_2 t366 t369 x8_2 = some (r1, r2)) ∧ Aside0 (kq ≤ k1) ∧ Aside0 (Kd.R k55 55 w' w.heap.size (fun k_ => (w.heap.size ≤ k_)) v5 x5_2) ∧ Aside0 (Kd.R k86 86 w' w.heap.size (fun k_ => (w.heap.size ≤ k_)) (.slice Ao11 t366.length co11) t366) ∧ Aside0 (Kd.R Kd.bool 4 w' w.heap.size (fun k_ => (w.heap.size ≤ k_)) v370 t369) ∧ Aside0 (Below w.heap.size w w'))
   case atStart => exact ⟨(([] : List (S55))), (0), x_eqs, H', ⟨Nat.le_refl _⟩, ⟨by first | exact Kd.R_nil _ _ _ _ _ | exact Kd.N_nil _ _ _ _ _ | exact Kd.V_nil _ _ _ _ _ | exact Kd.Q_nil _ _ _ _ _ | exact Kd.S_nil _ _ _ _ _⟩, ⟨by (with_reducible repeat (first | apply Kd.R_alloc | apply Kd.R_drewN | apply Kd.R_drew)); exact Kd.R_mono HO368.out (fun _ hk => hk.1)⟩, ⟨by (with_reducible repeat (first | apply Kd.R_alloc | apply Kd.R_drewN | apply Kd.R_drew)); exact Kd.R_mono HO371.out (fun _ hk => hk.1)⟩, ⟨x_bel⟩⟩
   case round =>
    clear H'
    obtain ⟨x5_2, x8_2, rfl, HA, HK2, HO_5, HO_6, HO_7, HB⟩ := hrel
    cases gk with
    | zero => exact absurd HA.out (by simp [r02_Make.l1])
    | succ k2 =>
     have H := HA.out
     clear HA
     simp only [r02_Make.l1] at H
     rcases x_fi H with ⟨c13b0, H⟩ | ⟨c13b0, H⟩
     ·simp only [Option.some.injEq, Prod.mk.injEq] at H
      obtain ⟨rfl, rfl⟩ := H
      go_wp2
      repeat (go_quiet (fail); try go_wp2)
      go_ret2
      exact ⟨_, by first | rfl | (simp [errW_none, errW_some] <;> rfl) | (simp [*, errW_none, errW_some] <;> rfl), by (with_reducible repeat (first | apply Kd.R_alloc | apply Kd.R_drewN | apply Kd.R_drew)); exact HO_5.out, x_bel⟩

     obtain ⟨c14b0, H⟩ := x_gd H
     obtain ⟨c15b0, H⟩ := x_gd H
     obtain ⟨bq16, hbq16⟩ : ∃ b_ : Bool, b_ = (rdOf false t369 x8_2) := ⟨_, rfl⟩
     replace H : (if bq16 = true then ((r02_join.f x5_2 ((rd_T86 t366 x8_2).f0) ((rd_T86 t366 x8_2).f1)).bind fun t374 => (r02_Make.l1 k2 t374 t366 t369 (wrap64 (x8_2 + 1)))) else (r02_Make.l1 k2 x5_2 t366 t369 (wrap64 (x8_2 + 1)))) = some (r1, r2) := by rw [← hbq16] at H; exact H
     have Nbq16 := x_m hbq16
     clear hbq16
     by_cases c17 : bq16 = true
     rotate_left
     ·replace c17 := Bool.eq_false_iff.mpr c17
      subst c17
      replace H : (r02_Make.l1 k2 x5_2 t366 t369 (wrap64 (x8_2 + 1))) = some (r1, r2) := by rw [if_neg (show ¬ (false = true) by decide)] at H; exact H
      have H' := x_m H
      clear H
      obtain ⟨Ao22, co22, eo22⟩ := Kd.R_slice HO_7.out
      subst eo22
      have p372 : 0 ≤ (x8_2 : Int) := x_da
      have q372 : x8_2 < (t369.length : Int) := x_da
      obtain ⟨ad372, e372, hx372_0⟩ := Kd.at_bool (Kd.R_reads' HO_7.out).2.2 x8_2 p372 q372
      (try rw [← Nbq16.out] at hx372_0)
      cases e372
      replace p372 := eq_true p372
      replace q372 := eq_true q372
      go_wp2
      repeat (go_quiet (fail); try go_wp2)
      go_roundg k2
      case measure => have := HK1.out; have := HK2.out; omega
      case rel => exact ⟨(x5_2), (wrap64 (x8_2 + 1)), x_eqs, H', ⟨by have := HK1.out; have := HK2.out; omega⟩, ⟨x_rr HO_5.out⟩, ⟨x_rr HO_6.out⟩, ⟨x_rr HO_7.out⟩, ⟨x_bel⟩⟩
     subst c17
     replace H : ((r02_join.f x5_2 ((rd_T86 t366 x8_2).f0) ((rd_T86 t366 x8_2).f1)).bind fun t374 => (r02_Make.l1 k2 t374 t366 t369 (wrap64 (x8_2 + 1)))) = some (r1, r2) := by rw [if_pos rfl] at H; exact H
     replace H := x_bi H
     obtain ⟨t374, A180, H⟩ := H
     have A18 := x_m A180
     clear A180
     have H' := x_m H
     clear H
     obtain ⟨Ao19, co19, eo19⟩ := Kd.R_slice HO_7.out
     subst eo19
     have p372 : 0 ≤ (x8_2 : Int) := x_da
     have q372 : x8_2 < (t369.length : Int) := x_da
     obtain ⟨ad372, e372, hx372_0⟩ := Kd.at_bool (Kd.R_reads' HO_7.out).2.2 x8_2 p372 q372
     (try rw [← Nbq16.out] at hx372_0)
     cases e372
     replace p372 := eq_true p372
     replace q372 := eq_true q372
     have p373 : 0 ≤ (x8_2 : Int) := x_da
     have q373 : x8_2 < (t366.length : Int) := x_da
     obtain ⟨ad373, e373, hx373_0, hx373_1⟩ := at_T86 (Kd.R_reads' HO_6.out).2.2 x8_2 p373 q373
     cases e373
     replace p373 := eq_true p373
     replace q373 := eq_true q373
     obtain ⟨Ao20, co20, eo20⟩ := Kd.R_slice HO_5.out
     subst eo20
     go_wp2_with (first | (go_at_call 59; (with_reducible refine (r02_join.calls (fun k_ => some k_ = (.slice Ao20 x5_2.length co20 : Value).ownBlock) (.slice Ao20 x5_2.length co20) x5_2 ((rd_T86 t366 x8_2).f0) ((rd_T86 t366 x8_2).f1) t374 w _ ?side1 ?side2 A18.out).mono ?_); (case side1 => repeat (first | (with_reducible first | exact HB.out | apply below_alloc | apply pw_below_drewN | apply below_drew1) | exact HB.out)); (case side2 => exact Kd.R_tight rfl HO_5.out); rintro e w21 ⟨v375, rfl, ho0, hb, hkp⟩; replace HO_6 := x_m (Kd.R_mono (ok' := fun k_ => (w.heap.size ≤ k_)) (Kd.R_keptB ((Kd.R_apart' HO_6.out (Kd.R_typed HO_5.out) (by decide))) hkp (fun k_ hk_ hs_ => (hk_.2) hs_)) (fun k_ hk_ => hk_.1.1)); replace HO_7 := x_m (Kd.R_mono (ok' := fun k_ => (w.heap.size ≤ k_)) (Kd.R_keptB ((Kd.R_apart' HO_7.out (Kd.R_typed HO_5.out) (by decide))) hkp (fun k_ hk_ hs_ => (hk_.2) hs_)) (fun k_ hk_ => hk_.1.1)); have HO376 := x_m (Kd.R_mono (ok' := fun k_ => (w.heap.size ≤ k_)) ho0 (fun k_ hk_ => Or.elim hk_ (fun hs_ => (HO_5.out.1 k_ (hs_).symm)) (fun hn_ => (Nat.le_trans (below_size x_bel) hn_)))); replace HB := x_m (hb); clear HO_5; (try clear hb); (try clear hkp); (try clear ho0)))
     go_roundg k2
     case measure => have := HK1.out; have := HK2.out; omega
     case rel => exact ⟨(t374), (wrap64 (x8_2 + 1)), x_eqs, H', ⟨by have := HK1.out; have := HK2.out; omega⟩, ⟨x_rr HO376.out⟩, ⟨x_rr HO_6.out⟩, ⟨x_rr HO_7.out⟩, ⟨x_bel⟩⟩
def r05_Join.l0 : Nat → List (List (S45)) → List (S55) → Int → Option ((List (S55)) × Int)
 | 0, _, _, _ => none
 | k + 1, x0, x5, x6 => if x6 < (x0.length : Int) then (if 0 ≤ x6 then ((r05_laid.f k x5 (rd_L5 x0 x6) 0 0).bind fun t379 => (r05_Join.l0 k x0 t379 (wrap64 (x6 + 1)))) else (none)) else ((r02_Make.f k x5).bind fun bt382 => (some (bt382.1, bt382.2)))
def r05_Join.f (k : Nat) (l0 : List (List (S45))) : Option ((List (S55)) × Int) := (r05_Check.f k l0).bind fun t377 => (if t377 = 0 then (r05_Join.l0 k l0 ([] : List (S55)) 0) else (some (([] : List (S55)), t377)))
theorem r05_Join.calls (k : Nat) (A0 : Option Addr) (c0 : Nat) (l0 : List (List (S45))) (r1 : List (S55)) (r2 : Int) (w : World) (hr0 : Kd.C (Kd.slice 45 k45) w A0 l0.length l0) (hc0 : l0.length ≤ c0) (h : r05_Join.f k l0 = some (r1, r2)) :
  Calls Tryd.prog 21 #[.slice A0 l0.length c0] w fun e w' => ∃ v0_ : Value, e = .returned (.tuple #[v0_, .int .i64 r2]) ∧ Kd.R k55 55 w' w.heap.size (fun _ => True) v0_ r1 ∧ Below w.heap.size w w' := by
 have HR0 := x_m hr0
 have HC0 := x_m hc0
 clear hr0 hc0
 have HB := x_m (Below.refl w.heap.size w)
 have H : ((r05_Check.f k l0).bind fun t377 => (if t377 = 0 then (r05_Join.l0 k l0 ([] : List (S55)) 0) else (some (([] : List (S55)), t377)))) = some (r1, r2) := h
 clear h
 replace H := x_bi H
 obtain ⟨t377, A20, H⟩ := H
 have A2 := x_m A20
 clear A20
 rcases x_ei H with ⟨c3, c3b0, c3b1, H⟩ | ⟨c3b0, c3b1, H⟩
 ·simp only [Option.some.injEq, Prod.mk.injEq] at H
  obtain ⟨rfl, rfl⟩ := H
  go_enter Tryd.func21, Tryd.ntmps21
  go_wp2_with (first | ((with_reducible refine gate_callee (f := 12) rfl ?_); refine goesL_ (some 8) rfl rfl Tryd.func12 (by kernel_rfl) rfl #[.slice A0 l0.length c0] rfl x_ag ?_; (with_reducible refine (r05_Check.calls k _ _ l0 t377 _ ?side1 ?side2 A2.out).mono ?_); (case side1 => exact x_cc HR0.out); (case side2 => exact HC0.out); rintro e w' ⟨rfl, ⟨nd, rfl⟩⟩; refine ⟨_, rfl, ?_⟩))
  go_ret2
  exact ⟨_, by first | rfl | (simp [errW_none, errW_some] <;> rfl) | (simp [*, errW_none, errW_some] <;> rfl), by first | exact Kd.R_nil _ _ _ _ _ | exact Kd.N_nil _ _ _ _ _ | exact Kd.V_nil _ _ _ _ _ | exact Kd.Q_nil _ _ _ _ _ | exact Kd.S_nil _ _ _ _ _, x_bel⟩

 have H' := x_m H
 clear H
 go_enter Tryd.func21, Tryd.ntmps21
 go_wp2_with (first | ((with_reducible refine gate_callee (f := 12) rfl ?_); refine goesL_ (some 8) rfl rfl Tryd.func12 (by kernel_rfl) rfl #[.slice A0 l0.length c0] rfl x_ag ?_; (with_reducible refine (r05_Check.calls k _ _ l0 t377 _ ?side1 ?side2 A2.out).mono ?_); (case side1 => exact x_cc HR0.out); (case side2 => exact HC0.out); rintro e w' ⟨rfl, ⟨nd, rfl⟩⟩; refine ⟨_, rfl, ?_⟩))
 go_loopg [5, 6] k (fun kq v5 v6 w' => ∃ (x5_1 : List (S55)) (x6_1 : Int), v6 = .int .i64 x6_1 ∧ Aside0 (r05_Join.l0 kq l0 x5_1 x6_1 = some (r1, r2)) ∧ Aside0 (kq ≤ k) ∧ Aside0 (Kd.R k55 55 w' w.heap.size (fun _ => True) v5 x5_1) ∧ Aside0 (Below w.heap.size w w'))
 case atStart => exact ⟨(([] : List (S55))), (0), x_eqs, H', ⟨Nat.le_refl _⟩, ⟨by first | exact Kd.R_nil _ _ _ _ _ | exact Kd.N_nil _ _ _ _ _ | exact Kd.V_nil _ _ _ _ _ | exact Kd.Q_nil _ _ _ _ _ | exact Kd.S_nil _ _ _ _ _⟩, ⟨x_bel⟩⟩
 case round =>
  clear H'
  obtain ⟨x5_1, x6_1, rfl, HA, HK1, HO_5, HB⟩ := hrel
  cases gk with
  | zero => exact absurd HA.out (by simp [r05_Join.l0])
  | succ k1 =>
   have H := HA.out
   clear HA
   simp only [r05_Join.l0] at H
   rcases x_fi H with ⟨c4b0, H⟩ | ⟨c4b0, H⟩
   ·replace H := x_bi H
    obtain ⟨⟨t382, t385⟩, A90, H⟩ := H
    have A9 := x_m A90
    clear A90
    simp only [Option.some.injEq, Prod.mk.injEq] at H
    obtain ⟨rfl, rfl⟩ := H
    obtain ⟨Ao10, co10, eo10⟩ := Kd.R_slice HO_5.out
    subst eo10
    go_wp2_with (first | ((with_reducible refine gate_callee (f := 39) rfl ?_); refine goesL_ (some 25) rfl rfl Tryd.func39 (by kernel_rfl) rfl #[.slice Ao10 x5_1.length co10] rfl x_ag ?_; (with_reducible refine (r02_Make.calls k1 (fun k_ => some k_ = (.slice Ao10 x5_1.length co10 : Value).ownBlock) _ _ x5_1 t382 t385 _ ?side1 A9.out).mono ?_); (case side1 => exact Kd.R_V (Kd.R_tight rfl (HO_5.out))); rintro e w11 ⟨v383, rfl, ho0, hb⟩; refine ⟨_, rfl, ?_⟩; have n0_ := x_m (Kd.R_elder' (x_rr HO_5.out) (Kd.R_base ho0) hb); have n1_ := x_m (Kd.R_lower (Kd.R_new' (Kd.R_mono (ok' := fun k_ => True) ho0 (fun _ hk_ => trivial)) (Kd.R_lt (x_rr HO_5.out))) (below_size x_bel)); have n2_ := x_m (below_step x_bel hb); clear HO_5; clear HB; have HO_5 := n0_; have HO384 := n1_; have HB := n2_; clear n0_ n1_ n2_; (try clear hb); (try clear hb2); (try clear hk); (try clear hi); (try clear ho0)))
    go_ret2
    exact ⟨_, by first | rfl | (simp [errW_none, errW_some] <;> rfl) | (simp [*, errW_none, errW_some] <;> rfl), by (with_reducible repeat (first | apply Kd.R_alloc | apply Kd.R_drewN | apply Kd.R_drew)); exact Kd.R_mono HO384.out (fun _ hk => trivial), x_bel⟩
   obtain ⟨c5b0, H⟩ := x_gd H
   replace H := x_bi H
   obtain ⟨t379, A60, H⟩ := H
   have A6 := x_m A60
   clear A60
   have H' := x_m H
   clear H
   have p378 : 0 ≤ (x6_1 : Int) := x_da
   have q378 : x6_1 < (l0.length : Int) := x_da
   obtain ⟨ad378, A378_0, c378_0, e378, hx378_0, hl378_0, hi378_0⟩ := at_L5 HR0.out x6_1 p378 q378
   cases e378
   replace hx378_0 := x_tr HB.out hx378_0
   have HR378_0 := x_m hi378_0
   have HC378_0 := x_m hl378_0
   clear hi378_0 hl378_0
   replace p378 := eq_true p378
   replace q378 := eq_true q378
   obtain ⟨Ao7, co7, eo7⟩ := Kd.R_slice HO_5.out
   subst eo7
   go_wp2_with (first | ((with_reducible refine gate_callee (f := 38) rfl ?_); refine goesL_ (some 23) rfl rfl Tryd.func38 (by kernel_rfl) rfl #[.slice Ao7 x5_1.length co7, .slice A378_0 (rd_L5 l0 x6_1).length c378_0, .int .i64 0, .int .i64 0] rfl x_ag ?_; (with_reducible refine (r05_laid.calls k1 (fun k_ => some k_ = (.slice Ao7 x5_1.length co7 : Value).ownBlock) (.slice Ao7 x5_1.length co7) x5_1 _ _ (rd_L5 l0 x6_1) 0 0 t379 w _ ?side1 ?side2 ?side3 ?side4 A6.out).mono ?_); (case side1 => repeat (first | (with_reducible first | exact HB.out | apply below_alloc | apply pw_below_drewN | apply below_drew1) | exact HB.out)); (case side2 => exact Kd.R_tight rfl HO_5.out); (case side3 => exact Kd.C_kept_came k45_heap HR378_0.out x_bel (fun k_ hs_ => (fun e_ => Kd.R_base HO_5.out k_ e_.symm) hs_)); (case side4 => exact HC378_0.out); rintro e w8 ⟨v380, rfl, ho0, hb, hkp⟩; refine ⟨_, rfl, ?_⟩; have HO381 := x_m (Kd.R_mono (ok' := fun k_ => True) ho0 (fun k_ hk_ => trivial)); replace HB := x_m (hb); clear HO_5; (try clear hb); (try clear hkp); (try clear ho0)))
   go_roundg k1
   case measure => have := HK1.out; omega
   case rel => exact ⟨(t379), (wrap64 (x6_1 + 1)), x_eqs, H', ⟨by have := HK1.out; omega⟩, ⟨x_rr HO381.out⟩, ⟨x_bel⟩⟩
mutual
def r05_Count.l0 : Nat → List (List (S45)) → Int → Int → Option (Int × Int)
 | 0, _, _, _ => none
 | k + 1, x0, x5, x6 => if x6 < (x0.length : Int) then (r05_Count.l1 k x0 x5 x6 1 0) else (some (x5, 0))
def r05_Count.l1 : Nat → List (List (S45)) → Int → Int → Int → Int → Option (Int × Int)
 | 0, _, _, _, _, _ => none
 | k + 1, x0, x5, x6, x7, x8 => if 0 ≤ x6 then (if x6 < (x0.length : Int) then (if x8 < ((rd_L5 x0 x6).length : Int) then (if 0 ≤ x8 then (r05_Count.l1 k x0 x5 x6 (wrap64 (x7 * (wrap64 ((wrap64 ((wrap64 ((rd_T45 (rd_L5 x0 x6) x8).f1)) - (wrap64 ((rd_T45 (rd_L5 x0 x6) x8).f0)))) + 1)))) (wrap64 (x8 + 1))) else (none)) else (r05_Count.l0 k x0 (wrap64 (x5 + x7)) (wrap64 (x6 + 1)))) else (none)) else (none)
end
def r05_Count.f (k : Nat) (l0 : List (List (S45))) : Option (Int × Int) := (r05_Check.f k l0).bind fun t386 => (if t386 = 0 then (r05_Count.l0 k l0 0 0) else (some (0, t386)))
theorem r05_Count.calls (k : Nat) (A0 : Option Addr) (c0 : Nat) (l0 : List (List (S45))) (r1 : Int) (r2 : Int) (w : World) (hr0 : Kd.C (Kd.slice 45 k45) w A0 l0.length l0) (hc0 : l0.length ≤ c0) (h : r05_Count.f k l0 = some (r1, r2)) :
  Calls Tryd.prog 22 #[.slice A0 l0.length c0] w fun e w' => e = .returned (.tuple #[.int .i64 r1, .int .i64 r2]) ∧ Drawn0 w w' := by
 have HR0 := x_m hr0
 have HC0 := x_m hc0
 clear hr0 hc0
 have H : ((r05_Check.f k l0).bind fun t386 => (if t386 = 0 then (r05_Count.l0 k l0 0 0) else (some (0, t386)))) = some (r1, r2) := h
 clear h
 replace H := x_bi H
 obtain ⟨t386, A20, H⟩ := H
 have A2 := x_m A20
 clear A20
 rcases x_ei H with ⟨c3, c3b0, c3b1, H⟩ | ⟨c3b0, c3b1, H⟩
 ·simp only [Option.some.injEq, Prod.mk.injEq] at H
  obtain ⟨rfl, rfl⟩ := H
  go_enter Tryd.func22, Tryd.ntmps22
  go_wp2_with (first | (go_at_call 12; (with_reducible refine (r05_Check.calls k _ _ l0 t386 _ ?side1 ?side2 A2.out).mono ?_); (case side1 => exact x_cc HR0.out); (case side2 => exact HC0.out); rintro e w' ⟨rfl, ⟨nd, rfl⟩⟩; (try first | exact ⟨rfl, _, World.drewN_drewN _ _ _⟩ | exact ⟨rfl, _, Eq.trans (World.drewN_drewN _ _ _) (congrArg (World.drewN _) (Nat.add_assoc _ _ _))⟩)))
  go_ret2
  exact ⟨x_eqs, x_dr⟩

 have H' := x_m H
 clear H
 go_enter Tryd.func22, Tryd.ntmps22
 go_wp2_with (first | (go_at_call 12; (with_reducible refine (r05_Check.calls k _ _ l0 t386 _ ?side1 ?side2 A2.out).mono ?_); (case side1 => exact x_cc HR0.out); (case side2 => exact HC0.out); rintro e w' ⟨rfl, ⟨nd, rfl⟩⟩; (try first | exact ⟨rfl, _, World.drewN_drewN _ _ _⟩ | exact ⟨rfl, _, Eq.trans (World.drewN_drewN _ _ _) (congrArg (World.drewN _) (Nat.add_assoc _ _ _))⟩)))
 go_loopg [5, 6] k (fun kq v5 v6 w' => ∃ (x5_1 : Int) (x6_1 : Int), v5 = .int .i64 x5_1 ∧ v6 = .int .i64 x6_1 ∧ Aside0 (r05_Count.l0 kq l0 x5_1 x6_1 = some (r1, r2)) ∧ Aside0 (kq ≤ k) ∧ Drawn0 w w')
 case atStart => exact ⟨(0), (0), x_eqs, x_eqs, H', ⟨Nat.le_refl _⟩, by repeat (first | exact Drawn0.refl _ | apply Drawn0.step)⟩
 case round =>
  clear H'
  obtain ⟨x5_1, x6_1, rfl, rfl, HA, HK1, ⟨m1, rfl⟩⟩ := hrel
  cases gk with
  | zero => exact absurd HA.out (by simp [r05_Count.l0])
  | succ k1 =>
   have H := HA.out
   clear HA
   simp only [r05_Count.l0] at H
   rcases x_fi H with ⟨c4b0, H⟩ | ⟨c4b0, H⟩
   ·simp only [Option.some.injEq, Prod.mk.injEq] at H
    obtain ⟨rfl, rfl⟩ := H
    go_wp2
    repeat (go_quiet (fail); try go_wp2)
    go_ret2
    exact ⟨x_eqs, x_dr⟩
   have H' := x_m H
   clear H
   go_wp2
   repeat (go_quiet (fail); try go_wp2)
   go_loopg [7, 8] k1 (fun kq v7 v8 w' => ∃ (x7_2 : Int) (x8_2 : Int), v7 = .int .i64 x7_2 ∧ v8 = .int .i64 x8_2 ∧ Aside0 (r05_Count.l1 kq l0 x5_1 x6_1 x7_2 x8_2 = some (r1, r2)) ∧ Aside0 (kq ≤ k1) ∧ Drawn0 w w')
   case atStart => exact ⟨(1), (0), x_eqs, x_eqs, H', ⟨Nat.le_refl _⟩, by repeat (first | exact Drawn0.refl _ | apply Drawn0.step)⟩
   case round =>
    clear H'
    obtain ⟨x7_2, x8_2, rfl, rfl, HA, HK2, ⟨m2, rfl⟩⟩ := hrel
    cases gk with
    | zero => exact absurd HA.out (by simp [r05_Count.l1])
    | succ k2 =>
     have H := HA.out
     clear HA
     simp only [r05_Count.l1] at H
     obtain ⟨c5b0, H⟩ := x_gd H
     obtain ⟨c6b0, H⟩ := x_gd H
     rcases x_fi H with ⟨c7b0, H⟩ | ⟨c7b0, H⟩
     ·have H' := x_m H
      clear H
      have p387 : 0 ≤ (x6_1 : Int) := x_da
      have q387 : x6_1 < (l0.length : Int) := x_da
      obtain ⟨ad387, A387_0, c387_0, e387, hx387_0, hl387_0, hi387_0⟩ := at_L5 HR0.out x6_1 p387 q387
      cases e387
      have HR387_0 := x_m hi387_0
      have HC387_0 := x_m hl387_0
      clear hi387_0 hl387_0
      replace p387 := eq_true p387
      replace q387 := eq_true q387
      go_wp2
      repeat (go_quiet (fail); try go_wp2)
      go_roundg k2
      case measure => have := HK1.out; have := HK2.out; omega
      case rel => exact ⟨(wrap64 (x5_1 + x7_2)), (wrap64 (x6_1 + 1)), x_eqs, x_eqs, H', ⟨by have := HK1.out; have := HK2.out; omega⟩, by repeat (first | exact Drawn0.refl _ | apply Drawn0.step)⟩
     obtain ⟨c8b0, H⟩ := x_gd H
     have H' := x_m H
     clear H
     have p387 : 0 ≤ (x6_1 : Int) := x_da
     have q387 : x6_1 < (l0.length : Int) := x_da
     obtain ⟨ad387, A387_0, c387_0, e387, hx387_0, hl387_0, hi387_0⟩ := at_L5 HR0.out x6_1 p387 q387
     cases e387
     have HR387_0 := x_m hi387_0
     have HC387_0 := x_m hl387_0
     clear hi387_0 hl387_0
     replace p387 := eq_true p387
     replace q387 := eq_true q387
     have p388 : 0 ≤ (x6_1 : Int) := x_da
     have q388 : x6_1 < (l0.length : Int) := x_da
     obtain ⟨ad388, A388_0, c388_0, e388, hx388_0, hl388_0, hi388_0⟩ := at_L5 HR0.out x6_1 p388 q388
     obtain rfl : ad387 = ad388 := (by injection e388)
     have HR388_0 := x_m hi388_0
     have HC388_0 := x_m hl388_0
     clear hi388_0 hl388_0
     replace p388 := eq_true p388
     replace q388 := eq_true q388
     have ea_ := Option.some.inj (hx387_0.symm.trans hx388_0)
     injection ea_ with ea_ en_ ec_
     subst ea_
     subst ec_
     clear en_
     have p389 : 0 ≤ (x8_2 : Int) := x_da
     have q389 : x8_2 < ((rd_L5 l0 x6_1).length : Int) := x_da
     obtain ⟨ad389, e389, hx389_0, hx389_1⟩ := at_T45 HR388_0.out x8_2 p389 q389
     cases e389
     replace p389 := eq_true p389
     replace q389 := eq_true q389
     have p390 : 0 ≤ (x6_1 : Int) := x_da
     have q390 : x6_1 < (l0.length : Int) := x_da
     obtain ⟨ad390, A390_0, c390_0, e390, hx390_0, hl390_0, hi390_0⟩ := at_L5 HR0.out x6_1 p390 q390
     obtain rfl : ad387 = ad390 := (by injection e390)
     have HR390_0 := x_m hi390_0
     have HC390_0 := x_m hl390_0
     clear hi390_0 hl390_0
     replace p390 := eq_true p390
     replace q390 := eq_true q390
     have ea_ := Option.some.inj (hx387_0.symm.trans hx390_0)
     injection ea_ with ea_ en_ ec_
     subst ea_
     subst ec_
     clear en_
     have p391 : 0 ≤ (x8_2 : Int) := x_da
     have q391 : x8_2 < ((rd_L5 l0 x6_1).length : Int) := x_da
     obtain ⟨ad391, e391, hx391_0, hx391_1⟩ := at_T45 HR390_0.out x8_2 p391 q391
     cases e391
     replace p391 := eq_true p391
     replace q391 := eq_true q391
     go_wp2
     repeat (go_quiet (fail); try go_wp2)
     go_roundg k2
     case measure => have := HK1.out; have := HK2.out; omega
     case rel => exact ⟨(wrap64 (x7_2 * (wrap64 ((wrap64 ((wrap64 ((rd_T45 (rd_L5 l0 x6_1) x8_2).f1)) - (wrap64 ((rd_T45 (rd_L5 l0 x6_1) x8_2).f0)))) + 1)))), (wrap64 (x8_2 + 1)), x_eqs, x_eqs, H', ⟨by have := HK1.out; have := HK2.out; omega⟩, by repeat (first | exact Drawn0.refl _ | apply Drawn0.step)⟩
end Go.Proofs.YtjjcpjhnhpdgcaaDoor.XS
