/- Contracts and lemmas for the statement, put together by a program of this session (wip/tools/pack.py). -/
import Derived.Test.YtjjcpjhnhpdgcaaDoorQE2
import Derived.Test.YtjjcpjhnhpdgcaaDoorProg
import Derived.Below
import Derived.Deep.Draws
import Derived.Deep.AppendLies
import Derived.Maps.AppendAt
import Derived.OwnWalk
import Derived.Laws.BytesArg
import Derived.Laws.MakeOwn
import Derived.Laws.OwnMore
import Derived.Deep.OwnRows
import Derived.Tactics
import Derived.Lib.ConvBytes
import Derived.Laws.Slices
import Derived.WalkKit
import Derived.KernelRfl
import Derived.RowKit3
import Derived.Deep.LoopGhost
import Derived.Deep.QuietTactic
import Derived.BigQuiet
import Derived.WideLaws
import Derived.Deep.DeepCutAuto
import Derived.Deep.CutBlock
import Derived.Deep.RegionHeld3
import Derived.Laws.Rows
import Derived.Lib.AppendStr
import Derived.ArgAppend
import Derived.Laws.IdiomCopy
import Derived.RowKit
import Derived.MapKept
import Derived.Carry
import Derived.Laws.StructEq
import Derived.Laws.RangeAny
import Derived.OrdersHeld
import Derived.Laws.BitsLemmas
import Derived.Deep.RegionHeld
import Derived.Laws.Strings
import Derived.WalkSpells
import Derived.Shelf.Small.Bits
import Derived.Shelf.Strconv.Itoa0
import Derived.Shelf.Unicode.Decode
import Derived.Shelf.Unicode.DecodeSlow
import Derived.Shelf.Unicode.DecodeAny
import Derived.Shelf.SlGeneric
import Derived.Ground.SlsfProg
import Derived.Shelf.SlSortCmp.WholeK
import Derived.Shelf.SlSortCmp.NoneTotal
import Derived.Sort.OwnSorted
import GoSem.PinnedTables
namespace Go.Proofs.YtjjcpjhnhpdgcaaDoor.XS
open Go.Proofs.YtjjcpjhnhpdgcaaDoor.XShort
open Go.RowKit Go.Proofs.YtjjcpjhnhpdgcaaDoorW.PrintWords Go.Proofs.YtjjcpjhnhpdgcaaDoorW.PrintLast Go.Proofs.YtjjcpjhnhpdgcaaDoorW.PrintMore
attribute [local go_sem] max2_int min2_int max_two min_two max_three min_three max_four min_four   -- for this text's walks alone
set_option linter.unusedVariables false
set_option linter.unusedSimpArgs false
set_option maxHeartbeats 16000000
set_option maxRecDepth 100000

mutual
def r05_Width.j0 : Nat → List (List (S45)) → ByteArray → Int → Bool → Option (Int × Int)
 | 0, _, _, _, _ => none
 | k + 1, x0, x1, x2, x24 => if x24 = true then (some (0, 3)) else (r05_Width.l0 k x0 x1 x2 0)
def r05_Width.l0 : Nat → List (List (S45)) → ByteArray → Int → Int → Option (Int × Int)
 | 0, _, _, _, _ => none
 | k + 1, x0, x1, x2, x9 => if x9 < (x0.length : Int) then (if 0 ≤ x9 then (if ((rd_L5 x0 x9).length : Int) > (wrap64 ((x1.size : Int) - x2)) then (r05_Width.l0 k x0 x1 x2 (wrap64 (x9 + 1))) else (r05_Width.l1 k x0 x1 x2 x9 (rd_L5 x0 x9) 0)) else (none)) else (some (0, 7))
def r05_Width.l1 : Nat → List (List (S45)) → ByteArray → Int → Int → List (S45) → Int → Option (Int × Int)
 | 0, _, _, _, _, _, _ => none
 | k + 1, x0, x1, x2, x9, x10, x11 => if x11 < (x10.length : Int) then (if 0 ≤ (wrap64 (x2 + x11)) then (if (wrap64 (x2 + x11)) < (x1.size : Int) then (if 0 ≤ x11 then (if (bt x1 (wrap64 (x2 + x11))) ≥ ((rd_T45 x10 x11).f0) then (if (bt x1 (wrap64 (x2 + x11))) ≤ ((rd_T45 x10 x11).f1) then (r05_Width.l1 k x0 x1 x2 x9 x10 (wrap64 (x11 + 1))) else (if x11 = (x10.length : Int) then (some (x11, 0)) else (r05_Width.l0 k x0 x1 x2 (wrap64 (x9 + 1))))) else (if x11 = (x10.length : Int) then (some (x11, 0)) else (r05_Width.l0 k x0 x1 x2 (wrap64 (x9 + 1))))) else (none)) else (none)) else (none)) else (if x11 = (x10.length : Int) then (some (x11, 0)) else (r05_Width.l0 k x0 x1 x2 (wrap64 (x9 + 1))))
end
def r05_Width.f (k : Nat) (l0 : List (List (S45))) (a1 : ByteArray) (a2 : Int) : Option (Int × Int) := (r05_Check.f k l0).bind fun t392 => (if t392 = 0 then (if a2 < 0 then (r05_Width.j0 k l0 a1 a2 true) else (r05_Width.j0 k l0 a1 a2 (decide (a2 > (a1.size : Int))))) else (some (0, t392)))
theorem r05_Width.calls (k : Nat) (A0 : Option Addr) (c0 : Nat) (l0 : List (List (S45))) (a1 : ByteArray) (a2 : Int) (r1 : Int) (r2 : Int) (w : World) (hr0 : Kd.C (Kd.slice 45 k45) w A0 l0.length l0) (hc0 : l0.length ≤ c0) (h : r05_Width.f k l0 a1 a2 = some (r1, r2)) :
  Calls Tryd.prog 23 #[.slice A0 l0.length c0, .string a1, .int .i64 a2] w fun e w' => e = .returned (.tuple #[.int .i64 r1, .int .i64 r2]) ∧ Drawn0 w w' := by
 have HR0 := x_m hr0
 have HC0 := x_m hc0
 clear hr0 hc0
 have H : ((r05_Check.f k l0).bind fun t392 => (if t392 = 0 then (if a2 < 0 then (r05_Width.j0 k l0 a1 a2 true) else (r05_Width.j0 k l0 a1 a2 (decide (a2 > (a1.size : Int))))) else (some (0, t392)))) = some (r1, r2) := h
 clear h
 replace H := x_bi H
 obtain ⟨t392, A40, H⟩ := H
 have A4 := x_m A40
 clear A40
 rcases x_ei H with ⟨c5, c5b0, c5b1, H⟩ | ⟨c5b0, c5b1, H⟩
 ·simp only [Option.some.injEq, Prod.mk.injEq] at H
  obtain ⟨rfl, rfl⟩ := H
  go_enter Tryd.func23, Tryd.ntmps23
  go_wp2_with (first | (go_at_call 12; (with_reducible refine (r05_Check.calls k _ _ l0 t392 _ ?side1 ?side2 A4.out).mono ?_); (case side1 => exact x_cc HR0.out); (case side2 => exact HC0.out); rintro e w' ⟨rfl, ⟨nd, rfl⟩⟩; (try first | exact ⟨rfl, _, World.drewN_drewN _ _ _⟩ | exact ⟨rfl, _, Eq.trans (World.drewN_drewN _ _ _) (congrArg (World.drewN _) (Nat.add_assoc _ _ _))⟩)))
  go_ret2
  exact ⟨x_eqs, x_dr⟩

 have HC6 := x_m H
 clear H
 go_enter Tryd.func23, Tryd.ntmps23
 go_upto_region 4 with (first | (go_at_call 12; (with_reducible refine (r05_Check.calls k _ _ l0 t392 _ ?side1 ?side2 A4.out).mono ?_); (case side1 => exact x_cc HR0.out); (case side2 => exact HC0.out); rintro e w' ⟨rfl, ⟨nd, rfl⟩⟩; (try first | exact ⟨rfl, _, World.drewN_drewN _ _ _⟩ | exact ⟨rfl, _, Eq.trans (World.drewN_drewN _ _ _) (congrArg (World.drewN _) (Nat.add_assoc _ _ _))⟩)))
 (try simp only [Act.put, List.setIfInBounds_toArray, List.set_cons_zero, List.set_cons_succ])
 go_cut [24] (fun v24 wc => ∃ (kq : Nat) (x24_5 : Bool), v24 = .bool x24_5 ∧ Aside0 (r05_Width.j0 kq l0 a1 a2 x24_5 = some (r1, r2)) ∧ Aside0 (kq ≤ k) ∧ Drawn0 w wc)
 case first =>
  have H := HC6.out
  clear HC6
  rcases x_if H with ⟨c7b0, H⟩ | ⟨c7b0, H⟩
  ·(first | rw [c7b0] | (simp only [i64_w, i32_w]; rw [c7b0]) | skip)
   have H' := x_m H
   clear H
   go_wp2
   repeat (go_quiet (fail); try go_wp2)
   go_meet
   case rel => exact ⟨_, (true), x_eqs, H', ⟨by first | omega | exact Nat.le_refl _⟩, by repeat (first | exact Drawn0.refl _ | apply Drawn0.step)⟩
  (first | rw [c7b0] | (simp only [i64_w, i32_w]; rw [c7b0]) | skip)
  have H' := x_m H
  clear H
  go_wp2
  repeat (go_quiet (fail); try go_wp2)
  go_meet
  case rel => exact ⟨_, (decide (a2 > (a1.size : Int))), x_eqs, H', ⟨by first | omega | exact Nat.le_refl _⟩, by repeat (first | exact Drawn0.refl _ | apply Drawn0.step)⟩
 case rest =>
  clear HC6
  obtain ⟨kq, x24_5, rfl, HA, HJ5, ⟨mc5, rfl⟩⟩ := hcut
  cases kq with
  | zero => exact absurd HA.out (by simp [r05_Width.j0])
  | succ kj5 =>
   have H := HA.out
   clear HA
   simp only [r05_Width.j0] at H
   by_cases c8 : x24_5 = true
   ·subst c8
    replace H : (some (0, 3)) = some (r1, r2) := by rw [if_pos rfl] at H; exact H
    simp only [Option.some.injEq, Prod.mk.injEq] at H
    obtain ⟨rfl, rfl⟩ := H
    go_wp2
    repeat (go_quiet (fail); try go_wp2)
    go_ret2
    exact ⟨x_eqs, x_dr⟩
   replace c8 := Bool.eq_false_iff.mpr c8
   subst c8
   replace H : (r05_Width.l0 kj5 l0 a1 a2 0) = some (r1, r2) := by rw [if_neg (show ¬ (false = true) by decide)] at H; exact H
   have H' := x_m H
   clear H
   go_wp2
   repeat (go_quiet (fail); try go_wp2)
   go_loopg [9] kj5 (fun kq v9 w' => ∃ (x9_2 : Int), v9 = .int .i64 x9_2 ∧ Aside0 (r05_Width.l0 kq l0 a1 a2 x9_2 = some (r1, r2)) ∧ Aside0 (kq ≤ kj5) ∧ Drawn0 w w')
   case atStart => exact ⟨(0), x_eqs, H', ⟨Nat.le_refl _⟩, by repeat (first | exact Drawn0.refl _ | apply Drawn0.step)⟩
   case round =>
    clear H'
    obtain ⟨x9_2, rfl, HA, HK2, ⟨m2, rfl⟩⟩ := hrel
    cases gk with
    | zero => exact absurd HA.out (by simp [r05_Width.l0])
    | succ k2 =>
     have H := HA.out
     clear HA
     simp only [r05_Width.l0] at H
     rcases x_fi H with ⟨c9b0, H⟩ | ⟨c9b0, H⟩
     ·simp only [Option.some.injEq, Prod.mk.injEq] at H
      obtain ⟨rfl, rfl⟩ := H
      go_wp2
      repeat (go_quiet (fail); try go_wp2)
      go_ret2
      exact ⟨x_eqs, x_dr⟩
     obtain ⟨c10b0, H⟩ := x_gd H
     rcases x_if H with ⟨c11b0, H⟩ | ⟨c11b0, H⟩
     ·have H' := x_m H
      clear H
      have p393 : 0 ≤ (x9_2 : Int) := x_da
      have q393 : x9_2 < (l0.length : Int) := x_da
      obtain ⟨ad393, A393_0, c393_0, e393, hx393_0, hl393_0, hi393_0⟩ := at_L5 HR0.out x9_2 p393 q393
      cases e393
      have HR393_0 := x_m hi393_0
      have HC393_0 := x_m hl393_0
      clear hi393_0 hl393_0
      replace p393 := eq_true p393
      replace q393 := eq_true q393
      go_wp2
      repeat (go_quiet (fail); try go_wp2)
      go_roundg k2
      case measure => have := HJ5.out; have := HK2.out; omega
      case rel => exact ⟨(wrap64 (x9_2 + 1)), x_eqs, H', ⟨by have := HJ5.out; have := HK2.out; omega⟩, by repeat (first | exact Drawn0.refl _ | apply Drawn0.step)⟩
     have H' := x_m H
     clear H
     have p393 : 0 ≤ (x9_2 : Int) := x_da
     have q393 : x9_2 < (l0.length : Int) := x_da
     obtain ⟨ad393, A393_0, c393_0, e393, hx393_0, hl393_0, hi393_0⟩ := at_L5 HR0.out x9_2 p393 q393
     cases e393
     have HR393_0 := x_m hi393_0
     have HC393_0 := x_m hl393_0
     clear hi393_0 hl393_0
     replace p393 := eq_true p393
     replace q393 := eq_true q393
     go_wp2
     repeat (go_quiet (fail); try go_wp2)
     go_loopg [11] k2 (fun kq v11 w' => ∃ (x11_3 : Int), v11 = .int .i64 x11_3 ∧ Aside0 (r05_Width.l1 kq l0 a1 a2 x9_2 (rd_L5 l0 x9_2) x11_3 = some (r1, r2)) ∧ Aside0 (kq ≤ k2) ∧ Drawn0 w w')
     case atStart => exact ⟨(0), x_eqs, H', ⟨Nat.le_refl _⟩, by repeat (first | exact Drawn0.refl _ | apply Drawn0.step)⟩
     case round =>
      clear H'
      obtain ⟨x11_3, rfl, HA, HK3, ⟨m3, rfl⟩⟩ := hrel
      cases gk with
      | zero => exact absurd HA.out (by simp [r05_Width.l1])
      | succ k3 =>
       have H := HA.out
       clear HA
       simp only [r05_Width.l1] at H
       rcases x_fi H with ⟨c12b0, H⟩ | ⟨c12b0, H⟩
       ·by_cases c23 : x11_3 = ((rd_L5 l0 x9_2).length : Int)
        ·rw [if_pos c23] at H
         have c23b0 : (x11_3 == ((rd_L5 l0 x9_2).length : Int)) = true := beq_iff_eq.mpr c23
         have c23b1 : (x11_3 != ((rd_L5 l0 x9_2).length : Int)) = false := bne_eq_false_iff_eq.mpr c23
         clear c23
         simp only [Option.some.injEq, Prod.mk.injEq] at H
         obtain ⟨rfl, rfl⟩ := H
         go_wp2
         repeat (go_quiet (fail); try go_wp2)
         go_ret2
         exact ⟨x_eqs, x_dr⟩
        rw [if_neg c23] at H
        have c23b0 : (x11_3 == ((rd_L5 l0 x9_2).length : Int)) = false := beq_eq_false_iff_ne.mpr c23
        have c23b1 : (x11_3 != ((rd_L5 l0 x9_2).length : Int)) = true := bne_iff_ne.mpr c23
        have H' := x_m H
        clear H
        go_wp2
        repeat (go_quiet (fail); try go_wp2)
        go_roundg k3
        case measure => have := HJ5.out; have := HK2.out; have := HK3.out; omega
        case rel => exact ⟨(wrap64 (x9_2 + 1)), x_eqs, H', ⟨by have := HJ5.out; have := HK2.out; have := HK3.out; omega⟩, by repeat (first | exact Drawn0.refl _ | apply Drawn0.step)⟩
       obtain ⟨ji13, hji13⟩ : ∃ j_ : Int, (wrap64 (a2 + x11_3)) = j_ := ⟨_, rfl⟩
       replace H : (if 0 ≤ (ji13) then (if (ji13) < (a1.size : Int) then (if 0 ≤ x11_3 then (if (bt a1 (ji13)) ≥ ((rd_T45 (rd_L5 l0 x9_2) x11_3).f0) then (if (bt a1 (ji13)) ≤ ((rd_T45 (rd_L5 l0 x9_2) x11_3).f1) then (r05_Width.l1 k3 l0 a1 a2 x9_2 (rd_L5 l0 x9_2) (wrap64 (x11_3 + 1))) else (if x11_3 = ((rd_L5 l0 x9_2).length : Int) then (some (x11_3, 0)) else (r05_Width.l0 k3 l0 a1 a2 (wrap64 (x9_2 + 1))))) else (if x11_3 = ((rd_L5 l0 x9_2).length : Int) then (some (x11_3, 0)) else (r05_Width.l0 k3 l0 a1 a2 (wrap64 (x9_2 + 1))))) else (none)) else (none)) else (none)) = some (r1, r2) := by first | (rw [hji13] at H; exact H) | (simp only [hji13] at H ⊢; exact H)
       have hji13w : (IntKind.i64.wrap (a2 + x11_3)) = ji13 := (i64_w _).trans hji13
       obtain ⟨c14b0, H⟩ := x_gd H
       obtain ⟨c15b0, H⟩ := x_gd H
       obtain ⟨c17b0, H⟩ := x_gd H
       rcases x_fi H with ⟨c18b0, H⟩ | ⟨c18b0, H⟩
       ·by_cases c22 : x11_3 = ((rd_L5 l0 x9_2).length : Int)
        ·rw [if_pos c22] at H
         have c22b0 : (x11_3 == ((rd_L5 l0 x9_2).length : Int)) = true := beq_iff_eq.mpr c22
         have c22b1 : (x11_3 != ((rd_L5 l0 x9_2).length : Int)) = false := bne_eq_false_iff_eq.mpr c22
         clear c22
         simp only [Option.some.injEq, Prod.mk.injEq] at H
         obtain ⟨rfl, rfl⟩ := H
         have p16 : 0 ≤ ((ji13) : Int) := x_da
         have q16 : (ji13) < (a1.size : Int) := x_da
         have hx16 := bt_at a1 (ji13)
         replace p16 := eq_true p16
         replace q16 := eq_true q16
         have p394 : 0 ≤ (x11_3 : Int) := x_da
         have q394 : x11_3 < ((rd_L5 l0 x9_2).length : Int) := x_da
         obtain ⟨ad394, e394, hx394_0, hx394_1⟩ := at_T45 HR393_0.out x11_3 p394 q394
         cases e394
         replace p394 := eq_true p394
         replace q394 := eq_true q394
         go_wp2
         repeat (go_quiet (fail); try go_wp2)
         go_ret2
         exact ⟨by first | rfl | (simp; done) | (simp only [← hji13] <;> (first | rfl | simp)) | (simp [*]; done), by repeat (first | exact Drawn0.refl _ | apply Drawn0.step)⟩
        rw [if_neg c22] at H
        have c22b0 : (x11_3 == ((rd_L5 l0 x9_2).length : Int)) = false := beq_eq_false_iff_ne.mpr c22
        have c22b1 : (x11_3 != ((rd_L5 l0 x9_2).length : Int)) = true := bne_iff_ne.mpr c22
        have H' := x_m H
        clear H
        have p16 : 0 ≤ ((ji13) : Int) := x_da
        have q16 : (ji13) < (a1.size : Int) := x_da
        have hx16 := bt_at a1 (ji13)
        replace p16 := eq_true p16
        replace q16 := eq_true q16
        have p394 : 0 ≤ (x11_3 : Int) := x_da
        have q394 : x11_3 < ((rd_L5 l0 x9_2).length : Int) := x_da
        obtain ⟨ad394, e394, hx394_0, hx394_1⟩ := at_T45 HR393_0.out x11_3 p394 q394
        cases e394
        replace p394 := eq_true p394
        replace q394 := eq_true q394
        go_wp2
        repeat (go_quiet (fail); try go_wp2)
        go_roundg k3
        case measure => have := HJ5.out; have := HK2.out; have := HK3.out; omega
        case rel => exact ⟨(wrap64 (x9_2 + 1)), x_eqs, H', ⟨by have := HJ5.out; have := HK2.out; have := HK3.out; omega⟩, by repeat (first | exact Drawn0.refl _ | apply Drawn0.step)⟩
       rcases x_if H with ⟨c20b0, H⟩ | ⟨c20b0, H⟩
       ·have H' := x_m H
        clear H
        have p16 : 0 ≤ ((ji13) : Int) := x_da
        have q16 : (ji13) < (a1.size : Int) := x_da
        have hx16 := bt_at a1 (ji13)
        replace p16 := eq_true p16
        replace q16 := eq_true q16
        have p394 : 0 ≤ (x11_3 : Int) := x_da
        have q394 : x11_3 < ((rd_L5 l0 x9_2).length : Int) := x_da
        obtain ⟨ad394, e394, hx394_0, hx394_1⟩ := at_T45 HR393_0.out x11_3 p394 q394
        cases e394
        replace p394 := eq_true p394
        replace q394 := eq_true q394
        have p19 : 0 ≤ ((ji13) : Int) := x_da
        have q19 : (ji13) < (a1.size : Int) := x_da
        have hx19 := bt_at a1 (ji13)
        replace p19 := eq_true p19
        replace q19 := eq_true q19
        have p395 : 0 ≤ (x11_3 : Int) := x_da
        have q395 : x11_3 < ((rd_L5 l0 x9_2).length : Int) := x_da
        obtain ⟨ad395, e395, hx395_0, hx395_1⟩ := at_T45 HR393_0.out x11_3 p395 q395
        obtain rfl : ad394 = ad395 := (by injection e395)
        replace p395 := eq_true p395
        replace q395 := eq_true q395
        go_wp2
        repeat (go_quiet (fail); try go_wp2)
        go_roundg k3
        case measure => have := HJ5.out; have := HK2.out; have := HK3.out; omega
        case rel => exact ⟨(wrap64 (x11_3 + 1)), x_eqs, H', ⟨by have := HJ5.out; have := HK2.out; have := HK3.out; omega⟩, by repeat (first | exact Drawn0.refl _ | apply Drawn0.step)⟩
       rcases x_ie H with ⟨c21b0, c21b1, H⟩ | ⟨c21, c21b0, c21b1, H⟩
       ·simp only [Option.some.injEq, Prod.mk.injEq] at H
        obtain ⟨rfl, rfl⟩ := H
        have p16 : 0 ≤ ((ji13) : Int) := x_da
        have q16 : (ji13) < (a1.size : Int) := x_da
        have hx16 := bt_at a1 (ji13)
        replace p16 := eq_true p16
        replace q16 := eq_true q16
        have p394 : 0 ≤ (x11_3 : Int) := x_da
        have q394 : x11_3 < ((rd_L5 l0 x9_2).length : Int) := x_da
        obtain ⟨ad394, e394, hx394_0, hx394_1⟩ := at_T45 HR393_0.out x11_3 p394 q394
        cases e394
        replace p394 := eq_true p394
        replace q394 := eq_true q394
        have p19 : 0 ≤ ((ji13) : Int) := x_da
        have q19 : (ji13) < (a1.size : Int) := x_da
        have hx19 := bt_at a1 (ji13)
        replace p19 := eq_true p19
        replace q19 := eq_true q19
        have p395 : 0 ≤ (x11_3 : Int) := x_da
        have q395 : x11_3 < ((rd_L5 l0 x9_2).length : Int) := x_da
        obtain ⟨ad395, e395, hx395_0, hx395_1⟩ := at_T45 HR393_0.out x11_3 p395 q395
        obtain rfl : ad394 = ad395 := (by injection e395)
        replace p395 := eq_true p395
        replace q395 := eq_true q395
        go_wp2
        repeat (go_quiet (fail); try go_wp2)
        go_ret2
        exact ⟨by first | rfl | (simp; done) | (simp only [← hji13] <;> (first | rfl | simp)) | (simp [*]; done), by repeat (first | exact Drawn0.refl _ | apply Drawn0.step)⟩
       have H' := x_m H
       clear H
       have p16 : 0 ≤ ((ji13) : Int) := x_da
       have q16 : (ji13) < (a1.size : Int) := x_da
       have hx16 := bt_at a1 (ji13)
       replace p16 := eq_true p16
       replace q16 := eq_true q16
       have p394 : 0 ≤ (x11_3 : Int) := x_da
       have q394 : x11_3 < ((rd_L5 l0 x9_2).length : Int) := x_da
       obtain ⟨ad394, e394, hx394_0, hx394_1⟩ := at_T45 HR393_0.out x11_3 p394 q394
       cases e394
       replace p394 := eq_true p394
       replace q394 := eq_true q394
       have p19 : 0 ≤ ((ji13) : Int) := x_da
       have q19 : (ji13) < (a1.size : Int) := x_da
       have hx19 := bt_at a1 (ji13)
       replace p19 := eq_true p19
       replace q19 := eq_true q19
       have p395 : 0 ≤ (x11_3 : Int) := x_da
       have q395 : x11_3 < ((rd_L5 l0 x9_2).length : Int) := x_da
       obtain ⟨ad395, e395, hx395_0, hx395_1⟩ := at_T45 HR393_0.out x11_3 p395 q395
       obtain rfl : ad394 = ad395 := (by injection e395)
       replace p395 := eq_true p395
       replace q395 := eq_true q395
       go_wp2
       repeat (go_quiet (fail); try go_wp2)
       go_roundg k3
       case measure => have := HJ5.out; have := HK2.out; have := HK3.out; omega
       case rel => exact ⟨(wrap64 (x9_2 + 1)), x_eqs, H', ⟨by have := HJ5.out; have := HK2.out; have := HK3.out; omega⟩, by repeat (first | exact Drawn0.refl _ | apply Drawn0.step)⟩
def q05_wants.f (k : Nat) (a0_0 : Int) (l0_1 : List (S55)) (l0_2 : List (List (S45))) (a0_3 : ByteArray) (a0_4 : Int) : Option ((List (List (S45))) × (List (S55)) × Int × Int) := if a0_0 = 1 then ((r05_Split.f k l0_1).bind fun bt399 => (some (bt399.1, ([] : List (S55)), 0, bt399.2))) else (if a0_0 = 2 then ((r05_Join.f k l0_2).bind fun bt403 => (some (([] : List (List (S45))), bt403.1, 0, bt403.2))) else (if a0_0 = 3 then ((r05_Count.f k l0_2).bind fun bt407 => (some (([] : List (List (S45))), ([] : List (S55)), bt407.1, bt407.2))) else (if a0_0 = 4 then ((r05_Width.f k l0_2 a0_3 a0_4).bind fun bt409 => (some (([] : List (List (S45))), ([] : List (S55)), bt409.1, bt409.2))) else (some (([] : List (List (S45))), ([] : List (S55)), 0, 0)))))
theorem q05_wants.calls (k : Nat) (a0_0 : Int) (A0_1 : Option Addr) (c0_1 : Nat) (l0_1 : List (S55)) (A0_2 : Option Addr) (c0_2 : Nat) (l0_2 : List (List (S45))) (a0_3 : ByteArray) (a0_4 : Int) (r1 : List (List (S45))) (r2 : List (S55)) (r3 : Int) (r4 : Int) (w : World) (hr0_1 : Kd.C k55 w A0_1 l0_1.length l0_1) (hc0_1 : l0_1.length ≤ c0_1) (hr0_2 : Kd.C (Kd.slice 45 k45) w A0_2 l0_2.length l0_2) (hc0_2 : l0_2.length ≤ c0_2) (h : q05_wants.f k a0_0 l0_1 l0_2 a0_3 a0_4 = some (r1, r2, r3, r4)) :
  Calls Tryd.prog 6 #[.agg #[.int .i64 a0_0, .slice A0_1 l0_1.length c0_1, .slice A0_2 l0_2.length c0_2, .string a0_3, .int .i64 a0_4]] w fun e w' => ∃ v0_ v1_ : Value, e = .returned (.agg #[v0_, v1_, .int .i64 r3, .int .i64 r4]) ∧ Kd.N (Kd.slice 45 k45) 43 w' w.heap.size (fun k_ => (w.heap.size ≤ k_) ∧ some k_ ≠ (v1_ : Value).ownBlock) v0_ r1 ∧ Kd.R k55 55 w' w.heap.size (fun k_ => (w.heap.size ≤ k_)) v1_ r2 ∧ Below w.heap.size w w' := by
 have hu31 := Tryd.underlying31
 have hu28 := Tryd.underlying28
 have HR0_1 := x_m hr0_1
 have HC0_1 := x_m hc0_1
 clear hr0_1 hc0_1
 have HR0_2 := x_m hr0_2
 have HC0_2 := x_m hc0_2
 clear hr0_2 hc0_2
 have HB := x_m (Below.refl w.heap.size w)
 have H : (if a0_0 = 1 then ((r05_Split.f k l0_1).bind fun bt399 => (some (bt399.1, ([] : List (S55)), 0, bt399.2))) else (if a0_0 = 2 then ((r05_Join.f k l0_2).bind fun bt403 => (some (([] : List (List (S45))), bt403.1, 0, bt403.2))) else (if a0_0 = 3 then ((r05_Count.f k l0_2).bind fun bt407 => (some (([] : List (List (S45))), ([] : List (S55)), bt407.1, bt407.2))) else (if a0_0 = 4 then ((r05_Width.f k l0_2 a0_3 a0_4).bind fun bt409 => (some (([] : List (List (S45))), ([] : List (S55)), bt409.1, bt409.2))) else (some (([] : List (List (S45))), ([] : List (S55)), 0, 0)))))) = some (r1, r2, r3, r4) := h
 clear h
 rcases x_ie H with ⟨c2b0, c2b1, H⟩ | ⟨c2, c2b0, c2b1, H⟩
 ·replace H := x_bi H
  obtain ⟨⟨t399, t402⟩, A30, H⟩ := H
  have A3 := x_m A30
  clear A30
  simp only [Option.some.injEq, Prod.mk.injEq] at H
  obtain ⟨rfl, rfl, rfl, rfl⟩ := H
  go_enter Tryd.func6, Tryd.ntmps6
  go_wp2_with (first | ((with_reducible refine gate_dst (N := 1) rfl ?_); refine box_event ?hg (N := 1) ?hd (cs := #[.int .i64 a0_0, .slice A0_1 l0_1.length c0_1, .slice A0_2 l0_2.length c0_2, .string a0_3, .int .i64 a0_4]) (t := 31) ?hr ?_; (case hd => rfl); (case hg => rfl); (case hr => first | (go_simp; done) | (go_simp; rfl)); intro gb396 hg w4 hbox hb; have n0_ := x_m (below_step x_bel hb); have n1_ := x_m (hbox); have n2_ := x_m (x_gs hg (below_size x_bel) : w.heap.size ≤ gb396); have n3_ := x_m (x_gs hg (below_size x_bel) : w.heap.size ≤ gb396); clear HB; have HB := n0_; have BK396 := n1_; have GW396 := n2_; have GE396 := n3_; clear n0_ n1_ n2_ n3_; clear hb hbox hg) | ((with_reducible refine gate_dst (N := 2) rfl ?_); refine box_event ?hg (N := 2) ?hd (cs := #[.slice none 0 0, .slice none 0 0, .int .i64 0, .int .i64 0]) (t := 28) ?hr ?_; (case hd => rfl); (case hg => rfl); (case hr => first | (go_simp; done) | (go_simp; rfl)); intro gb397 hg w5 hbox hb; have n0_ := x_m (blk_below (g := gb396) (o := .cells #[.int .i64 a0_0, .slice A0_1 l0_1.length c0_1, .slice A0_2 l0_2.length c0_2, .string a0_3, .int .i64 a0_4] 31 (0, 0)) (x_bk BK396.out) hb); have n1_ := x_m (below_step x_bels hb); have n2_ := x_m (hbox); have n3_ := x_m (x_gs hg (below_size x_bels) : w.heap.size ≤ gb397); have n4_ := x_m (x_gs hg (below_size x_bels) : w.heap.size ≤ gb397); have n5_ := x_m ((by rw [hg]; exact Nat.ne_of_lt (blk_lt (g := gb396) (o := .cells #[.int .i64 a0_0, .slice A0_1 l0_1.length c0_1, .slice A0_2 l0_2.length c0_2, .string a0_3, .int .i64 a0_4] 31 (0, 0)) (x_bk BK396.out)) : gb396 ≠ gb397)); have n6_ := x_m ((by rw [hg]; exact Nat.ne_of_gt (blk_lt (g := gb396) (o := .cells #[.int .i64 a0_0, .slice A0_1 l0_1.length c0_1, .slice A0_2 l0_2.length c0_2, .string a0_3, .int .i64 a0_4] 31 (0, 0)) (x_bk BK396.out)) : gb397 ≠ gb396)); clear BK396; clear HB; have BK396 := n0_; have HB := n1_; have BK397 := n2_; have GW397 := n3_; have GE397 := n4_; have NB396_397 := n5_; have NB397_396 := n6_; clear n0_ n1_ n2_ n3_ n4_ n5_ n6_; clear hb hbox hg) | ((with_reducible refine gate_dst (N := 3) rfl ?_); refine box_event ?hg (N := 3) ?hd (cs := #[.slice none 0 0, .slice none 0 0, .int .i64 0, .int .i64 0]) (t := 28) ?hr ?_; (case hd => rfl); (case hg => rfl); (case hr => first | (go_simp; done) | (go_simp; rfl)); intro gb398 hg w6 hbox hb; have n0_ := x_m (blk_below (g := gb396) (o := .cells #[.int .i64 a0_0, .slice A0_1 l0_1.length c0_1, .slice A0_2 l0_2.length c0_2, .string a0_3, .int .i64 a0_4] 31 (0, 0)) (x_bk BK396.out) hb); have n1_ := x_m (blk_below (g := gb397) (o := .cells #[.slice none 0 0, .slice none 0 0, .int .i64 0, .int .i64 0] 28 (0, 0)) (x_bk BK397.out) hb); have n2_ := x_m (below_step x_bels hb); have n3_ := x_m (hbox); have n4_ := x_m (x_gs hg (below_size x_bels) : w.heap.size ≤ gb398); have n5_ := x_m (x_gs hg (below_size x_bels) : w.heap.size ≤ gb398); have n6_ := x_m ((by rw [hg]; exact Nat.ne_of_lt (blk_lt (g := gb396) (o := .cells #[.int .i64 a0_0, .slice A0_1 l0_1.length c0_1, .slice A0_2 l0_2.length c0_2, .string a0_3, .int .i64 a0_4] 31 (0, 0)) (x_bk BK396.out)) : gb396 ≠ gb398)); have n7_ := x_m ((by rw [hg]; exact Nat.ne_of_gt (blk_lt (g := gb396) (o := .cells #[.int .i64 a0_0, .slice A0_1 l0_1.length c0_1, .slice A0_2 l0_2.length c0_2, .string a0_3, .int .i64 a0_4] 31 (0, 0)) (x_bk BK396.out)) : gb398 ≠ gb396)); have n8_ := x_m ((by rw [hg]; exact Nat.ne_of_lt (blk_lt (g := gb397) (o := .cells #[.slice none 0 0, .slice none 0 0, .int .i64 0, .int .i64 0] 28 (0, 0)) (x_bk BK397.out)) : gb397 ≠ gb398)); have n9_ := x_m ((by rw [hg]; exact Nat.ne_of_gt (blk_lt (g := gb397) (o := .cells #[.slice none 0 0, .slice none 0 0, .int .i64 0, .int .i64 0] 28 (0, 0)) (x_bk BK397.out)) : gb398 ≠ gb397)); clear BK396; clear BK397; clear HB; have BK396 := n0_; have BK397 := n1_; have HB := n2_; have BK398 := n3_; have GW398 := n4_; have GE398 := n5_; have NB396_398 := n6_; have NB398_396 := n7_; have NB397_398 := n8_; have NB398_397 := n9_; clear n0_ n1_ n2_ n3_ n4_ n5_ n6_ n7_ n8_ n9_; clear hb hbox hg; have hnb7 := NB396_397.out; have hnc7 := NB397_396.out; have hnb8 := NB396_398.out; have hnc8 := NB398_396.out; have hcz9_0 := x_cz BK396.out 0 rfl; have hcz9_1 := x_cz BK396.out 1 rfl; have hcz9_2 := x_cz BK396.out 2 rfl; have hcz9_3 := x_cz BK396.out 3 rfl; have hcz9_4 := x_cz BK396.out 4 rfl; have hfz9_0 := blk_frozen BK396.out 0; have hfz9_1 := blk_frozen BK396.out 1; have hfz9_2 := blk_frozen BK396.out 2; have hfz9_3 := blk_frozen BK396.out 3; have hfz9_4 := blk_frozen BK396.out 4) | ((with_reducible refine gate_callee (f := 20) rfl ?_); refine goesL_ (some 11) rfl rfl Tryd.func20 (by kernel_rfl) rfl #[.slice A0_1 l0_1.length c0_1] rfl x_ag ?_; (with_reducible refine (r05_Split.calls k _ _ l0_1 t399 t402 _ ?side1 ?side2 A3.out).mono ?_); (case side1 => exact x_cc (Kd.C_below HR0_1.out HB.out)); (case side2 => exact HC0_1.out); rintro e w10 ⟨v400, rfl, ho0, hb⟩; refine ⟨_, rfl, ?_⟩; have n0_ := x_m (Kd.N_lower (Kd.N_mono (ok' := fun k_ => (w.heap.size ≤ k_) ∧ k_ ≠ gb396 ∧ k_ ≠ gb397 ∧ k_ ≠ gb398) ho0 (fun k_ hk_ => ⟨(Nat.le_trans (below_size x_bels) hk_), (Kd.freshB (g := gb396) (o := .cells #[.int .i64 a0_0, .slice A0_1 l0_1.length c0_1, .slice A0_2 l0_2.length c0_2, .string a0_3, .int .i64 a0_4] 31 (0, 0)) (x_bk BK396.out) k_ hk_), (Kd.freshB (g := gb397) (o := .cells #[.slice none 0 0, .slice none 0 0, .int .i64 0, .int .i64 0] 28 (0, 0)) (x_bk BK397.out) k_ hk_), (Kd.freshB (g := gb398) (o := .cells #[.slice none 0 0, .slice none 0 0, .int .i64 0, .int .i64 0] 28 (0, 0)) (x_bk BK398.out) k_ hk_)⟩)) (below_size x_bels)); have n1_ := x_m (blk_below (g := gb396) (o := .cells #[.int .i64 a0_0, .slice A0_1 l0_1.length c0_1, .slice A0_2 l0_2.length c0_2, .string a0_3, .int .i64 a0_4] 31 (0, 0)) (x_bk BK396.out) hb); have n2_ := x_m (blk_below (g := gb397) (o := .cells #[.slice none 0 0, .slice none 0 0, .int .i64 0, .int .i64 0] 28 (0, 0)) (x_bk BK397.out) hb); have n3_ := x_m (blk_below (g := gb398) (o := .cells #[.slice none 0 0, .slice none 0 0, .int .i64 0, .int .i64 0] 28 (0, 0)) (x_bk BK398.out) hb); have n4_ := x_m (below_step x_bels hb); clear BK396; clear BK397; clear BK398; clear HB; have HO401 := n0_; have BK396 := n1_; have BK397 := n2_; have BK398 := n3_; have HB := n4_; clear n0_ n1_ n2_ n3_ n4_; (try clear hb); (try clear hb2); (try clear hk); (try clear hi); (try clear ho0); obtain ⟨Ao11, co11, eo11⟩ := Kd.N_slice HO401.out; subst eo11; have hnb12 := NB398_397.out; have hnc12 := NB397_398.out; have hcz13_0 := x_cz BK398.out 0 rfl; have hcz13_1 := x_cz BK398.out 1 rfl; have hcz13_2 := x_cz BK398.out 2 rfl; have hcz13_3 := x_cz BK398.out 3 rfl; have hfz13_0 := blk_frozen BK398.out 0; have hfz13_1 := blk_frozen BK398.out 1; have hfz13_2 := blk_frozen BK398.out 2; have hfz13_3 := blk_frozen BK398.out 3; have hcz14_0 := x_cz BK397.out 0 rfl; have hcz14_1 := x_cz BK397.out 1 rfl; have hcz14_2 := x_cz BK397.out 2 rfl; have hcz14_3 := x_cz BK397.out 3 rfl; have hfz14_0 := blk_frozen BK397.out 0; have hfz14_1 := blk_frozen BK397.out 1; have hfz14_2 := blk_frozen BK397.out 2; have hfz14_3 := blk_frozen BK397.out 3))
  refine bodyPost_ret (results_cell_row rfl _ _ gb397 28 #[.slice Ao11 t399.length co11, .slice none 0 0, .int .i64 0, .int .i64 t402] (0, 0) _ rfl (by (with_reducible repeat (first | refine blk_drewN ?_ _ | refine blk_drew ?_ | refine blk_alloc ?_ _)); refine blk_put (cs := #[.slice Ao11 t399.length co11, .slice none 0 0, .int .i64 0, .int .i64 0]) ?_ 3 _ rfl; (with_reducible repeat (first | refine blk_drewN ?_ _ | refine blk_drew ?_ | refine blk_alloc ?_ _)); refine blk_put (cs := #[.slice Ao11 t399.length co11, .slice none 0 0, .int .i64 0, .int .i64 0]) ?_ 2 _ rfl; (with_reducible repeat (first | refine blk_drewN ?_ _ | refine blk_drew ?_ | refine blk_alloc ?_ _)); refine blk_put (cs := #[.slice Ao11 t399.length co11, .slice none 0 0, .int .i64 0, .int .i64 0]) ?_ 1 _ rfl; (with_reducible repeat (first | refine blk_drewN ?_ _ | refine blk_drew ?_ | refine blk_alloc ?_ _)); refine blk_put (cs := #[.slice none 0 0, .slice none 0 0, .int .i64 0, .int .i64 0]) ?_ 0 _ rfl; (with_reducible repeat (first | refine blk_drewN ?_ _ | refine blk_drew ?_ | refine blk_alloc ?_ _)); refine blk_far ?_ NB397_398.out _; (with_reducible repeat (first | refine blk_drewN ?_ _ | refine blk_drew ?_ | refine blk_alloc ?_ _)); refine blk_far ?_ NB397_398.out _; (with_reducible repeat (first | refine blk_drewN ?_ _ | refine blk_drew ?_ | refine blk_alloc ?_ _)); exact BK397.out) Tryd.underlying28 rfl (by kernel_rfl)) rfl ?_
  exact ⟨_, _, by first | rfl | (simp [errW_none, errW_some] <;> rfl) | (simp [*, errW_none, errW_some] <;> rfl), by (with_reducible repeat (first | apply Kd.N_alloc | apply Kd.N_drewN | apply Kd.N_drew)); exact Kd.N_mono (Kd.N_far (p := ⟨gb397, 3, none⟩) (Kd.N_far (p := ⟨gb397, 2, none⟩) (Kd.N_far (p := ⟨gb397, 1, none⟩) (Kd.N_far (p := ⟨gb397, 0, none⟩) (Kd.N_far (p := ⟨gb398, 3, none⟩) (Kd.N_far (p := ⟨gb398, 0, none⟩) (Kd.N_mono (Kd.N_mono HO401.out (fun k_ hk => (⟨hk, hk.2.2.2⟩ : _ ∧ k_ ≠ gb398))) (fun k_ hk => (⟨hk, hk.1.2.2.1⟩ : _ ∧ k_ ≠ gb397))) (fun _ hk => hk.1.2) (.slice Ao11 t399.length co11)) (fun _ hk => hk.1.2) (.int .i64 t402)) (fun _ hk => hk.2) (.slice Ao11 t399.length co11)) (fun _ hk => hk.2) (.slice none 0 0)) (fun _ hk => hk.2) (.int .i64 0)) (fun _ hk => hk.2) (.int .i64 t402)) (fun _ hk => ⟨hk.1.1.1, (by simp [Value.ownBlock])⟩), by first | exact Kd.R_nil _ _ _ _ _ | exact Kd.N_nil _ _ _ _ _ | exact Kd.V_nil _ _ _ _ _ | exact Kd.Q_nil _ _ _ _ _ | exact Kd.S_nil _ _ _ _ _, by repeat (first | (with_reducible first | exact HB.out | apply below_alloc | apply pw_below_drewN | apply below_drew1 | refine below_set ?_ GE396.out | refine below_set ?_ GE397.out | refine below_set ?_ GE398.out) | exact HB.out)⟩
 rcases x_ie H with ⟨c15b0, c15b1, H⟩ | ⟨c15, c15b0, c15b1, H⟩
 ·replace H := x_bi H
  obtain ⟨⟨t403, t404⟩, A160, H⟩ := H
  have A16 := x_m A160
  clear A160
  simp only [Option.some.injEq, Prod.mk.injEq] at H
  obtain ⟨rfl, rfl, rfl, rfl⟩ := H
  go_enter Tryd.func6, Tryd.ntmps6
  go_wp2_with (first | ((with_reducible refine gate_dst (N := 1) rfl ?_); refine box_event ?hg (N := 1) ?hd (cs := #[.int .i64 a0_0, .slice A0_1 l0_1.length c0_1, .slice A0_2 l0_2.length c0_2, .string a0_3, .int .i64 a0_4]) (t := 31) ?hr ?_; (case hd => rfl); (case hg => rfl); (case hr => first | (go_simp; done) | (go_simp; rfl)); intro gb396 hg w17 hbox hb; have n0_ := x_m (below_step x_bel hb); have n1_ := x_m (hbox); have n2_ := x_m (x_gs hg (below_size x_bel) : w.heap.size ≤ gb396); have n3_ := x_m (x_gs hg (below_size x_bel) : w.heap.size ≤ gb396); clear HB; have HB := n0_; have BK396 := n1_; have GW396 := n2_; have GE396 := n3_; clear n0_ n1_ n2_ n3_; clear hb hbox hg) | ((with_reducible refine gate_dst (N := 2) rfl ?_); refine box_event ?hg (N := 2) ?hd (cs := #[.slice none 0 0, .slice none 0 0, .int .i64 0, .int .i64 0]) (t := 28) ?hr ?_; (case hd => rfl); (case hg => rfl); (case hr => first | (go_simp; done) | (go_simp; rfl)); intro gb397 hg w18 hbox hb; have n0_ := x_m (blk_below (g := gb396) (o := .cells #[.int .i64 a0_0, .slice A0_1 l0_1.length c0_1, .slice A0_2 l0_2.length c0_2, .string a0_3, .int .i64 a0_4] 31 (0, 0)) (x_bk BK396.out) hb); have n1_ := x_m (below_step x_bels hb); have n2_ := x_m (hbox); have n3_ := x_m (x_gs hg (below_size x_bels) : w.heap.size ≤ gb397); have n4_ := x_m (x_gs hg (below_size x_bels) : w.heap.size ≤ gb397); have n5_ := x_m ((by rw [hg]; exact Nat.ne_of_lt (blk_lt (g := gb396) (o := .cells #[.int .i64 a0_0, .slice A0_1 l0_1.length c0_1, .slice A0_2 l0_2.length c0_2, .string a0_3, .int .i64 a0_4] 31 (0, 0)) (x_bk BK396.out)) : gb396 ≠ gb397)); have n6_ := x_m ((by rw [hg]; exact Nat.ne_of_gt (blk_lt (g := gb396) (o := .cells #[.int .i64 a0_0, .slice A0_1 l0_1.length c0_1, .slice A0_2 l0_2.length c0_2, .string a0_3, .int .i64 a0_4] 31 (0, 0)) (x_bk BK396.out)) : gb397 ≠ gb396)); clear BK396; clear HB; have BK396 := n0_; have HB := n1_; have BK397 := n2_; have GW397 := n3_; have GE397 := n4_; have NB396_397 := n5_; have NB397_396 := n6_; clear n0_ n1_ n2_ n3_ n4_ n5_ n6_; clear hb hbox hg) | ((with_reducible refine gate_dst (N := 3) rfl ?_); refine box_event ?hg (N := 3) ?hd (cs := #[.slice none 0 0, .slice none 0 0, .int .i64 0, .int .i64 0]) (t := 28) ?hr ?_; (case hd => rfl); (case hg => rfl); (case hr => first | (go_simp; done) | (go_simp; rfl)); intro gb398 hg w19 hbox hb; have n0_ := x_m (blk_below (g := gb396) (o := .cells #[.int .i64 a0_0, .slice A0_1 l0_1.length c0_1, .slice A0_2 l0_2.length c0_2, .string a0_3, .int .i64 a0_4] 31 (0, 0)) (x_bk BK396.out) hb); have n1_ := x_m (blk_below (g := gb397) (o := .cells #[.slice none 0 0, .slice none 0 0, .int .i64 0, .int .i64 0] 28 (0, 0)) (x_bk BK397.out) hb); have n2_ := x_m (below_step x_bels hb); have n3_ := x_m (hbox); have n4_ := x_m (x_gs hg (below_size x_bels) : w.heap.size ≤ gb398); have n5_ := x_m (x_gs hg (below_size x_bels) : w.heap.size ≤ gb398); have n6_ := x_m ((by rw [hg]; exact Nat.ne_of_lt (blk_lt (g := gb396) (o := .cells #[.int .i64 a0_0, .slice A0_1 l0_1.length c0_1, .slice A0_2 l0_2.length c0_2, .string a0_3, .int .i64 a0_4] 31 (0, 0)) (x_bk BK396.out)) : gb396 ≠ gb398)); have n7_ := x_m ((by rw [hg]; exact Nat.ne_of_gt (blk_lt (g := gb396) (o := .cells #[.int .i64 a0_0, .slice A0_1 l0_1.length c0_1, .slice A0_2 l0_2.length c0_2, .string a0_3, .int .i64 a0_4] 31 (0, 0)) (x_bk BK396.out)) : gb398 ≠ gb396)); have n8_ := x_m ((by rw [hg]; exact Nat.ne_of_lt (blk_lt (g := gb397) (o := .cells #[.slice none 0 0, .slice none 0 0, .int .i64 0, .int .i64 0] 28 (0, 0)) (x_bk BK397.out)) : gb397 ≠ gb398)); have n9_ := x_m ((by rw [hg]; exact Nat.ne_of_gt (blk_lt (g := gb397) (o := .cells #[.slice none 0 0, .slice none 0 0, .int .i64 0, .int .i64 0] 28 (0, 0)) (x_bk BK397.out)) : gb398 ≠ gb397)); clear BK396; clear BK397; clear HB; have BK396 := n0_; have BK397 := n1_; have HB := n2_; have BK398 := n3_; have GW398 := n4_; have GE398 := n5_; have NB396_398 := n6_; have NB398_396 := n7_; have NB397_398 := n8_; have NB398_397 := n9_; clear n0_ n1_ n2_ n3_ n4_ n5_ n6_ n7_ n8_ n9_; clear hb hbox hg; have hnb20 := NB396_397.out; have hnc20 := NB397_396.out; have hnb21 := NB396_398.out; have hnc21 := NB398_396.out; have hcz22_0 := x_cz BK396.out 0 rfl; have hcz22_1 := x_cz BK396.out 1 rfl; have hcz22_2 := x_cz BK396.out 2 rfl; have hcz22_3 := x_cz BK396.out 3 rfl; have hcz22_4 := x_cz BK396.out 4 rfl; have hfz22_0 := blk_frozen BK396.out 0; have hfz22_1 := blk_frozen BK396.out 1; have hfz22_2 := blk_frozen BK396.out 2; have hfz22_3 := blk_frozen BK396.out 3; have hfz22_4 := blk_frozen BK396.out 4) | ((with_reducible refine gate_callee (f := 21) rfl ?_); refine goesL_ (some 21) rfl rfl Tryd.func21 (by kernel_rfl) rfl #[.slice A0_2 l0_2.length c0_2] rfl x_ag ?_; (with_reducible refine (r05_Join.calls k _ _ l0_2 t403 t404 _ ?side1 ?side2 A16.out).mono ?_); (case side1 => exact x_cc (Kd.C_below HR0_2.out HB.out)); (case side2 => exact HC0_2.out); rintro e w23 ⟨v405, rfl, ho0, hb⟩; refine ⟨_, rfl, ?_⟩; have n0_ := x_m (Kd.R_lower (Kd.R_newM (M := fun k_ => (w.heap.size ≤ k_)) ho0 (below_size x_bels) (fun k_ h_ => h_)) (below_size x_bels)); have n1_ := x_m (blk_below (g := gb396) (o := .cells #[.int .i64 a0_0, .slice A0_1 l0_1.length c0_1, .slice A0_2 l0_2.length c0_2, .string a0_3, .int .i64 a0_4] 31 (0, 0)) (x_bk BK396.out) hb); have n2_ := x_m (blk_below (g := gb397) (o := .cells #[.slice none 0 0, .slice none 0 0, .int .i64 0, .int .i64 0] 28 (0, 0)) (x_bk BK397.out) hb); have n3_ := x_m (blk_below (g := gb398) (o := .cells #[.slice none 0 0, .slice none 0 0, .int .i64 0, .int .i64 0] 28 (0, 0)) (x_bk BK398.out) hb); have n4_ := x_m (below_step x_bels hb); clear BK396; clear BK397; clear BK398; clear HB; have HO406 := n0_; have BK396 := n1_; have BK397 := n2_; have BK398 := n3_; have HB := n4_; clear n0_ n1_ n2_ n3_ n4_; (try clear hb); (try clear hb2); (try clear hk); (try clear hi); (try clear ho0); obtain ⟨Ao24, co24, eo24⟩ := Kd.R_slice HO406.out; subst eo24; have hnb25 := NB398_397.out; have hnc25 := NB397_398.out; have hcz26_0 := x_cz BK398.out 0 rfl; have hcz26_1 := x_cz BK398.out 1 rfl; have hcz26_2 := x_cz BK398.out 2 rfl; have hcz26_3 := x_cz BK398.out 3 rfl; have hfz26_0 := blk_frozen BK398.out 0; have hfz26_1 := blk_frozen BK398.out 1; have hfz26_2 := blk_frozen BK398.out 2; have hfz26_3 := blk_frozen BK398.out 3; have hcz27_0 := x_cz BK397.out 0 rfl; have hcz27_1 := x_cz BK397.out 1 rfl; have hcz27_2 := x_cz BK397.out 2 rfl; have hcz27_3 := x_cz BK397.out 3 rfl; have hfz27_0 := blk_frozen BK397.out 0; have hfz27_1 := blk_frozen BK397.out 1; have hfz27_2 := blk_frozen BK397.out 2; have hfz27_3 := blk_frozen BK397.out 3))
  refine bodyPost_ret (results_cell_row rfl _ _ gb397 28 #[.slice none 0 0, .slice Ao24 t403.length co24, .int .i64 0, .int .i64 t404] (0, 0) _ rfl (by (with_reducible repeat (first | refine blk_drewN ?_ _ | refine blk_drew ?_ | refine blk_alloc ?_ _)); refine blk_put (cs := #[.slice none 0 0, .slice Ao24 t403.length co24, .int .i64 0, .int .i64 0]) ?_ 3 _ rfl; (with_reducible repeat (first | refine blk_drewN ?_ _ | refine blk_drew ?_ | refine blk_alloc ?_ _)); refine blk_put (cs := #[.slice none 0 0, .slice Ao24 t403.length co24, .int .i64 0, .int .i64 0]) ?_ 2 _ rfl; (with_reducible repeat (first | refine blk_drewN ?_ _ | refine blk_drew ?_ | refine blk_alloc ?_ _)); refine blk_put (cs := #[.slice none 0 0, .slice none 0 0, .int .i64 0, .int .i64 0]) ?_ 1 _ rfl; (with_reducible repeat (first | refine blk_drewN ?_ _ | refine blk_drew ?_ | refine blk_alloc ?_ _)); refine blk_put (cs := #[.slice none 0 0, .slice none 0 0, .int .i64 0, .int .i64 0]) ?_ 0 _ rfl; (with_reducible repeat (first | refine blk_drewN ?_ _ | refine blk_drew ?_ | refine blk_alloc ?_ _)); refine blk_far ?_ NB397_398.out _; (with_reducible repeat (first | refine blk_drewN ?_ _ | refine blk_drew ?_ | refine blk_alloc ?_ _)); refine blk_far ?_ NB397_398.out _; (with_reducible repeat (first | refine blk_drewN ?_ _ | refine blk_drew ?_ | refine blk_alloc ?_ _)); exact BK397.out) Tryd.underlying28 rfl (by kernel_rfl)) rfl ?_
  exact ⟨_, _, by first | rfl | (simp [errW_none, errW_some] <;> rfl) | (simp [*, errW_none, errW_some] <;> rfl), by first | exact Kd.S_nil _ _ _ _ _ | exact Kd.N_nil _ _ _ _ _ | exact Kd.V_nil _ _ _ _ _ | exact Kd.Q_nil _ _ _ _ _ | exact Kd.R_nil _ _ _ _ _, by (with_reducible repeat (first | apply Kd.R_alloc | apply Kd.R_drewN | apply Kd.R_drew)); exact Kd.R_mono (Kd.R_far (p := ⟨gb397, 3, none⟩) (Kd.R_far (p := ⟨gb397, 2, none⟩) (Kd.R_far (p := ⟨gb397, 1, none⟩) (Kd.R_far (p := ⟨gb397, 0, none⟩) (Kd.R_far (p := ⟨gb398, 3, none⟩) (Kd.R_far (p := ⟨gb398, 1, none⟩) (Kd.R_types (Kd.R_types HO406.out BK398.out (by decide)) BK397.out (by decide)) (fun _ hk => hk.1.2) (.slice Ao24 t403.length co24)) (fun _ hk => hk.1.2) (.int .i64 t404)) (fun _ hk => hk.2) (.slice none 0 0)) (fun _ hk => hk.2) (.slice Ao24 t403.length co24)) (fun _ hk => hk.2) (.int .i64 0)) (fun _ hk => hk.2) (.int .i64 t404)) (fun _ hk => hk.1.1.1), by repeat (first | (with_reducible first | exact HB.out | apply below_alloc | apply pw_below_drewN | apply below_drew1 | refine below_set ?_ GE396.out | refine below_set ?_ GE397.out | refine below_set ?_ GE398.out) | exact HB.out)⟩
 rcases x_ie H with ⟨c28b0, c28b1, H⟩ | ⟨c28, c28b0, c28b1, H⟩
 ·replace H := x_bi H
  obtain ⟨⟨t407, t408⟩, A290, H⟩ := H
  have A29 := x_m A290
  clear A290
  simp only [Option.some.injEq, Prod.mk.injEq] at H
  obtain ⟨rfl, rfl, rfl, rfl⟩ := H
  go_enter Tryd.func6, Tryd.ntmps6
  go_wp2_with (first | ((with_reducible refine gate_dst (N := 1) rfl ?_); refine box_event ?hg (N := 1) ?hd (cs := #[.int .i64 a0_0, .slice A0_1 l0_1.length c0_1, .slice A0_2 l0_2.length c0_2, .string a0_3, .int .i64 a0_4]) (t := 31) ?hr ?_; (case hd => rfl); (case hg => rfl); (case hr => first | (go_simp; done) | (go_simp; rfl)); intro gb396 hg w30 hbox hb; have n0_ := x_m (below_step x_bel hb); have n1_ := x_m (hbox); have n2_ := x_m (x_gs hg (below_size x_bel) : w.heap.size ≤ gb396); have n3_ := x_m (x_gs hg (below_size x_bel) : w.heap.size ≤ gb396); clear HB; have HB := n0_; have BK396 := n1_; have GW396 := n2_; have GE396 := n3_; clear n0_ n1_ n2_ n3_; clear hb hbox hg) | ((with_reducible refine gate_dst (N := 2) rfl ?_); refine box_event ?hg (N := 2) ?hd (cs := #[.slice none 0 0, .slice none 0 0, .int .i64 0, .int .i64 0]) (t := 28) ?hr ?_; (case hd => rfl); (case hg => rfl); (case hr => first | (go_simp; done) | (go_simp; rfl)); intro gb397 hg w31 hbox hb; have n0_ := x_m (blk_below (g := gb396) (o := .cells #[.int .i64 a0_0, .slice A0_1 l0_1.length c0_1, .slice A0_2 l0_2.length c0_2, .string a0_3, .int .i64 a0_4] 31 (0, 0)) (x_bk BK396.out) hb); have n1_ := x_m (below_step x_bels hb); have n2_ := x_m (hbox); have n3_ := x_m (x_gs hg (below_size x_bels) : w.heap.size ≤ gb397); have n4_ := x_m (x_gs hg (below_size x_bels) : w.heap.size ≤ gb397); have n5_ := x_m ((by rw [hg]; exact Nat.ne_of_lt (blk_lt (g := gb396) (o := .cells #[.int .i64 a0_0, .slice A0_1 l0_1.length c0_1, .slice A0_2 l0_2.length c0_2, .string a0_3, .int .i64 a0_4] 31 (0, 0)) (x_bk BK396.out)) : gb396 ≠ gb397)); have n6_ := x_m ((by rw [hg]; exact Nat.ne_of_gt (blk_lt (g := gb396) (o := .cells #[.int .i64 a0_0, .slice A0_1 l0_1.length c0_1, .slice A0_2 l0_2.length c0_2, .string a0_3, .int .i64 a0_4] 31 (0, 0)) (x_bk BK396.out)) : gb397 ≠ gb396)); clear BK396; clear HB; have BK396 := n0_; have HB := n1_; have BK397 := n2_; have GW397 := n3_; have GE397 := n4_; have NB396_397 := n5_; have NB397_396 := n6_; clear n0_ n1_ n2_ n3_ n4_ n5_ n6_; clear hb hbox hg) | ((with_reducible refine gate_dst (N := 3) rfl ?_); refine box_event ?hg (N := 3) ?hd (cs := #[.slice none 0 0, .slice none 0 0, .int .i64 0, .int .i64 0]) (t := 28) ?hr ?_; (case hd => rfl); (case hg => rfl); (case hr => first | (go_simp; done) | (go_simp; rfl)); intro gb398 hg w32 hbox hb; have n0_ := x_m (blk_below (g := gb396) (o := .cells #[.int .i64 a0_0, .slice A0_1 l0_1.length c0_1, .slice A0_2 l0_2.length c0_2, .string a0_3, .int .i64 a0_4] 31 (0, 0)) (x_bk BK396.out) hb); have n1_ := x_m (blk_below (g := gb397) (o := .cells #[.slice none 0 0, .slice none 0 0, .int .i64 0, .int .i64 0] 28 (0, 0)) (x_bk BK397.out) hb); have n2_ := x_m (below_step x_bels hb); have n3_ := x_m (hbox); have n4_ := x_m (x_gs hg (below_size x_bels) : w.heap.size ≤ gb398); have n5_ := x_m (x_gs hg (below_size x_bels) : w.heap.size ≤ gb398); have n6_ := x_m ((by rw [hg]; exact Nat.ne_of_lt (blk_lt (g := gb396) (o := .cells #[.int .i64 a0_0, .slice A0_1 l0_1.length c0_1, .slice A0_2 l0_2.length c0_2, .string a0_3, .int .i64 a0_4] 31 (0, 0)) (x_bk BK396.out)) : gb396 ≠ gb398)); have n7_ := x_m ((by rw [hg]; exact Nat.ne_of_gt (blk_lt (g := gb396) (o := .cells #[.int .i64 a0_0, .slice A0_1 l0_1.length c0_1, .slice A0_2 l0_2.length c0_2, .string a0_3, .int .i64 a0_4] 31 (0, 0)) (x_bk BK396.out)) : gb398 ≠ gb396)); have n8_ := x_m ((by rw [hg]; exact Nat.ne_of_lt (blk_lt (g := gb397) (o := .cells #[.slice none 0 0, .slice none 0 0, .int .i64 0, .int .i64 0] 28 (0, 0)) (x_bk BK397.out)) : gb397 ≠ gb398)); have n9_ := x_m ((by rw [hg]; exact Nat.ne_of_gt (blk_lt (g := gb397) (o := .cells #[.slice none 0 0, .slice none 0 0, .int .i64 0, .int .i64 0] 28 (0, 0)) (x_bk BK397.out)) : gb398 ≠ gb397)); clear BK396; clear BK397; clear HB; have BK396 := n0_; have BK397 := n1_; have HB := n2_; have BK398 := n3_; have GW398 := n4_; have GE398 := n5_; have NB396_398 := n6_; have NB398_396 := n7_; have NB397_398 := n8_; have NB398_397 := n9_; clear n0_ n1_ n2_ n3_ n4_ n5_ n6_ n7_ n8_ n9_; clear hb hbox hg; have hnb33 := NB396_397.out; have hnc33 := NB397_396.out; have hnb34 := NB396_398.out; have hnc34 := NB398_396.out; have hcz35_0 := x_cz BK396.out 0 rfl; have hcz35_1 := x_cz BK396.out 1 rfl; have hcz35_2 := x_cz BK396.out 2 rfl; have hcz35_3 := x_cz BK396.out 3 rfl; have hcz35_4 := x_cz BK396.out 4 rfl; have hfz35_0 := blk_frozen BK396.out 0; have hfz35_1 := blk_frozen BK396.out 1; have hfz35_2 := blk_frozen BK396.out 2; have hfz35_3 := blk_frozen BK396.out 3; have hfz35_4 := blk_frozen BK396.out 4) | ((with_reducible refine gate_callee (f := 22) rfl ?_); refine goesL_ (some 31) rfl rfl Tryd.func22 (by kernel_rfl) rfl #[.slice A0_2 l0_2.length c0_2] rfl x_ag ?_; (with_reducible refine (r05_Count.calls k _ _ l0_2 t407 t408 _ ?side1 ?side2 A29.out).mono ?_); (case side1 => exact x_cc (Kd.C_below HR0_2.out HB.out)); (case side2 => exact HC0_2.out); rintro e w' ⟨rfl, ⟨nd, rfl⟩⟩; refine ⟨_, rfl, ?_⟩; (try (rw [drewN_self w32]; generalize hq_ : World.drewN w32 _ = w32; have n0_ : Aside0 (w32.heap[gb396]? = some (.cells #[.int .i64 a0_0, .slice A0_1 l0_1.length c0_1, .slice A0_2 l0_2.length c0_2, .string a0_3, .int .i64 a0_4] 31 (0, 0))) := ⟨by rw [← hq_]; exact (x_bk BK396.out)⟩; have n1_ : Aside0 (w32.heap[gb397]? = some (.cells #[.slice none 0 0, .slice none 0 0, .int .i64 0, .int .i64 0] 28 (0, 0))) := ⟨by rw [← hq_]; exact (x_bk BK397.out)⟩; have n2_ : Aside0 (w32.heap[gb398]? = some (.cells #[.slice none 0 0, .slice none 0 0, .int .i64 0, .int .i64 0] 28 (0, 0))) := ⟨by rw [← hq_]; exact (x_bk BK398.out)⟩; have n3_ : Aside0 (Below w.heap.size w w32) := ⟨by rw [← hq_]; exact x_bels⟩; clear BK396 BK397 BK398 HB hq_; have BK396 := n0_; have BK397 := n1_; have BK398 := n2_; have HB := n3_; clear n0_ n1_ n2_ n3_)); have hnb36 := NB398_397.out; have hnc36 := NB397_398.out; have hcz37_0 := x_cz BK398.out 0 rfl; have hcz37_1 := x_cz BK398.out 1 rfl; have hcz37_2 := x_cz BK398.out 2 rfl; have hcz37_3 := x_cz BK398.out 3 rfl; have hfz37_0 := blk_frozen BK398.out 0; have hfz37_1 := blk_frozen BK398.out 1; have hfz37_2 := blk_frozen BK398.out 2; have hfz37_3 := blk_frozen BK398.out 3; have hcz38_0 := x_cz BK397.out 0 rfl; have hcz38_1 := x_cz BK397.out 1 rfl; have hcz38_2 := x_cz BK397.out 2 rfl; have hcz38_3 := x_cz BK397.out 3 rfl; have hfz38_0 := blk_frozen BK397.out 0; have hfz38_1 := blk_frozen BK397.out 1; have hfz38_2 := blk_frozen BK397.out 2; have hfz38_3 := blk_frozen BK397.out 3))
  refine bodyPost_ret (results_cell_row rfl _ _ gb397 28 #[.slice none 0 0, .slice none 0 0, .int .i64 t407, .int .i64 t408] (0, 0) _ rfl (by (with_reducible repeat (first | refine blk_drewN ?_ _ | refine blk_drew ?_ | refine blk_alloc ?_ _)); refine blk_put (cs := #[.slice none 0 0, .slice none 0 0, .int .i64 t407, .int .i64 0]) ?_ 3 _ rfl; (with_reducible repeat (first | refine blk_drewN ?_ _ | refine blk_drew ?_ | refine blk_alloc ?_ _)); refine blk_put (cs := #[.slice none 0 0, .slice none 0 0, .int .i64 0, .int .i64 0]) ?_ 2 _ rfl; (with_reducible repeat (first | refine blk_drewN ?_ _ | refine blk_drew ?_ | refine blk_alloc ?_ _)); refine blk_put (cs := #[.slice none 0 0, .slice none 0 0, .int .i64 0, .int .i64 0]) ?_ 1 _ rfl; (with_reducible repeat (first | refine blk_drewN ?_ _ | refine blk_drew ?_ | refine blk_alloc ?_ _)); refine blk_put (cs := #[.slice none 0 0, .slice none 0 0, .int .i64 0, .int .i64 0]) ?_ 0 _ rfl; (with_reducible repeat (first | refine blk_drewN ?_ _ | refine blk_drew ?_ | refine blk_alloc ?_ _)); refine blk_far ?_ NB397_398.out _; (with_reducible repeat (first | refine blk_drewN ?_ _ | refine blk_drew ?_ | refine blk_alloc ?_ _)); refine blk_far ?_ NB397_398.out _; (with_reducible repeat (first | refine blk_drewN ?_ _ | refine blk_drew ?_ | refine blk_alloc ?_ _)); exact BK397.out) Tryd.underlying28 rfl (by kernel_rfl)) rfl ?_
  exact ⟨_, _, by first | rfl | (simp [errW_none, errW_some] <;> rfl) | (simp [*, errW_none, errW_some] <;> rfl), by first | exact Kd.S_nil _ _ _ _ _ | exact Kd.N_nil _ _ _ _ _ | exact Kd.V_nil _ _ _ _ _ | exact Kd.Q_nil _ _ _ _ _ | exact Kd.R_nil _ _ _ _ _, by first | exact Kd.R_nil _ _ _ _ _ | exact Kd.N_nil _ _ _ _ _ | exact Kd.V_nil _ _ _ _ _ | exact Kd.Q_nil _ _ _ _ _ | exact Kd.S_nil _ _ _ _ _, by repeat (first | (with_reducible first | exact HB.out | apply below_alloc | apply pw_below_drewN | apply below_drew1 | refine below_set ?_ GE396.out | refine below_set ?_ GE397.out | refine below_set ?_ GE398.out) | exact HB.out)⟩
 rcases x_ei H with ⟨c39, c39b0, c39b1, H⟩ | ⟨c39b0, c39b1, H⟩
 ·simp only [Option.some.injEq, Prod.mk.injEq] at H
  obtain ⟨rfl, rfl, rfl, rfl⟩ := H
  go_enter Tryd.func6, Tryd.ntmps6
  go_wp2_with (first | ((with_reducible refine gate_dst (N := 1) rfl ?_); refine box_event ?hg (N := 1) ?hd (cs := #[.int .i64 a0_0, .slice A0_1 l0_1.length c0_1, .slice A0_2 l0_2.length c0_2, .string a0_3, .int .i64 a0_4]) (t := 31) ?hr ?_; (case hd => rfl); (case hg => rfl); (case hr => first | (go_simp; done) | (go_simp; rfl)); intro gb396 hg w50 hbox hb; have n0_ := x_m (below_step x_bel hb); have n1_ := x_m (hbox); have n2_ := x_m (x_gs hg (below_size x_bel) : w.heap.size ≤ gb396); have n3_ := x_m (x_gs hg (below_size x_bel) : w.heap.size ≤ gb396); clear HB; have HB := n0_; have BK396 := n1_; have GW396 := n2_; have GE396 := n3_; clear n0_ n1_ n2_ n3_; clear hb hbox hg) | ((with_reducible refine gate_dst (N := 2) rfl ?_); refine box_event ?hg (N := 2) ?hd (cs := #[.slice none 0 0, .slice none 0 0, .int .i64 0, .int .i64 0]) (t := 28) ?hr ?_; (case hd => rfl); (case hg => rfl); (case hr => first | (go_simp; done) | (go_simp; rfl)); intro gb397 hg w51 hbox hb; have n0_ := x_m (blk_below (g := gb396) (o := .cells #[.int .i64 a0_0, .slice A0_1 l0_1.length c0_1, .slice A0_2 l0_2.length c0_2, .string a0_3, .int .i64 a0_4] 31 (0, 0)) (x_bk BK396.out) hb); have n1_ := x_m (below_step x_bels hb); have n2_ := x_m (hbox); have n3_ := x_m (x_gs hg (below_size x_bels) : w.heap.size ≤ gb397); have n4_ := x_m (x_gs hg (below_size x_bels) : w.heap.size ≤ gb397); have n5_ := x_m ((by rw [hg]; exact Nat.ne_of_lt (blk_lt (g := gb396) (o := .cells #[.int .i64 a0_0, .slice A0_1 l0_1.length c0_1, .slice A0_2 l0_2.length c0_2, .string a0_3, .int .i64 a0_4] 31 (0, 0)) (x_bk BK396.out)) : gb396 ≠ gb397)); have n6_ := x_m ((by rw [hg]; exact Nat.ne_of_gt (blk_lt (g := gb396) (o := .cells #[.int .i64 a0_0, .slice A0_1 l0_1.length c0_1, .slice A0_2 l0_2.length c0_2, .string a0_3, .int .i64 a0_4] 31 (0, 0)) (x_bk BK396.out)) : gb397 ≠ gb396)); clear BK396; clear HB; have BK396 := n0_; have HB := n1_; have BK397 := n2_; have GW397 := n3_; have GE397 := n4_; have NB396_397 := n5_; have NB397_396 := n6_; clear n0_ n1_ n2_ n3_ n4_ n5_ n6_; clear hb hbox hg) | ((with_reducible refine gate_dst (N := 3) rfl ?_); refine box_event ?hg (N := 3) ?hd (cs := #[.slice none 0 0, .slice none 0 0, .int .i64 0, .int .i64 0]) (t := 28) ?hr ?_; (case hd => rfl); (case hg => rfl); (case hr => first | (go_simp; done) | (go_simp; rfl)); intro gb398 hg w52 hbox hb; have n0_ := x_m (blk_below (g := gb396) (o := .cells #[.int .i64 a0_0, .slice A0_1 l0_1.length c0_1, .slice A0_2 l0_2.length c0_2, .string a0_3, .int .i64 a0_4] 31 (0, 0)) (x_bk BK396.out) hb); have n1_ := x_m (blk_below (g := gb397) (o := .cells #[.slice none 0 0, .slice none 0 0, .int .i64 0, .int .i64 0] 28 (0, 0)) (x_bk BK397.out) hb); have n2_ := x_m (below_step x_bels hb); have n3_ := x_m (hbox); have n4_ := x_m (x_gs hg (below_size x_bels) : w.heap.size ≤ gb398); have n5_ := x_m (x_gs hg (below_size x_bels) : w.heap.size ≤ gb398); have n6_ := x_m ((by rw [hg]; exact Nat.ne_of_lt (blk_lt (g := gb396) (o := .cells #[.int .i64 a0_0, .slice A0_1 l0_1.length c0_1, .slice A0_2 l0_2.length c0_2, .string a0_3, .int .i64 a0_4] 31 (0, 0)) (x_bk BK396.out)) : gb396 ≠ gb398)); have n7_ := x_m ((by rw [hg]; exact Nat.ne_of_gt (blk_lt (g := gb396) (o := .cells #[.int .i64 a0_0, .slice A0_1 l0_1.length c0_1, .slice A0_2 l0_2.length c0_2, .string a0_3, .int .i64 a0_4] 31 (0, 0)) (x_bk BK396.out)) : gb398 ≠ gb396)); have n8_ := x_m ((by rw [hg]; exact Nat.ne_of_lt (blk_lt (g := gb397) (o := .cells #[.slice none 0 0, .slice none 0 0, .int .i64 0, .int .i64 0] 28 (0, 0)) (x_bk BK397.out)) : gb397 ≠ gb398)); have n9_ := x_m ((by rw [hg]; exact Nat.ne_of_gt (blk_lt (g := gb397) (o := .cells #[.slice none 0 0, .slice none 0 0, .int .i64 0, .int .i64 0] 28 (0, 0)) (x_bk BK397.out)) : gb398 ≠ gb397)); clear BK396; clear BK397; clear HB; have BK396 := n0_; have BK397 := n1_; have HB := n2_; have BK398 := n3_; have GW398 := n4_; have GE398 := n5_; have NB396_398 := n6_; have NB398_396 := n7_; have NB397_398 := n8_; have NB398_397 := n9_; clear n0_ n1_ n2_ n3_ n4_ n5_ n6_ n7_ n8_ n9_; clear hb hbox hg; have hnb53 := NB396_397.out; have hnc53 := NB397_396.out; have hnb54 := NB396_398.out; have hnc54 := NB398_396.out; have hcz55_0 := x_cz BK396.out 0 rfl; have hcz55_1 := x_cz BK396.out 1 rfl; have hcz55_2 := x_cz BK396.out 2 rfl; have hcz55_3 := x_cz BK396.out 3 rfl; have hcz55_4 := x_cz BK396.out 4 rfl; have hfz55_0 := blk_frozen BK396.out 0; have hfz55_1 := blk_frozen BK396.out 1; have hfz55_2 := blk_frozen BK396.out 2; have hfz55_3 := blk_frozen BK396.out 3; have hfz55_4 := blk_frozen BK396.out 4; have hnb56 := NB398_397.out; have hnc56 := NB397_398.out; have hcz57_0 := x_cz BK398.out 0 rfl; have hcz57_1 := x_cz BK398.out 1 rfl; have hcz57_2 := x_cz BK398.out 2 rfl; have hcz57_3 := x_cz BK398.out 3 rfl; have hfz57_0 := blk_frozen BK398.out 0; have hfz57_1 := blk_frozen BK398.out 1; have hfz57_2 := blk_frozen BK398.out 2; have hfz57_3 := blk_frozen BK398.out 3; have hcz58_0 := x_cz BK397.out 0 rfl; have hcz58_1 := x_cz BK397.out 1 rfl; have hcz58_2 := x_cz BK397.out 2 rfl; have hcz58_3 := x_cz BK397.out 3 rfl; have hfz58_0 := blk_frozen BK397.out 0; have hfz58_1 := blk_frozen BK397.out 1; have hfz58_2 := blk_frozen BK397.out 2; have hfz58_3 := blk_frozen BK397.out 3))
  refine bodyPost_ret (results_cell_row rfl _ _ gb397 28 #[.slice none 0 0, .slice none 0 0, .int .i64 0, .int .i64 0] (0, 0) _ rfl (by (with_reducible repeat (first | refine blk_drewN ?_ _ | refine blk_drew ?_ | refine blk_alloc ?_ _)); refine blk_put (cs := #[.slice none 0 0, .slice none 0 0, .int .i64 0, .int .i64 0]) ?_ 3 _ rfl; (with_reducible repeat (first | refine blk_drewN ?_ _ | refine blk_drew ?_ | refine blk_alloc ?_ _)); refine blk_put (cs := #[.slice none 0 0, .slice none 0 0, .int .i64 0, .int .i64 0]) ?_ 2 _ rfl; (with_reducible repeat (first | refine blk_drewN ?_ _ | refine blk_drew ?_ | refine blk_alloc ?_ _)); refine blk_put (cs := #[.slice none 0 0, .slice none 0 0, .int .i64 0, .int .i64 0]) ?_ 1 _ rfl; (with_reducible repeat (first | refine blk_drewN ?_ _ | refine blk_drew ?_ | refine blk_alloc ?_ _)); refine blk_put (cs := #[.slice none 0 0, .slice none 0 0, .int .i64 0, .int .i64 0]) ?_ 0 _ rfl; (with_reducible repeat (first | refine blk_drewN ?_ _ | refine blk_drew ?_ | refine blk_alloc ?_ _)); exact BK397.out) Tryd.underlying28 rfl (by kernel_rfl)) rfl ?_
  exact ⟨_, _, by first | rfl | (simp [errW_none, errW_some] <;> rfl) | (simp [*, errW_none, errW_some] <;> rfl), by first | exact Kd.S_nil _ _ _ _ _ | exact Kd.N_nil _ _ _ _ _ | exact Kd.V_nil _ _ _ _ _ | exact Kd.Q_nil _ _ _ _ _ | exact Kd.R_nil _ _ _ _ _, by first | exact Kd.R_nil _ _ _ _ _ | exact Kd.N_nil _ _ _ _ _ | exact Kd.V_nil _ _ _ _ _ | exact Kd.Q_nil _ _ _ _ _ | exact Kd.S_nil _ _ _ _ _, by repeat (first | (with_reducible first | exact HB.out | apply below_alloc | apply pw_below_drewN | apply below_drew1 | refine below_set ?_ GE396.out | refine below_set ?_ GE397.out | refine below_set ?_ GE398.out) | exact HB.out)⟩

 replace H := x_bi H
 obtain ⟨⟨t409, t410⟩, A400, H⟩ := H
 have A40 := x_m A400
 clear A400
 simp only [Option.some.injEq, Prod.mk.injEq] at H
 obtain ⟨rfl, rfl, rfl, rfl⟩ := H
 go_enter Tryd.func6, Tryd.ntmps6
 go_wp2_with (first | ((with_reducible refine gate_dst (N := 1) rfl ?_); refine box_event ?hg (N := 1) ?hd (cs := #[.int .i64 a0_0, .slice A0_1 l0_1.length c0_1, .slice A0_2 l0_2.length c0_2, .string a0_3, .int .i64 a0_4]) (t := 31) ?hr ?_; (case hd => rfl); (case hg => rfl); (case hr => first | (go_simp; done) | (go_simp; rfl)); intro gb396 hg w41 hbox hb; have n0_ := x_m (below_step x_bel hb); have n1_ := x_m (hbox); have n2_ := x_m (x_gs hg (below_size x_bel) : w.heap.size ≤ gb396); have n3_ := x_m (x_gs hg (below_size x_bel) : w.heap.size ≤ gb396); clear HB; have HB := n0_; have BK396 := n1_; have GW396 := n2_; have GE396 := n3_; clear n0_ n1_ n2_ n3_; clear hb hbox hg) | ((with_reducible refine gate_dst (N := 2) rfl ?_); refine box_event ?hg (N := 2) ?hd (cs := #[.slice none 0 0, .slice none 0 0, .int .i64 0, .int .i64 0]) (t := 28) ?hr ?_; (case hd => rfl); (case hg => rfl); (case hr => first | (go_simp; done) | (go_simp; rfl)); intro gb397 hg w42 hbox hb; have n0_ := x_m (blk_below (g := gb396) (o := .cells #[.int .i64 a0_0, .slice A0_1 l0_1.length c0_1, .slice A0_2 l0_2.length c0_2, .string a0_3, .int .i64 a0_4] 31 (0, 0)) (x_bk BK396.out) hb); have n1_ := x_m (below_step x_bels hb); have n2_ := x_m (hbox); have n3_ := x_m (x_gs hg (below_size x_bels) : w.heap.size ≤ gb397); have n4_ := x_m (x_gs hg (below_size x_bels) : w.heap.size ≤ gb397); have n5_ := x_m ((by rw [hg]; exact Nat.ne_of_lt (blk_lt (g := gb396) (o := .cells #[.int .i64 a0_0, .slice A0_1 l0_1.length c0_1, .slice A0_2 l0_2.length c0_2, .string a0_3, .int .i64 a0_4] 31 (0, 0)) (x_bk BK396.out)) : gb396 ≠ gb397)); have n6_ := x_m ((by rw [hg]; exact Nat.ne_of_gt (blk_lt (g := gb396) (o := .cells #[.int .i64 a0_0, .slice A0_1 l0_1.length c0_1, .slice A0_2 l0_2.length c0_2, .string a0_3, .int .i64 a0_4] 31 (0, 0)) (x_bk BK396.out)) : gb397 ≠ gb396)); clear BK396; clear HB; have BK396 := n0_; have HB := n1_; have BK397 := n2_; have GW397 := n3_; have GE397 := n4_; have NB396_397 := n5_; have NB397_396 := n6_; clear n0_ n1_ n2_ n3_ n4_ n5_ n6_; clear hb hbox hg) | ((with_reducible refine gate_dst (N := 3) rfl ?_); refine box_event ?hg (N := 3) ?hd (cs := #[.slice none 0 0, .slice none 0 0, .int .i64 0, .int .i64 0]) (t := 28) ?hr ?_; (case hd => rfl); (case hg => rfl); (case hr => first | (go_simp; done) | (go_simp; rfl)); intro gb398 hg w43 hbox hb; have n0_ := x_m (blk_below (g := gb396) (o := .cells #[.int .i64 a0_0, .slice A0_1 l0_1.length c0_1, .slice A0_2 l0_2.length c0_2, .string a0_3, .int .i64 a0_4] 31 (0, 0)) (x_bk BK396.out) hb); have n1_ := x_m (blk_below (g := gb397) (o := .cells #[.slice none 0 0, .slice none 0 0, .int .i64 0, .int .i64 0] 28 (0, 0)) (x_bk BK397.out) hb); have n2_ := x_m (below_step x_bels hb); have n3_ := x_m (hbox); have n4_ := x_m (x_gs hg (below_size x_bels) : w.heap.size ≤ gb398); have n5_ := x_m (x_gs hg (below_size x_bels) : w.heap.size ≤ gb398); have n6_ := x_m ((by rw [hg]; exact Nat.ne_of_lt (blk_lt (g := gb396) (o := .cells #[.int .i64 a0_0, .slice A0_1 l0_1.length c0_1, .slice A0_2 l0_2.length c0_2, .string a0_3, .int .i64 a0_4] 31 (0, 0)) (x_bk BK396.out)) : gb396 ≠ gb398)); have n7_ := x_m ((by rw [hg]; exact Nat.ne_of_gt (blk_lt (g := gb396) (o := .cells #[.int .i64 a0_0, .slice A0_1 l0_1.length c0_1, .slice A0_2 l0_2.length c0_2, .string a0_3, .int .i64 a0_4] 31 (0, 0)) (x_bk BK396.out)) : gb398 ≠ gb396)); have n8_ := x_m ((by rw [hg]; exact Nat.ne_of_lt (blk_lt (g := gb397) (o := .cells #[.slice none 0 0, .slice none 0 0, .int .i64 0, .int .i64 0] 28 (0, 0)) (x_bk BK397.out)) : gb397 ≠ gb398)); have n9_ := x_m ((by rw [hg]; exact Nat.ne_of_gt (blk_lt (g := gb397) (o := .cells #[.slice none 0 0, .slice none 0 0, .int .i64 0, .int .i64 0] 28 (0, 0)) (x_bk BK397.out)) : gb398 ≠ gb397)); clear BK396; clear BK397; clear HB; have BK396 := n0_; have BK397 := n1_; have HB := n2_; have BK398 := n3_; have GW398 := n4_; have GE398 := n5_; have NB396_398 := n6_; have NB398_396 := n7_; have NB397_398 := n8_; have NB398_397 := n9_; clear n0_ n1_ n2_ n3_ n4_ n5_ n6_ n7_ n8_ n9_; clear hb hbox hg; have hnb44 := NB396_397.out; have hnc44 := NB397_396.out; have hnb45 := NB396_398.out; have hnc45 := NB398_396.out; have hcz46_0 := x_cz BK396.out 0 rfl; have hcz46_1 := x_cz BK396.out 1 rfl; have hcz46_2 := x_cz BK396.out 2 rfl; have hcz46_3 := x_cz BK396.out 3 rfl; have hcz46_4 := x_cz BK396.out 4 rfl; have hfz46_0 := blk_frozen BK396.out 0; have hfz46_1 := blk_frozen BK396.out 1; have hfz46_2 := blk_frozen BK396.out 2; have hfz46_3 := blk_frozen BK396.out 3; have hfz46_4 := blk_frozen BK396.out 4) | ((with_reducible refine gate_callee (f := 23) rfl ?_); refine goesL_ (some 45) rfl rfl Tryd.func23 (by kernel_rfl) rfl #[.slice A0_2 l0_2.length c0_2, .string a0_3, .int .i64 a0_4] rfl x_ag ?_; (with_reducible refine (r05_Width.calls k _ _ l0_2 a0_3 a0_4 t409 t410 _ ?side1 ?side2 A40.out).mono ?_); (case side1 => exact x_cc (Kd.C_below HR0_2.out HB.out)); (case side2 => exact HC0_2.out); rintro e w' ⟨rfl, ⟨nd, rfl⟩⟩; refine ⟨_, rfl, ?_⟩; (try (rw [drewN_self w43]; generalize hq_ : World.drewN w43 _ = w43; have n0_ : Aside0 (w43.heap[gb396]? = some (.cells #[.int .i64 a0_0, .slice A0_1 l0_1.length c0_1, .slice A0_2 l0_2.length c0_2, .string a0_3, .int .i64 a0_4] 31 (0, 0))) := ⟨by rw [← hq_]; exact (x_bk BK396.out)⟩; have n1_ : Aside0 (w43.heap[gb397]? = some (.cells #[.slice none 0 0, .slice none 0 0, .int .i64 0, .int .i64 0] 28 (0, 0))) := ⟨by rw [← hq_]; exact (x_bk BK397.out)⟩; have n2_ : Aside0 (w43.heap[gb398]? = some (.cells #[.slice none 0 0, .slice none 0 0, .int .i64 0, .int .i64 0] 28 (0, 0))) := ⟨by rw [← hq_]; exact (x_bk BK398.out)⟩; have n3_ : Aside0 (Below w.heap.size w w43) := ⟨by rw [← hq_]; exact x_bels⟩; clear BK396 BK397 BK398 HB hq_; have BK396 := n0_; have BK397 := n1_; have BK398 := n2_; have HB := n3_; clear n0_ n1_ n2_ n3_)); have hnb47 := NB398_397.out; have hnc47 := NB397_398.out; have hcz48_0 := x_cz BK398.out 0 rfl; have hcz48_1 := x_cz BK398.out 1 rfl; have hcz48_2 := x_cz BK398.out 2 rfl; have hcz48_3 := x_cz BK398.out 3 rfl; have hfz48_0 := blk_frozen BK398.out 0; have hfz48_1 := blk_frozen BK398.out 1; have hfz48_2 := blk_frozen BK398.out 2; have hfz48_3 := blk_frozen BK398.out 3; have hcz49_0 := x_cz BK397.out 0 rfl; have hcz49_1 := x_cz BK397.out 1 rfl; have hcz49_2 := x_cz BK397.out 2 rfl; have hcz49_3 := x_cz BK397.out 3 rfl; have hfz49_0 := blk_frozen BK397.out 0; have hfz49_1 := blk_frozen BK397.out 1; have hfz49_2 := blk_frozen BK397.out 2; have hfz49_3 := blk_frozen BK397.out 3))
 refine bodyPost_ret (results_cell_row rfl _ _ gb397 28 #[.slice none 0 0, .slice none 0 0, .int .i64 t409, .int .i64 t410] (0, 0) _ rfl (by (with_reducible repeat (first | refine blk_drewN ?_ _ | refine blk_drew ?_ | refine blk_alloc ?_ _)); refine blk_put (cs := #[.slice none 0 0, .slice none 0 0, .int .i64 t409, .int .i64 0]) ?_ 3 _ rfl; (with_reducible repeat (first | refine blk_drewN ?_ _ | refine blk_drew ?_ | refine blk_alloc ?_ _)); refine blk_put (cs := #[.slice none 0 0, .slice none 0 0, .int .i64 0, .int .i64 0]) ?_ 2 _ rfl; (with_reducible repeat (first | refine blk_drewN ?_ _ | refine blk_drew ?_ | refine blk_alloc ?_ _)); refine blk_put (cs := #[.slice none 0 0, .slice none 0 0, .int .i64 0, .int .i64 0]) ?_ 1 _ rfl; (with_reducible repeat (first | refine blk_drewN ?_ _ | refine blk_drew ?_ | refine blk_alloc ?_ _)); refine blk_put (cs := #[.slice none 0 0, .slice none 0 0, .int .i64 0, .int .i64 0]) ?_ 0 _ rfl; (with_reducible repeat (first | refine blk_drewN ?_ _ | refine blk_drew ?_ | refine blk_alloc ?_ _)); refine blk_far ?_ NB397_398.out _; (with_reducible repeat (first | refine blk_drewN ?_ _ | refine blk_drew ?_ | refine blk_alloc ?_ _)); refine blk_far ?_ NB397_398.out _; (with_reducible repeat (first | refine blk_drewN ?_ _ | refine blk_drew ?_ | refine blk_alloc ?_ _)); exact BK397.out) Tryd.underlying28 rfl (by kernel_rfl)) rfl ?_
 exact ⟨_, _, by first | rfl | (simp [errW_none, errW_some] <;> rfl) | (simp [*, errW_none, errW_some] <;> rfl), by first | exact Kd.S_nil _ _ _ _ _ | exact Kd.N_nil _ _ _ _ _ | exact Kd.V_nil _ _ _ _ _ | exact Kd.Q_nil _ _ _ _ _ | exact Kd.R_nil _ _ _ _ _, by first | exact Kd.R_nil _ _ _ _ _ | exact Kd.N_nil _ _ _ _ _ | exact Kd.V_nil _ _ _ _ _ | exact Kd.Q_nil _ _ _ _ _ | exact Kd.S_nil _ _ _ _ _, by repeat (first | (with_reducible first | exact HB.out | apply below_alloc | apply pw_below_drewN | apply below_drew1 | refine below_set ?_ GE396.out | refine below_set ?_ GE397.out | refine below_set ?_ GE398.out) | exact HB.out)⟩

namespace SO
abbrev SoS := S45
def spansOk : Bool → List SoS → Bool
 | _, [] => true
 | first, s :: r => decide (s.f0 ≤ s.f1) && ((first || (decide (128 ≤ s.f0) && decide (s.f1 ≤ 191))) && spansOk false r)
def holdsB (s : SoS) (b : Int) : Bool := decide (s.f0 ≤ b) && decide (b ≤ s.f1)
def formB (q : List SoS) : Bool := match q with
 | [s] => decide (s.f1 ≤ 127)
 | [s, _] => decide (194 ≤ s.f0) && decide (s.f1 ≤ 223)
 | [s, t, _] => decide (224 ≤ s.f0) && (decide (s.f1 ≤ 239) && ((!holdsB s 224 || decide (160 ≤ t.f0)) && (!holdsB s 237 || decide (t.f1 ≤ 159))))
 | [s, t, _, _] => decide (240 ≤ s.f0) && (decide (s.f1 ≤ 244) && ((!holdsB s 240 || decide (144 ≤ t.f0)) && (!holdsB s 244 || decide (t.f1 ≤ 143))))
 | _ => false
def soundB (q : List SoS) : Bool := spansOk true q && formB q
end SO
namespace SO
theorem at0 {w : World} {A : Option Addr} {n : Nat} {l : List SoS} (h : Kd.C k45 w A n l) (i : Nat) (hi : i < l.length) : ∃ ad, A = some ad ∧ w.cell? (ad.add (i * 2)) = some (.int .u8 l[i].f0) ∧ w.cell? ⟨(ad.add (i * 2)).block, (ad.add (i * 2)).off + 1, none⟩ = some (.int .u8 l[i].f1) := by
 have hl := h.1
 obtain ⟨ad, e, h0, h1⟩ := at_T45 h (i : Int) (by omega) (by omega)
 have hx : rd_T45 l (i : Int) = l[i] := by unfold rd_T45; rw [Int.toNat_natCast, List.getD_eq_getElem?_getD, List.getElem?_eq_getElem hi]; rfl
 rw [Int.toNat_natCast, hx] at h0 h1
 exact ⟨ad, e, h0, h1⟩
theorem holds_k (b : Int) (bs : Nat) (A : Option Addr) (c : Nat) (s : SoS) (r : List SoS) (w : World) (hb : w.cell? ⟨bs, 0, none⟩ = some (.slice A (r.length + 1) c)) (hr : Kd.C k45 w A (r.length + 1) (s :: r)) :
  Calls Tryd.prog 60 #[.int .u8 b, .pointer (some ⟨bs, 0, none⟩)] w fun e w' => e = .returned (.bool (holdsB s b)) ∧ Below w.heap.size w w' := by
 obtain ⟨ad, rfl, h0, h1⟩ := at0 hr 0 (by simp)
 simp only [Nat.zero_mul, List.getElem_cons_zero] at h0 h1
 rw [Addr.add_zero'] at h0 h1
 have hlen : (0 : Int) < ((r.length + 1 : Nat) : Int) := by omega
 unfold holdsB
 clear hr
 by_cases g : s.f0 ≤ b
 ·have d1 : decide (s.f0 ≤ b) = true := decide_eq_true g
  rw [d1]
  simp only [Bool.true_and]
  go_enter Tryd.func60, Tryd.ntmps60
  go_wp2
  go_ret
  exact ⟨rfl, by repeat (first | exact Below.refl _ _ | apply below_alloc | apply pw_below_drewN | apply below_drew1)⟩
 have d1 : decide (s.f0 ≤ b) = false := decide_eq_false g
 rw [d1]
 simp only [Bool.false_and]
 go_enter Tryd.func60, Tryd.ntmps60
 go_wp2
 go_ret
 exact ⟨rfl, by repeat (first | exact Below.refl _ _ | apply below_alloc | apply pw_below_drewN | apply below_drew1)⟩
end SO
namespace SO
theorem so_meas {i k : Nat} (h : i < k) : k - ((i + 1 : Nat) : Int).toNat < k - ((i : Nat) : Int).toNat := by omega
theorem so_wrap {i n : Nat} (h : i < n) (hn : n ≤ 9223372036854775807) : wrap64 ((i : Int) + 1) = ((i + 1 : Nat) : Int) := by unfold wrap64; omega
theorem spans_drop (q : List SoS) (i : Nat) (hi : i < q.length) : spansOk (i == 0) (q.drop i) = (decide (q[i].f0 ≤ q[i].f1) && ((i == 0 || (decide (128 ≤ q[i].f0) && decide (q[i].f1 ≤ 191))) && spansOk ((i + 1) == 0) (q.drop (i + 1)))) := by
 rw [List.drop_eq_getElem_cons hi, spansOk]
 rfl
theorem form_long : ∀ q : List SoS, 5 ≤ q.length → formB q = false
 | [], h => by simp at h
 | [_], h => by simp at h
 | [_, _], h => by simp at h
 | [_, _, _], h => by simp at h
 | [_, _, _, _], h => by simp at h
 | _ :: _ :: _ :: _ :: _ :: _, _ => rfl
theorem form_cases (q : List SoS) : q = [] ∨ (∃ s, q = [s]) ∨ (∃ s t, q = [s, t]) ∨ (∃ s t u, q = [s, t, u]) ∨ (∃ s t u v, q = [s, t, u, v]) ∨ 5 ≤ q.length := by
 match q with
 | [] => exact .inl rfl
 | [s] => exact .inr (.inl ⟨s, rfl⟩)
 | [s, t] => exact .inr (.inr (.inl ⟨s, t, rfl⟩))
 | [s, t, u] => exact .inr (.inr (.inr (.inl ⟨s, t, u, rfl⟩)))
 | [s, t, u, v] => exact .inr (.inr (.inr (.inr (.inl ⟨s, t, u, v, rfl⟩))))
 | _ :: _ :: _ :: _ :: _ :: _ => exact .inr (.inr (.inr (.inr (.inr (by simp only [List.length_cons]; omega)))))
end SO
def seqs_sound.f (k : Nat) (l0 : List S45) : Option Bool := some (SO.soundB l0)
theorem seqs_sound.calls (k : Nat) (A0 : Option Addr) (c0 : Nat) (l0 : List S45) (r : Bool) (w : World) (hr0 : Kd.C k45 w A0 l0.length l0) (hc0 : l0.length ≤ c0) (h : seqs_sound.f k l0 = some r) :
  Calls Tryd.prog 40 #[.slice A0 l0.length c0] w fun e w' => e = .returned (.bool r) ∧ Below w.heap.size w w' := by
 unfold seqs_sound.f at h
 have HS := x_m (Option.some.inj h)
 have hlen : l0.length ≤ 9223372036854775807 := hr0.2.1
 have HC := x_m hr0
 have HLN := x_m hlen
 have HBX := x_m (blk_new w (.cells #[.slice A0 l0.length c0] 43))
 have HB := x_m (below_alloc (Below.refl w.heap.size w) (.cells #[.slice A0 l0.length c0] 43))
 clear hr0 hc0 h hlen
 go_enter Tryd.func40, Tryd.ntmps40
 go_wp2_with fail
 generalize w.alloc (.cells #[.slice A0 l0.length c0] 43) = W1 at HBX HB ⊢
 generalize hbs : w.heap.size = bs at HBX ⊢
 have HBS := x_m hbs
 clear hbs
 go_loopw [8] (fun v8 wr => ∃ i : Nat, i ≤ l0.length ∧ v8 = .int .i64 (i : Int) ∧ Aside0 (SO.spansOk (i == 0) (l0.drop i) = SO.spansOk true l0) ∧ Aside0 (Below w.heap.size w wr) ∧ Aside0 (wr.heap[bs]? = some (.cells #[.slice A0 l0.length c0] 43 (0, 0)))) (fun v8 _ => l0.length - (intOf v8).toNat)
 case atStart => exact ⟨0, Nat.zero_le _, rfl, ⟨rfl⟩, HB, HBX⟩
 case round =>
  clear HBX HB
  obtain ⟨i, hi, rfl, HSI, HB, HBX⟩ := hrel
  by_cases hlt : i < l0.length
  ·have hlt2 : (i : Int) < (l0.length : Int) := Int.ofNat_lt.2 hlt
   obtain ⟨ad, rfl, h0, h1⟩ := SO.at0 HC.out i hlt
   replace h0 := x_tr HB.out h0
   replace h1 := x_tr HB.out h1
   have hdr := SO.spans_drop l0 i hlt
   rw [HSI.out] at hdr
   have HLT := x_m hlt
   clear hi HSI
   generalize l0[i] = s at h0 h1 hdr
   obtain ⟨sa, sb⟩ := s
   simp only at h0 h1 hdr
   have HB2 := x_m (below_alloc HB.out (.cells #[.int .u8 sa, .int .u8 sb] 45))
   have HBX2 := x_m (blk_below HBX.out (below_alloc (Below.refl _ _) (.cells #[.int .u8 sa, .int .u8 sb] 45)))
   by_cases s1 : sb < sa
   ·have hr : r = false := by
     rw [← HS.out]
     unfold SO.soundB
     rw [hdr, decide_eq_false (by omega : ¬ sa ≤ sb)]
     rfl
    subst hr
    clear HB HBX hlt hdr HS HLT
    go_wp2_with fail
    go_ret
    exact ⟨rfl, HB2.out⟩
   rw [decide_eq_true (by omega : sa ≤ sb), Bool.true_and] at hdr
   rcases Nat.eq_zero_or_pos i with hz | hz
   ·subst hz
    have HS3 := x_m (show SO.spansOk ((0 + 1) == 0) (l0.drop (0 + 1)) = SO.spansOk true l0 by rw [hdr]; rfl)
    have hz0 : ¬ ((0 : Int) < ((0 : Nat) : Int)) := by omega
    simp only [Nat.zero_mul] at h0 h1
    rw [Addr.add_zero'] at h0 h1
    clear HB HBX hlt hdr HS
    go_wp2_with fail
    go_roundw
    case measure =>
     show l0.length - (intOf (.int .i64 1)).toNat < l0.length - (intOf (.int .i64 0)).toNat
     exact SO.so_meas HLT.out
    case rel => exact ⟨1, HLT.out, rfl, HS3, HB2, HBX2⟩
   have hz2 : (0 : Int) < (i : Int) := by omega
   rw [show (i == 0) = false by rw [beq_eq_false_iff_ne]; omega, Bool.false_or] at hdr
   by_cases s2 : sa < 128
   ·have hr : r = false := by
     rw [← HS.out]
     unfold SO.soundB
     rw [hdr, decide_eq_false (by omega : ¬ 128 ≤ sa)]
     rfl
    subst hr
    clear HB HBX hlt hdr HS HLT hz
    go_wp2_with fail
    go_ret
    exact ⟨rfl, HB2.out⟩
   rw [decide_eq_true (by omega : 128 ≤ sa), Bool.true_and] at hdr
   by_cases s4 : 191 < sb
   ·have hr : r = false := by
     rw [← HS.out]
     unfold SO.soundB
     rw [hdr, decide_eq_false (by omega : ¬ sb ≤ 191)]
     rfl
    subst hr
    clear HB HBX hlt hdr HS HLT hz
    go_wp2_with fail
    go_ret
    exact ⟨rfl, HB2.out⟩
   have HS3 := x_m (show SO.spansOk ((i + 1) == 0) (l0.drop (i + 1)) = SO.spansOk true l0 by rw [hdr, decide_eq_true (by omega : sb ≤ 191), Bool.true_and])
   clear HB HBX hdr HS
   go_wp2_with fail
   go_roundw
   case measure =>
    show l0.length - (intOf (.int .i64 (wrap64 ((i : Int) + 1)))).toNat < l0.length - (intOf (.int .i64 (i : Int))).toNat
    rw [SO.so_wrap HLT.out HLN.out]
    exact SO.so_meas HLT.out
   case rel =>
    rw [SO.so_wrap HLT.out HLN.out]
    exact ⟨i + 1, HLT.out, rfl, HS3, HB2, HBX2⟩
  obtain rfl : i = l0.length := by omega
  have hcell : wr.cell? ⟨bs, 0, none⟩ = some (.slice A0 l0.length c0) := by rw [cell_of_row wr bs 0 _ _ (0, 0) HBX.out]; rfl
  have HSP : Aside0 (SO.spansOk true l0 = true) := ⟨by rw [← HSI.out, List.drop_of_length_le (Nat.le_refl _)]; rfl⟩
  clear hi hlt HSI
  rcases SO.form_cases l0 with rfl | ⟨s, rfl⟩ | ⟨s, t, rfl⟩ | ⟨s, t, u, rfl⟩ | ⟨s, t, u, v, rfl⟩ | h5
  ·have hr : r = false := by
    rw [← HS.out]
    rfl
   subst hr
   simp only [List.length_nil] at hcell ⊢
   go_wp2_with fail
   go_ret
   exact ⟨rfl, HB.out⟩
  ·obtain ⟨ad, rfl, h0, h1⟩ := SO.at0 HC.out 0 (by simp)
   simp only [Nat.zero_mul, List.getElem_cons_zero] at h0 h1
   rw [Addr.add_zero'] at h0 h1
   replace h0 := x_tr HB.out h0
   replace h1 := x_tr HB.out h1
   have hr : r = decide (s.f1 ≤ 127) := by
    rw [← HS.out]
    unfold SO.soundB
    rw [HSP.out]
    rfl
   subst hr
   clear HS HSP
   simp only [List.length_cons, List.length_nil] at hcell ⊢
   go_wp2_with fail
   go_ret
   exact ⟨rfl, HB.out⟩
  ·obtain ⟨ad, rfl, h0, h1⟩ := SO.at0 HC.out 0 (by simp)
   simp only [Nat.zero_mul, List.getElem_cons_zero] at h0 h1
   rw [Addr.add_zero'] at h0 h1
   replace h0 := x_tr HB.out h0
   replace h1 := x_tr HB.out h1
   by_cases f1 : 194 ≤ s.f0
   ·have hr : r = decide (s.f1 ≤ 223) := by
     rw [← HS.out]
     unfold SO.soundB
     rw [HSP.out]
     simp [SO.formB, f1]
    subst hr
    clear HS HSP
    simp only [List.length_cons, List.length_nil] at hcell ⊢
    go_wp2_with fail
    go_ret
    exact ⟨rfl, HB.out⟩
   have hr : r = false := by
    rw [← HS.out]
    unfold SO.soundB
    rw [HSP.out]
    simp [SO.formB, f1]
   subst hr
   clear HS HSP
   simp only [List.length_cons, List.length_nil] at hcell ⊢
   go_wp2_with fail
   go_ret
   exact ⟨rfl, HB.out⟩
  ·obtain ⟨ad, rfl, h0, h1⟩ := SO.at0 HC.out 0 (by simp)
   obtain ⟨ad2, e2, g0, g1⟩ := SO.at0 HC.out 1 (by simp)
   cases e2
   simp only [Nat.zero_mul, Nat.one_mul, List.getElem_cons_zero, List.getElem_cons_succ] at h0 h1 g0 g1
   rw [Addr.add_zero'] at h0 h1
   rw [show ad.add 2 = (⟨ad.block, ad.off + 2, none⟩ : Addr) from rfl] at g0 g1
   replace h0 := x_tr HB.out h0
   replace h1 := x_tr HB.out h1
   replace g0 := x_tr HB.out g0
   replace g1 := x_tr HB.out g1
   have HK1 := x_m (SO.holds_k 224 bs (some ad) c0 s [t, u] wr (by simpa using hcell) (by have := Kd.C_below HC.out HB.out; simpa using this))
   have HKC := x_m (Kd.C_below HC.out HB.out)
   by_cases f1 : 224 ≤ s.f0
   rotate_left
   ·have hr : r = false := by
     rw [← HS.out]
     unfold SO.soundB
     rw [HSP.out]
     simp [SO.formB, f1]
    subst hr
    clear HS HSP HK1
    simp only [List.length_cons, List.length_nil] at hcell ⊢
    go_wp2_with fail
    go_ret
    exact ⟨rfl, HB.out⟩
   by_cases f2 : s.f1 ≤ 239
   rotate_left
   ·have hr : r = false := by
     rw [← HS.out]
     unfold SO.soundB
     rw [HSP.out]
     simp [SO.formB, f1, f2]
    subst hr
    clear HS HSP HK1
    simp only [List.length_cons, List.length_nil] at hcell ⊢
    go_wp2_with fail
    go_ret
    exact ⟨rfl, HB.out⟩
   have HK2_ := x_m (fun (w5 : World) (hb5 : Below wr.heap.size wr w5) => SO.holds_k 237 bs (some ad) c0 s [t, u] w5 (by have := x_tr hb5 hcell; simpa using this) (by have := Kd.C_below HKC.out hb5; simpa using this))
   cases hb1 : SO.holdsB s 224 with
   | false =>
    cases hb2 : SO.holdsB s 237 with
    | false =>
     have hr : r = true := by
      rw [← HS.out]
      unfold SO.soundB
      rw [HSP.out]
      simp [SO.formB, f1, f2, hb1, hb2]
     subst hr
     clear HS HSP
     simp only [List.length_cons, List.length_nil] at hcell ⊢
     rw [hb1] at HK1
     clear hb1
     go_wp2_with fail
     refine HK1.out.mono ?_
     rintro e w5 ⟨rfl, hb5⟩
     replace h0 := x_tr hb5 h0
     replace h1 := x_tr hb5 h1
     replace g0 := x_tr hb5 g0
     replace g1 := x_tr hb5 g1
     replace hcell := x_tr hb5 hcell
     have HK2 := x_m (HK2_.out w5 hb5)
     have HB5 := x_m (below_step HB.out hb5)
     clear hb5 HK1 HK2_
     rw [hb2] at HK2
     clear hb2
     go_wp2_with fail
     refine HK2.out.mono ?_
     rintro e w6 ⟨rfl, hb6⟩
     replace h0 := x_tr hb6 h0
     replace h1 := x_tr hb6 h1
     replace g0 := x_tr hb6 g0
     replace g1 := x_tr hb6 g1
     replace hcell := x_tr hb6 hcell
     have HB6 := x_m (below_step HB5.out hb6)
     clear hb6 HK2 HB5
     go_wp2_with fail
     go_ret
     exact ⟨rfl, HB6.out⟩
    | true =>
     by_cases f4 : t.f1 ≤ 159
     ·have hr : r = true := by
       rw [← HS.out]
       unfold SO.soundB
       rw [HSP.out]
       simp [SO.formB, f1, f2, hb1, hb2, f4]
      subst hr
      clear HS HSP
      simp only [List.length_cons, List.length_nil] at hcell ⊢
      rw [hb1] at HK1
      clear hb1
      go_wp2_with fail
      refine HK1.out.mono ?_
      rintro e w5 ⟨rfl, hb5⟩
      replace h0 := x_tr hb5 h0
      replace h1 := x_tr hb5 h1
      replace g0 := x_tr hb5 g0
      replace g1 := x_tr hb5 g1
      replace hcell := x_tr hb5 hcell
      have HK2 := x_m (HK2_.out w5 hb5)
      have HB5 := x_m (below_step HB.out hb5)
      clear hb5 HK1 HK2_
      rw [hb2] at HK2
      clear hb2
      go_wp2_with fail
      refine HK2.out.mono ?_
      rintro e w6 ⟨rfl, hb6⟩
      replace h0 := x_tr hb6 h0
      replace h1 := x_tr hb6 h1
      replace g0 := x_tr hb6 g0
      replace g1 := x_tr hb6 g1
      replace hcell := x_tr hb6 hcell
      have HB6 := x_m (below_step HB5.out hb6)
      clear hb6 HK2 HB5
      go_wp2_with fail
      go_ret
      exact ⟨rfl, HB6.out⟩
     have hr : r = false := by
      rw [← HS.out]
      unfold SO.soundB
      rw [HSP.out]
      simp [SO.formB, f1, f2, hb1, hb2, f4]
     subst hr
     clear HS HSP
     simp only [List.length_cons, List.length_nil] at hcell ⊢
     rw [hb1] at HK1
     clear hb1
     go_wp2_with fail
     refine HK1.out.mono ?_
     rintro e w5 ⟨rfl, hb5⟩
     replace h0 := x_tr hb5 h0
     replace h1 := x_tr hb5 h1
     replace g0 := x_tr hb5 g0
     replace g1 := x_tr hb5 g1
     replace hcell := x_tr hb5 hcell
     have HK2 := x_m (HK2_.out w5 hb5)
     have HB5 := x_m (below_step HB.out hb5)
     clear hb5 HK1 HK2_
     rw [hb2] at HK2
     clear hb2
     go_wp2_with fail
     refine HK2.out.mono ?_
     rintro e w6 ⟨rfl, hb6⟩
     replace h0 := x_tr hb6 h0
     replace h1 := x_tr hb6 h1
     replace g0 := x_tr hb6 g0
     replace g1 := x_tr hb6 g1
     replace hcell := x_tr hb6 hcell
     have HB6 := x_m (below_step HB5.out hb6)
     clear hb6 HK2 HB5
     go_wp2_with fail
     go_ret
     exact ⟨congrArg (fun b => Ending.returned (Value.bool b)) (decide_eq_false (Int.not_le.2 f4)), HB6.out⟩
   | true =>
    by_cases f3 : 160 ≤ t.f0
    rotate_left
    ·have hr : r = false := by
      rw [← HS.out]
      unfold SO.soundB
      rw [HSP.out]
      simp [SO.formB, f1, f2, hb1, f3]
     subst hr
     clear HS HSP
     simp only [List.length_cons, List.length_nil] at hcell ⊢
     rw [hb1] at HK1
     clear hb1
     go_wp2_with fail
     refine HK1.out.mono ?_
     rintro e w5 ⟨rfl, hb5⟩
     replace h0 := x_tr hb5 h0
     replace h1 := x_tr hb5 h1
     replace g0 := x_tr hb5 g0
     replace g1 := x_tr hb5 g1
     replace hcell := x_tr hb5 hcell
     have HK2 := x_m (HK2_.out w5 hb5)
     have HB5 := x_m (below_step HB.out hb5)
     clear hb5 HK1 HK2_
     go_wp2_with fail
     go_ret
     exact ⟨rfl, HB5.out⟩
    cases hb2 : SO.holdsB s 237 with
    | false =>
     have hr : r = true := by
      rw [← HS.out]
      unfold SO.soundB
      rw [HSP.out]
      simp [SO.formB, f1, f2, hb1, f3, hb2]
     subst hr
     clear HS HSP
     simp only [List.length_cons, List.length_nil] at hcell ⊢
     rw [hb1] at HK1
     clear hb1
     go_wp2_with fail
     refine HK1.out.mono ?_
     rintro e w5 ⟨rfl, hb5⟩
     replace h0 := x_tr hb5 h0
     replace h1 := x_tr hb5 h1
     replace g0 := x_tr hb5 g0
     replace g1 := x_tr hb5 g1
     replace hcell := x_tr hb5 hcell
     have HK2 := x_m (HK2_.out w5 hb5)
     have HB5 := x_m (below_step HB.out hb5)
     clear hb5 HK1 HK2_
     rw [hb2] at HK2
     clear hb2
     go_wp2_with fail
     refine HK2.out.mono ?_
     rintro e w6 ⟨rfl, hb6⟩
     replace h0 := x_tr hb6 h0
     replace h1 := x_tr hb6 h1
     replace g0 := x_tr hb6 g0
     replace g1 := x_tr hb6 g1
     replace hcell := x_tr hb6 hcell
     have HB6 := x_m (below_step HB5.out hb6)
     clear hb6 HK2 HB5
     go_wp2_with fail
     go_ret
     exact ⟨rfl, HB6.out⟩
    | true =>
     by_cases f4 : t.f1 ≤ 159
     ·have hr : r = true := by
       rw [← HS.out]
       unfold SO.soundB
       rw [HSP.out]
       simp [SO.formB, f1, f2, hb1, f3, hb2, f4]
      subst hr
      clear HS HSP
      simp only [List.length_cons, List.length_nil] at hcell ⊢
      rw [hb1] at HK1
      clear hb1
      go_wp2_with fail
      refine HK1.out.mono ?_
      rintro e w5 ⟨rfl, hb5⟩
      replace h0 := x_tr hb5 h0
      replace h1 := x_tr hb5 h1
      replace g0 := x_tr hb5 g0
      replace g1 := x_tr hb5 g1
      replace hcell := x_tr hb5 hcell
      have HK2 := x_m (HK2_.out w5 hb5)
      have HB5 := x_m (below_step HB.out hb5)
      clear hb5 HK1 HK2_
      rw [hb2] at HK2
      clear hb2
      go_wp2_with fail
      refine HK2.out.mono ?_
      rintro e w6 ⟨rfl, hb6⟩
      replace h0 := x_tr hb6 h0
      replace h1 := x_tr hb6 h1
      replace g0 := x_tr hb6 g0
      replace g1 := x_tr hb6 g1
      replace hcell := x_tr hb6 hcell
      have HB6 := x_m (below_step HB5.out hb6)
      clear hb6 HK2 HB5
      go_wp2_with fail
      go_ret
      exact ⟨rfl, HB6.out⟩
     have hr : r = false := by
      rw [← HS.out]
      unfold SO.soundB
      rw [HSP.out]
      simp [SO.formB, f1, f2, hb1, f3, hb2, f4]
     subst hr
     clear HS HSP
     simp only [List.length_cons, List.length_nil] at hcell ⊢
     rw [hb1] at HK1
     clear hb1
     go_wp2_with fail
     refine HK1.out.mono ?_
     rintro e w5 ⟨rfl, hb5⟩
     replace h0 := x_tr hb5 h0
     replace h1 := x_tr hb5 h1
     replace g0 := x_tr hb5 g0
     replace g1 := x_tr hb5 g1
     replace hcell := x_tr hb5 hcell
     have HK2 := x_m (HK2_.out w5 hb5)
     have HB5 := x_m (below_step HB.out hb5)
     clear hb5 HK1 HK2_
     rw [hb2] at HK2
     clear hb2
     go_wp2_with fail
     refine HK2.out.mono ?_
     rintro e w6 ⟨rfl, hb6⟩
     replace h0 := x_tr hb6 h0
     replace h1 := x_tr hb6 h1
     replace g0 := x_tr hb6 g0
     replace g1 := x_tr hb6 g1
     replace hcell := x_tr hb6 hcell
     have HB6 := x_m (below_step HB5.out hb6)
     clear hb6 HK2 HB5
     go_wp2_with fail
     go_ret
     exact ⟨congrArg (fun b => Ending.returned (Value.bool b)) (decide_eq_false (Int.not_le.2 f4)), HB6.out⟩
  ·obtain ⟨ad, rfl, h0, h1⟩ := SO.at0 HC.out 0 (by simp)
   obtain ⟨ad2, e2, g0, g1⟩ := SO.at0 HC.out 1 (by simp)
   cases e2
   simp only [Nat.zero_mul, Nat.one_mul, List.getElem_cons_zero, List.getElem_cons_succ] at h0 h1 g0 g1
   rw [Addr.add_zero'] at h0 h1
   rw [show ad.add 2 = (⟨ad.block, ad.off + 2, none⟩ : Addr) from rfl] at g0 g1
   replace h0 := x_tr HB.out h0
   replace h1 := x_tr HB.out h1
   replace g0 := x_tr HB.out g0
   replace g1 := x_tr HB.out g1
   have HK1 := x_m (SO.holds_k 240 bs (some ad) c0 s [t, u, v] wr (by simpa using hcell) (by have := Kd.C_below HC.out HB.out; simpa using this))
   have HKC := x_m (Kd.C_below HC.out HB.out)
   by_cases f1 : 240 ≤ s.f0
   rotate_left
   ·have hr : r = false := by
     rw [← HS.out]
     unfold SO.soundB
     rw [HSP.out]
     simp [SO.formB, f1]
    subst hr
    clear HS HSP HK1
    simp only [List.length_cons, List.length_nil] at hcell ⊢
    go_wp2_with fail
    go_ret
    exact ⟨rfl, HB.out⟩
   by_cases f2 : s.f1 ≤ 244
   rotate_left
   ·have hr : r = false := by
     rw [← HS.out]
     unfold SO.soundB
     rw [HSP.out]
     simp [SO.formB, f1, f2]
    subst hr
    clear HS HSP HK1
    simp only [List.length_cons, List.length_nil] at hcell ⊢
    go_wp2_with fail
    go_ret
    exact ⟨rfl, HB.out⟩
   have HK2_ := x_m (fun (w5 : World) (hb5 : Below wr.heap.size wr w5) => SO.holds_k 244 bs (some ad) c0 s [t, u, v] w5 (by have := x_tr hb5 hcell; simpa using this) (by have := Kd.C_below HKC.out hb5; simpa using this))
   cases hb1 : SO.holdsB s 240 with
   | false =>
    cases hb2 : SO.holdsB s 244 with
    | false =>
     have hr : r = true := by
      rw [← HS.out]
      unfold SO.soundB
      rw [HSP.out]
      simp [SO.formB, f1, f2, hb1, hb2]
     subst hr
     clear HS HSP
     simp only [List.length_cons, List.length_nil] at hcell ⊢
     rw [hb1] at HK1
     clear hb1
     go_wp2_with fail
     refine HK1.out.mono ?_
     rintro e w5 ⟨rfl, hb5⟩
     replace h0 := x_tr hb5 h0
     replace h1 := x_tr hb5 h1
     replace g0 := x_tr hb5 g0
     replace g1 := x_tr hb5 g1
     replace hcell := x_tr hb5 hcell
     have HK2 := x_m (HK2_.out w5 hb5)
     have HB5 := x_m (below_step HB.out hb5)
     clear hb5 HK1 HK2_
     rw [hb2] at HK2
     clear hb2
     go_wp2_with fail
     refine HK2.out.mono ?_
     rintro e w6 ⟨rfl, hb6⟩
     replace h0 := x_tr hb6 h0
     replace h1 := x_tr hb6 h1
     replace g0 := x_tr hb6 g0
     replace g1 := x_tr hb6 g1
     replace hcell := x_tr hb6 hcell
     have HB6 := x_m (below_step HB5.out hb6)
     clear hb6 HK2 HB5
     go_wp2_with fail
     go_ret
     exact ⟨rfl, HB6.out⟩
    | true =>
     by_cases f4 : t.f1 ≤ 143
     ·have hr : r = true := by
       rw [← HS.out]
       unfold SO.soundB
       rw [HSP.out]
       simp [SO.formB, f1, f2, hb1, hb2, f4]
      subst hr
      clear HS HSP
      simp only [List.length_cons, List.length_nil] at hcell ⊢
      rw [hb1] at HK1
      clear hb1
      go_wp2_with fail
      refine HK1.out.mono ?_
      rintro e w5 ⟨rfl, hb5⟩
      replace h0 := x_tr hb5 h0
      replace h1 := x_tr hb5 h1
      replace g0 := x_tr hb5 g0
      replace g1 := x_tr hb5 g1
      replace hcell := x_tr hb5 hcell
      have HK2 := x_m (HK2_.out w5 hb5)
      have HB5 := x_m (below_step HB.out hb5)
      clear hb5 HK1 HK2_
      rw [hb2] at HK2
      clear hb2
      go_wp2_with fail
      refine HK2.out.mono ?_
      rintro e w6 ⟨rfl, hb6⟩
      replace h0 := x_tr hb6 h0
      replace h1 := x_tr hb6 h1
      replace g0 := x_tr hb6 g0
      replace g1 := x_tr hb6 g1
      replace hcell := x_tr hb6 hcell
      have HB6 := x_m (below_step HB5.out hb6)
      clear hb6 HK2 HB5
      go_wp2_with fail
      go_ret
      exact ⟨rfl, HB6.out⟩
     have hr : r = false := by
      rw [← HS.out]
      unfold SO.soundB
      rw [HSP.out]
      simp [SO.formB, f1, f2, hb1, hb2, f4]
     subst hr
     clear HS HSP
     simp only [List.length_cons, List.length_nil] at hcell ⊢
     rw [hb1] at HK1
     clear hb1
     go_wp2_with fail
     refine HK1.out.mono ?_
     rintro e w5 ⟨rfl, hb5⟩
     replace h0 := x_tr hb5 h0
     replace h1 := x_tr hb5 h1
     replace g0 := x_tr hb5 g0
     replace g1 := x_tr hb5 g1
     replace hcell := x_tr hb5 hcell
     have HK2 := x_m (HK2_.out w5 hb5)
     have HB5 := x_m (below_step HB.out hb5)
     clear hb5 HK1 HK2_
     rw [hb2] at HK2
     clear hb2
     go_wp2_with fail
     refine HK2.out.mono ?_
     rintro e w6 ⟨rfl, hb6⟩
     replace h0 := x_tr hb6 h0
     replace h1 := x_tr hb6 h1
     replace g0 := x_tr hb6 g0
     replace g1 := x_tr hb6 g1
     replace hcell := x_tr hb6 hcell
     have HB6 := x_m (below_step HB5.out hb6)
     clear hb6 HK2 HB5
     go_wp2_with fail
     go_ret
     exact ⟨congrArg (fun b => Ending.returned (Value.bool b)) (decide_eq_false (Int.not_le.2 f4)), HB6.out⟩
   | true =>
    by_cases f3 : 144 ≤ t.f0
    rotate_left
    ·have hr : r = false := by
      rw [← HS.out]
      unfold SO.soundB
      rw [HSP.out]
      simp [SO.formB, f1, f2, hb1, f3]
     subst hr
     clear HS HSP
     simp only [List.length_cons, List.length_nil] at hcell ⊢
     rw [hb1] at HK1
     clear hb1
     go_wp2_with fail
     refine HK1.out.mono ?_
     rintro e w5 ⟨rfl, hb5⟩
     replace h0 := x_tr hb5 h0
     replace h1 := x_tr hb5 h1
     replace g0 := x_tr hb5 g0
     replace g1 := x_tr hb5 g1
     replace hcell := x_tr hb5 hcell
     have HK2 := x_m (HK2_.out w5 hb5)
     have HB5 := x_m (below_step HB.out hb5)
     clear hb5 HK1 HK2_
     go_wp2_with fail
     go_ret
     exact ⟨rfl, HB5.out⟩
    cases hb2 : SO.holdsB s 244 with
    | false =>
     have hr : r = true := by
      rw [← HS.out]
      unfold SO.soundB
      rw [HSP.out]
      simp [SO.formB, f1, f2, hb1, f3, hb2]
     subst hr
     clear HS HSP
     simp only [List.length_cons, List.length_nil] at hcell ⊢
     rw [hb1] at HK1
     clear hb1
     go_wp2_with fail
     refine HK1.out.mono ?_
     rintro e w5 ⟨rfl, hb5⟩
     replace h0 := x_tr hb5 h0
     replace h1 := x_tr hb5 h1
     replace g0 := x_tr hb5 g0
     replace g1 := x_tr hb5 g1
     replace hcell := x_tr hb5 hcell
     have HK2 := x_m (HK2_.out w5 hb5)
     have HB5 := x_m (below_step HB.out hb5)
     clear hb5 HK1 HK2_
     rw [hb2] at HK2
     clear hb2
     go_wp2_with fail
     refine HK2.out.mono ?_
     rintro e w6 ⟨rfl, hb6⟩
     replace h0 := x_tr hb6 h0
     replace h1 := x_tr hb6 h1
     replace g0 := x_tr hb6 g0
     replace g1 := x_tr hb6 g1
     replace hcell := x_tr hb6 hcell
     have HB6 := x_m (below_step HB5.out hb6)
     clear hb6 HK2 HB5
     go_wp2_with fail
     go_ret
     exact ⟨rfl, HB6.out⟩
    | true =>
     by_cases f4 : t.f1 ≤ 143
     ·have hr : r = true := by
       rw [← HS.out]
       unfold SO.soundB
       rw [HSP.out]
       simp [SO.formB, f1, f2, hb1, f3, hb2, f4]
      subst hr
      clear HS HSP
      simp only [List.length_cons, List.length_nil] at hcell ⊢
      rw [hb1] at HK1
      clear hb1
      go_wp2_with fail
      refine HK1.out.mono ?_
      rintro e w5 ⟨rfl, hb5⟩
      replace h0 := x_tr hb5 h0
      replace h1 := x_tr hb5 h1
      replace g0 := x_tr hb5 g0
      replace g1 := x_tr hb5 g1
      replace hcell := x_tr hb5 hcell
      have HK2 := x_m (HK2_.out w5 hb5)
      have HB5 := x_m (below_step HB.out hb5)
      clear hb5 HK1 HK2_
      rw [hb2] at HK2
      clear hb2
      go_wp2_with fail
      refine HK2.out.mono ?_
      rintro e w6 ⟨rfl, hb6⟩
      replace h0 := x_tr hb6 h0
      replace h1 := x_tr hb6 h1
      replace g0 := x_tr hb6 g0
      replace g1 := x_tr hb6 g1
      replace hcell := x_tr hb6 hcell
      have HB6 := x_m (below_step HB5.out hb6)
      clear hb6 HK2 HB5
      go_wp2_with fail
      go_ret
      exact ⟨rfl, HB6.out⟩
     have hr : r = false := by
      rw [← HS.out]
      unfold SO.soundB
      rw [HSP.out]
      simp [SO.formB, f1, f2, hb1, f3, hb2, f4]
     subst hr
     clear HS HSP
     simp only [List.length_cons, List.length_nil] at hcell ⊢
     rw [hb1] at HK1
     clear hb1
     go_wp2_with fail
     refine HK1.out.mono ?_
     rintro e w5 ⟨rfl, hb5⟩
     replace h0 := x_tr hb5 h0
     replace h1 := x_tr hb5 h1
     replace g0 := x_tr hb5 g0
     replace g1 := x_tr hb5 g1
     replace hcell := x_tr hb5 hcell
     have HK2 := x_m (HK2_.out w5 hb5)
     have HB5 := x_m (below_step HB.out hb5)
     clear hb5 HK1 HK2_
     rw [hb2] at HK2
     clear hb2
     go_wp2_with fail
     refine HK2.out.mono ?_
     rintro e w6 ⟨rfl, hb6⟩
     replace h0 := x_tr hb6 h0
     replace h1 := x_tr hb6 h1
     replace g0 := x_tr hb6 g0
     replace g1 := x_tr hb6 g1
     replace hcell := x_tr hb6 hcell
     have HB6 := x_m (below_step HB5.out hb6)
     clear hb6 HK2 HB5
     go_wp2_with fail
     go_ret
     exact ⟨congrArg (fun b => Ending.returned (Value.bool b)) (decide_eq_false (Int.not_le.2 f4)), HB6.out⟩
  have hr : r = false := by
   rw [← HS.out]
   unfold SO.soundB
   rw [SO.form_long l0 h5, Bool.and_false]
  subst hr
  have n1 : ¬ ((l0.length : Int) = 1) := by omega
  have n2 : ¬ ((l0.length : Int) = 2) := by omega
  have n3 : ¬ ((l0.length : Int) = 3) := by omega
  have n4 : ¬ ((l0.length : Int) = 4) := by omega
  clear HS HSP h5
  go_wp2_with fail
  go_ret
  exact ⟨rfl, HB.out⟩

namespace CF
abbrev CfS := S45
def cfNot (s : CfS) : Bool := !(decide (s.f0 = 128) && decide (s.f1 = 191))
theorem cf_lit (x y : Int) (W : World) : Calls Tryd.prog 62 #[.agg #[.int .u8 x, .int .u8 y]] W fun e w' => e = .returned (.bool (cfNot ⟨x, y⟩)) ∧ Below W.heap.size W w' := by
 have hu31 := Tryd.underlying45
 unfold cfNot
 by_cases h1 : x = 128
 ·by_cases h2 : y = 191
  ·subst h1 h2
   go_enter Tryd.func62, Tryd.ntmps62
   go_wp2
   go_ret
   exact ⟨by simp, by repeat (first | exact Below.refl _ _ | apply below_alloc | apply pw_below_drewN | apply below_drew1)⟩
  go_enter Tryd.func62, Tryd.ntmps62
  go_wp2
  go_ret
  exact ⟨by simp [*], by repeat (first | exact Below.refl _ _ | apply below_alloc | apply pw_below_drewN | apply below_drew1)⟩
 go_enter Tryd.func62, Tryd.ntmps62
 go_wp2
 go_ret
 exact ⟨by simp [*], by repeat (first | exact Below.refl _ _ | apply below_alloc | apply pw_below_drewN | apply below_drew1)⟩
def cfIdx : List CfS → Int → Int
 | [], _ => -1
 | x :: xs, i => if cfNot x = true then i else cfIdx xs (i + 1)
theorem cfIdx_any : ∀ (l : List CfS) (i : Int), 0 ≤ i → decide (0 ≤ cfIdx l i) = l.any cfNot
 | [], i, _ => by simp [cfIdx]
 | x :: l, i, hi => by
  rw [cfIdx, List.any_cons]
  split
  ·rename_i h
   rw [h]
   simpa using hi
  rename_i h
  rw [cfIdx_any l (i + 1) (by omega)]
  simp [h]
theorem cf_idx (A : Option Addr) (c : Nat) (l : List CfS) (w : World) (hr : Kd.C k45 w A l.length l) (hc : l.length ≤ c) :
  Calls Tryd.prog 71 #[.slice A l.length c, .func (.func 62) #[] #[]] w fun e w' => e = .returned (.int .i64 (cfIdx l 0)) ∧ Below w.heap.size w w' := by
 have hu31 := Tryd.underlying45
 have hm : l.length ≤ 9223372036854775807 := hr.2.1
 have HR := x_m hr
 clear hr
 go_enter Tryd.func71, Tryd.ntmps71
 go_wp2
 go_loopw [8] (fun v wr => ∃ k : Nat, k ≤ l.length ∧ v = .int .i64 k ∧ Aside0 (cfIdx (l.drop k) k = cfIdx l 0) ∧ Aside0 (Below w.heap.size w wr)) (fun v _ => l.length - (intOf v).toNat)
 case atStart => exact ⟨0, Nat.zero_le _, rfl, ⟨rfl⟩, ⟨Below.refl _ _⟩⟩
 case round =>
  obtain ⟨k, hk, rfl, HI, HB⟩ := hrel
  by_cases hlt : k < l.length
  ·have hc1 := at_T45 (Kd.C_below HR.out HB.out) k (by omega) (by omega)
   obtain ⟨ad, rfl, h0, h1⟩ := hc1
   have hI := HI.out
   rw [List.drop_eq_getElem_cons hlt, cfIdx] at hI
   have hx : rd_T45 l (k : Int) = l[k] := by simp [rd_T45, hlt]
   simp only [Int.toNat_natCast] at h0 h1
   rw [hx] at h0 h1
   generalize l[k] = sx at hI h0 h1
   obtain ⟨sa, sb⟩ := sx
   simp only at h0 h1
   have HC := x_m (cf_lit sa sb wr)
   cases hp : cfNot ⟨sa, sb⟩ with
   | true =>
    rw [if_pos hp] at hI
    have HI2 := x_m hI
    rw [hp] at HC
    clear hI HI hx hp
    go_wp2_with (refine HC.out.mono ?_; rintro e w' ⟨rfl, hb⟩; have HB2 := x_m (below_step HB.out hb); clear hb)
    go_ret
    exact ⟨by rw [← HI2.out]; rfl, HB2.out⟩
   | false =>
    rw [if_neg (by rw [hp]; simp)] at hI
    have HI2 := x_m hI
    rw [hp] at HC
    clear hI HI hx hp
    go_wp2_with (refine HC.out.mono ?_; rintro e w' ⟨rfl, hb⟩; have HB2 := x_m (below_step HB.out hb); clear hb)
    go_roundw
    case rel => exact ⟨k + 1, by omega, by go_num, ⟨by have := HI2.out; simpa using this⟩, HB2⟩
    case measure => simp [intOf]; omega
  have hkl : k = l.length := by omega
  have hI := HI.out
  rw [List.drop_eq_nil_of_le (by omega), cfIdx] at hI
  have HI2 := x_m hI
  clear hI HI hkl
  go_wp2
  go_ret
  exact ⟨by rw [← HI2.out]; rfl, HB.out⟩
end CF
def slices_ContainsFunc_full.f (l0 : List S45) : Option Bool := some (l0.any CF.cfNot)
theorem slices_ContainsFunc_full.calls (A0 : Option Addr) (c0 : Nat) (l0 : List S45) (r : Bool) (w : World) (hr0 : Kd.C k45 w A0 l0.length l0) (hc0 : l0.length ≤ c0) (h : slices_ContainsFunc_full.f l0 = some r) :
  Calls Tryd.prog 61 #[.slice A0 l0.length c0, .func (.func 62) #[] #[]] w fun e w' => e = .returned (.bool r) ∧ Below w.heap.size w w' := by
 obtain rfl := Option.some.inj h
 have HC := x_m (CF.cf_idx A0 c0 l0 w hr0 hc0)
 have HX := x_m (CF.cfIdx_any l0 0 (Int.le_refl _))
 clear hr0 hc0 h
 generalize CF.cfIdx l0 0 = z at HC HX
 go_enter Tryd.func61, Tryd.ntmps61
 go_wp2_with (refine HC.out.mono ?_; rintro e w' ⟨rfl, hb⟩; have HB := x_m hb; clear hb)
 go_ret
 exact ⟨by rw [← HX.out]; rfl, HB.out⟩

namespace RG
open XCut (pw)
abbrev RgS := S45
abbrev RgR := S55
def rgGo (F : Int → Option (List RgR)) : Nat → Int → Option (List RgR)
 | 0, _ => some []
 | n + 1, d => (F d).bind fun x => (rgGo F n (d + 1)).bind fun y => some (x ++ y)
def rgF : Int → Int → List RgS → Option (List RgR)
 | _, _, [] => none
 | num, head, s :: r =>
  if 0 ≤ s.f0 ∧ s.f0 ≤ 255 ∧ 0 ≤ s.f1 ∧ s.f1 ≤ 255 ∧ 0 ≤ head ∧ head ≤ s.f0 ∧ s.f0 ≤ s.f1 ∧ 0 ≤ num ∧ num ≤ 16777215 ∧ r.length ≤ 3 ∧ (num + (s.f1 - head)) * pw r.length ≤ 16777215 ∧ (num + (s.f1 - head)) * 64 ≤ 1073741823 then
   (if r.any CF.cfNot = true then rgGo (fun d => rgF ((num + d) * 64) 128 r) (s.f1 - s.f0 + 1).toNat (s.f0 - head)
   else some [⟨(num + (s.f0 - head)) * pw r.length, (num + (s.f1 - head)) * pw r.length + pw r.length - 1⟩])
  else none
theorem rg_shl : ∀ k : Nat, k ≤ 3 → ∀ W : World, Sem.run Tryd.prog (Op.shift .shl .i32 1 .i64 (wrap64 (6 * (k : Int)))) W = .ok (.int .i32 (pw k)) W
 | 0, _, _ => by kernel_rfl
 | 1, _, _ => by kernel_rfl
 | 2, _, _ => by kernel_rfl
 | 3, _, _ => by kernel_rfl
 | _ + 4, h, _ => absurd h (by omega)
theorem rg_pw : ∀ k : Nat, k ≤ 3 → 0 < pw k ∧ pw k ≤ 262144
 | 0, _ => by decide
 | 1, _ => by decide
 | 2, _ => by decide
 | 3, _ => by decide
 | _ + 4, h => absurd h (by omega)
theorem w32i {x : Int} (h0 : -2147483648 ≤ x) (h1 : x ≤ 2147483647) : wrap32 x = x := by unfold wrap32; omega
theorem mul_mono {a b m : Int} (hm : 0 < m) (h : a ≤ b) : a * m ≤ b * m := Int.mul_le_mul_of_nonneg_right h (by omega)
theorem mul_pos {a m : Int} (hm : 0 < m) (h : 0 ≤ a) : 0 ≤ a * m := Int.mul_nonneg h (by omega)
theorem tail_reads {W : World} {ad : Addr} {s : RgS} {r : List RgS} (h : Kd.C k45 W (some ad) (s :: r).length (s :: r)) : Kd.C k45 W (some (ad.add 2)) r.length r := by
 refine ⟨rfl, by have := h.2.1; simp only [List.length_cons] at this; omega, fun hp => ⟨_, rfl, fun j p hj => ?_⟩⟩
 obtain ⟨ad1, e1, h3⟩ := h.2.2 (by simp)
 cases e1
 obtain ⟨cs, c1, c2, c3⟩ := h3 (j + 1) p (by simpa using hj)
 refine ⟨cs, c1, c2, fun i u hu => ?_⟩
 have h4 := c3 i u hu
 rw [show k45.sz = 2 from rfl] at h4 ⊢
 have e : (ad.add 2).add (j * 2 + i) = ad.add ((j + 1) * 2 + i) := by
  have e1 : ad.add 2 = (⟨ad.block, ad.off + 2, none⟩ : Addr) := rfl
  have e2 : ad.add ((j + 1) * 2 + i) = (⟨ad.block, ad.off + ((j + 1) * 2 + i), none⟩ : Addr) := by unfold Addr.add; rw [if_neg (by omega)]
  rw [e1, e2]
  unfold Addr.add
  split
  ·congr 1
   omega
  simp only
  congr 1
  omega
 rw [e]
 exact h4
theorem rg_facts (num head sa sb m : Int) (g1 : 0 ≤ sa) (g2 : sa ≤ 255) (g3 : 0 ≤ sb) (g4 : sb ≤ 255) (g5 : 0 ≤ head) (g6 : head ≤ sa) (g7 : sa ≤ sb) (g8 : 0 ≤ num) (g9 : num ≤ 16777215) (m0 : 0 < m) (m1 : m ≤ 262144) (g11 : (num + (sb - head)) * m ≤ 16777215)  :
  (wrap32 sa = sa ∧ wrap32 sb = sb ∧ wrap32 (sa - head) = sa - head ∧ wrap32 (sb - head) = sb - head) ∧ (wrap32 (num + (sa - head)) = num + (sa - head) ∧ wrap32 (num + (sb - head)) = num + (sb - head)) ∧ (wrap32 ((num + (sa - head)) * m) = (num + (sa - head)) * m ∧ wrap32 ((num + (sb - head)) * m) = (num + (sb - head)) * m) ∧ (wrap32 ((num + (sb - head)) * m + m) = (num + (sb - head)) * m + m ∧ wrap32 ((num + (sb - head)) * m + m - 1) = (num + (sb - head)) * m + m - 1) := by
 have z0 : 0 ≤ (num + (sa - head)) * m := mul_pos m0 (by omega)
 have z1 : (num + (sa - head)) * m ≤ (num + (sb - head)) * m := mul_mono m0 (by omega)
 generalize (num + (sa - head)) * m = X at z0 z1
 generalize (num + (sb - head)) * m = Y at z1 g11
 exact ⟨⟨w32i (by omega) (by omega), w32i (by omega) (by omega), w32i (by omega) (by omega), w32i (by omega) (by omega)⟩, ⟨w32i (by omega) (by omega), w32i (by omega) (by omega)⟩, ⟨w32i (by omega) (by omega), w32i (by omega) (by omega)⟩, ⟨w32i (by omega) (by omega), w32i (by omega) (by omega)⟩⟩
theorem rg_loop (num head sa sb d : Int) (g1 : 0 ≤ sa) (g4 : sb ≤ 255) (g5 : 0 ≤ head) (g6 : head ≤ sa) (g8 : 0 ≤ num) (g9 : num ≤ 16777215) (g12 : (num + (sb - head)) * 64 ≤ 1073741823) (d0 : sa - head ≤ d) (d1 : d ≤ sb - head) :
  wrap32 (num + d) = num + d ∧ wrap32 ((num + d) * 64) = (num + d) * 64 ∧ wrap32 (d + 1) = d + 1 :=
 ⟨w32i (by omega) (by omega), w32i (by omega) (by omega), w32i (by omega) (by omega)⟩
theorem rg_pow : ∀ k : Nat, k ≤ 3 → wrap32 (2 ^ (6 * k)) = pw k
 | 0, _ => by kernel_rfl
 | 1, _ => by kernel_rfl
 | 2, _ => by kernel_rfl
 | 3, _ => by kernel_rfl
 | _ + 4, h => absurd h (by omega)
theorem rg_start {sa sb head : Int} (h : sa ≤ sb) : sa - head + (((sb - sa + 1).toNat : Nat) : Int) = sb - head + 1 := by omega
theorem rg_end {d x : Int} (h : d + ((0 : Nat) : Int) = x + 1) : ¬ d ≤ x := by omega
theorem rg_more {d x y : Int} {n : Nat} (_ : y ≤ d) (h : d + ((n + 1 : Nat) : Int) = x + 1) : d ≤ x ∧ True := ⟨by omega, trivial⟩
theorem rg_next {d x y : Int} {n : Nat} (g : y ≤ d) (h : d + ((n + 1 : Nat) : Int) = x + 1) : y ≤ d + 1 ∧ d + 1 + (n : Int) = x + 1 := by omega
theorem rg_meas {d x : Int} (h : d ≤ x) : (x + 1 - (d + 1)).toNat < (x + 1 - d).toNat := by omega
theorem rg_short {acc x y r : List RgR} (h : acc ++ (x ++ y) = r) (hr : r.length < 10000000000000) : (acc ++ x).length < 10000000000000 := by rw [← h] at hr; simp only [List.length_append] at hr ⊢; omega
theorem rg_lim {n : Nat} (h : n < 10000000000000) : (n + 1) * 8 ≤ 140737488355328 := by omega
theorem rg_len {n : Nat} (h : n ≤ 3) : wrap64 (((n + 1 : Nat) : Int) - 1) = (n : Int) := by unfold wrap64; omega
theorem rg_sub {n c : Nat} (h : n + 1 ≤ c) : n ≤ c - 1 := by omega
theorem rg_cap {n c : Nat} (h : n + 1 ≤ c) : ((n + 1 : Nat) : Int) ≤ (c : Int) ∧ (1 : Int) ≤ ((n + 1 : Nat) : Int) := by omega
end RG
def seqs_ranges.f (k : Nat) (l0 : List S55) (a1 a2 : Int) (l3 : List S45) : Option (List S55) := (RG.rgF a1 a2 l3).bind fun ps => if (l0 ++ ps).length < 10000000000000 then some (l0 ++ ps) else none
theorem seqs_ranges.core : ∀ (l3 : List S45) (P0_ : Nat → Prop) (u9000_ : Value) (l0 : List S55) (a1 a2 : Int) (A3 : Option Addr) (c3 : Nat) (r : List S55) (w0 w : World) (hB : Below w0.heap.size w0 w) (ho0 : Kd.R k55 55 w w0.heap.size P0_ u9000_ l0) (hr3 : ∀ W_, Kept w W_ (fun k_ => P0_ k_) → Kd.C k45 W_ A3 l3.length l3) (hc3 : l3.length ≤ c3) (h : seqs_ranges.f 0 l0 a1 a2 l3 = some r),
  Calls Tryd.prog 41 #[u9000_, .int .i32 a1, .int .i32 a2, .slice A3 l3.length c3] w fun e w' => ∃ v0_ : Value, e = .returned (v0_) ∧ Kd.R k55 55 w' w0.heap.size (fun k_ => (P0_ k_ ∨ w.heap.size ≤ k_)) v0_ r ∧ Below w0.heap.size w0 w' ∧ Kept w w' (fun k_ => P0_ k_)
 | [], P0_, u9000_, l0, a1, a2, A3, c3, r, w0, w, hB, ho0, hr3, hc3, h => by
  unfold seqs_ranges.f RG.rgF at h
  cases h
 | s :: t, P0_, u9000_, l0, num, head, A3, c3, r, w0, w, hB, ho0, hr3, hc3, h => by
  unfold seqs_ranges.f at h
  obtain ⟨p, hp, h9⟩ := Option.bind_eq_some_iff.1 h
  split at h9
  case isFalse => cases h9
  case isTrue hl0 =>
  have h8 := Option.some.inj h9
  rw [RG.rgF] at hp
  split at hp
  case isFalse => cases hp
  case isTrue hcond =>
  obtain ⟨g1, g2, g3, g4, g5, g6, g7, g8, g9, g10, g11, g12⟩ := hcond
  have hC := hr3 w (Kept.refl _ _)
  obtain ⟨ad, e3, h0, h1⟩ := SO.at0 hC 0 (by simp)
  subst e3
  simp only [Nat.zero_mul, List.getElem_cons_zero] at h0 h1
  rw [Addr.add_zero'] at h0 h1
  have hlen : (s :: t).length = t.length + 1 := rfl
  obtain ⟨m0, m1⟩ := RG.rg_pw t.length g10
  obtain ⟨sa, sb⟩ := s
  simp only at g1 g2 g3 g4 g6 g7 g11 g12 h0 h1 hp
  have hm := RG.rg_pow t.length g10
  have hsh := RG.rg_shl t.length g10
  obtain ⟨⟨x1, x2, x3, x4⟩, ⟨y1, y2⟩, ⟨y3, y4⟩, ⟨y5, y6⟩⟩ := RG.rg_facts num head sa sb (XCut.pw t.length) g1 g2 g3 g4 g5 g6 g7 g8 g9 m0 m1 g11
  have x5 := RG.rg_len g10
  have HY := x_m (And.intro y1 (And.intro y2 (And.intro y3 (And.intro y4 (And.intro y5 y6)))))
  have HM := x_m hm
  have HLP := x_m (fun d => RG.rg_loop num head sa sb d g1 g4 g5 g6 g8 g9 g12)
  have HSS := x_m g7
  clear y1 y2 y3 y4 y5 y6 hm
  have HCT : ∀ W : World, Kept w W (fun k_ => P0_ k_) → Kd.C k45 W (some (ad.add 2)) t.length t := fun W hk => RG.tail_reads (hr3 W hk)
  obtain ⟨A0, c0, hs0⟩ := Kd.R_slice ho0
  subst hs0
  have HO := x_m ho0
  have HB := x_m hB
  have HT := x_m HCT
  have HL0 := x_m (Nat.lt_of_le_of_lt (by rw [List.length_append]; exact Nat.le_add_right _ _) hl0 : l0.length < 10000000000000)
  have HLA := x_m (show r.length < 10000000000000 by rw [← h8]; exact hl0)
  have HPP := x_m hp
  have HH := x_m h8
  have HG10 := x_m g10
  have hc1 : t.length + 1 ≤ c3 := hc3
  obtain ⟨hc4, hc2⟩ := RG.rg_cap hc1
  clear hC HCT ho0 hB hr3 hc3 hl0 hp h h8 h9 g1 g2 g3 g4 g5 g6 g7 g8 g9 g11 g12 m0 m1
  rw [hlen]
  obtain ⟨q0, hq0⟩ : ∃ q0, q0 = l0.length := ⟨_, rfl⟩
  rw [← hq0] at HO ⊢
  clear hq0
  rcases Nat.decEq c3 1 with hq | hq
  ·have e2 : ad.add 2 = (⟨ad.block, ad.off + 2, none⟩ : Addr) := rfl
   have HCF := fun W hk => slices_ContainsFunc_full.calls (some ⟨ad.block, ad.off + 2, none⟩) (c3 - 1) t _ W (by rw [← e2]; exact HT.out W hk) (RG.rg_sub hc1) rfl
   cases hany : t.any CF.cfNot with
   | false =>
    have HPP2 := HPP.out
    rw [hany, if_neg (by simp)] at HPP2
    obtain rfl := Option.some.inj HPP2
    rw [hany] at HCF
    clear HPP HPP2 hany
    go_enter Tryd.func41, Tryd.ntmps41
    go_wp2_with fail
    go_quiet (fail)
    go_wp2_with fail
    refine (HCF (w.drewN nq) (Kept.of_below (pw_below_drewN (Below.refl _ _) nq) _)).mono ?_
    rintro e w5 ⟨rfl, hb5⟩
    have hbn : Below w.heap.size w w5 := below_step (pw_below_drewN (Below.refl _ _) nq) hb5
    have HO5 : Aside0 (Kd.R k55 55 w5 w0.heap.size (fun k_ => P0_ k_ ∨ w.heap.size ≤ k_) (.slice A0 q0 c0) l0) := ⟨Kd.R_mono (Kd.R_below HO.out hbn) (fun _ h => .inl h)⟩
    have HB5 := x_m (below_step HB.out hbn)
    have HK5 := x_m (Kept.of_below hbn (fun k_ => P0_ k_))
    have HSZ := x_m hbn.size
    have HOB := x_m HO.out.1
    clear hb5 hbn HCF HB HT
    go_wp2_with ((with_reducible refine gate_builtin (b := .append) (xs := #[.tmp 38, .tmp 53]) rfl ?_); at_builtin; refine Kd.R_append k55 (w0 := w0) (W := w5) w0.heap.size rfl (.tmp 38) (.tmp 53) 25 55 (.agg #[.int .i32 0, .int .i32 0]) 8 rfl Tryd.underlying25 (by kernel_rfl) rfl (by decide) (by decide) (.slice A0 q0 c0) l0 ⟨_, _⟩ [.int .i32 _, .int .i32 _] (fun k_ => P0_ k_ ∨ w.heap.size ≤ k_) (fun _ => False) rfl rfl (k55_mkM _ _ _ (⟨_, _⟩ : RG.RgR)) (fun _ h => h.elim) (fun k_ hk => .inr (Nat.le_trans HSZ.out hk)) HO5.out HB5.out HB5.out.size (RG.rg_lim HL0.out) ?_; intro v6 w6 hr6 hb6 hg6 hat6; have HR6 := x_m hr6; have HB6 := x_m hb6; have HK6 := x_m (Kept.of_grown hg6 HK5.out (fun k_ hk => .inl (HOB.out k_ hk))); clear hr6 hb6 hg6 hat6)
    go_ret
    refine ⟨_, rfl, ?_, HB6.out, HK6.out⟩
    have hr6 := HR6.out
    have hh := HH.out
    rw [← hh]
    obtain ⟨y1, y2, y3, y4, y5, y6⟩ := HY.out
    have hm := HM.out
    simp only [hm, x3, x4, y1, y2, y3, y4, y5, y6] at hr6
    exact hr6
   | true =>
    have HPP2 := HPP.out
    rw [hany, if_pos rfl] at HPP2
    have HGO := x_m HPP2
    have HIH := x_m (fun (d : Int) (x acc : List RG.RgR) (v : Value) (W : World) (hk : Kept w W (fun k_ => P0_ k_)) (hbw : Below w0.heap.size w0 W) (hr : Kd.R k55 55 W w0.heap.size (fun k_ => P0_ k_ ∨ w.heap.size ≤ k_) v acc) (hx : RG.rgF ((num + d) * 64) 128 t = some x) (hl : (acc ++ x).length < 10000000000000) => seqs_ranges.core t (fun k_ => P0_ k_ ∨ w.heap.size ≤ k_) v acc ((num + d) * 64) 128 (some ⟨ad.block, ad.off + 2, none⟩) (c3 - 1) (acc ++ x) w0 W hbw hr (fun W2 hk2 => by rw [← e2]; exact HT.out W2 (hk.then_ hk2 (fun k hk => hk))) (RG.rg_sub hc1) (by unfold seqs_ranges.f; rw [hx, Option.bind_some, if_pos hl]))
    rw [hany] at HCF
    clear HPP HPP2 hany
    go_enter Tryd.func41, Tryd.ntmps41
    go_wp2_with fail
    go_quiet (fail)
    go_wp2_with fail
    refine (HCF (w.drewN nq) (Kept.of_below (pw_below_drewN (Below.refl _ _) nq) _)).mono ?_
    rintro e w5 ⟨rfl, hb5⟩
    have hbn : Below w.heap.size w w5 := below_step (pw_below_drewN (Below.refl _ _) nq) hb5
    have HO5 : Aside0 (Kd.R k55 55 w5 w0.heap.size (fun k_ => P0_ k_ ∨ w.heap.size ≤ k_) (.slice A0 q0 c0) l0) := ⟨Kd.R_mono (Kd.R_below HO.out hbn) (fun _ h => .inl h)⟩
    have HB5 := x_m (below_step HB.out hbn)
    have HK5 := x_m (Kept.of_below hbn (fun k_ => P0_ k_))
    clear hb5 hbn HCF HB HT HO
    go_wp2_with fail
    go_loopw [0, 13] (fun v0 v13 wr => ∃ (n : Nat) (d : Int) (acc rest : List RG.RgR), v13 = .int .i32 d ∧ Aside0 (sa - head ≤ d ∧ d + (n : Int) = sb - head + 1) ∧ Aside0 (RG.rgGo (fun d => RG.rgF ((num + d) * 64) 128 t) n d = some rest) ∧ Aside0 (acc ++ rest = r) ∧ Aside0 (Kd.R k55 55 wr w0.heap.size (fun k_ => P0_ k_ ∨ w.heap.size ≤ k_) v0 acc) ∧ Aside0 (Below w0.heap.size w0 wr) ∧ Aside0 (Kept w wr (fun k_ => P0_ k_))) (fun _ v13 _ => (sb - head + 1 - intOf v13).toNat)
    case atStart =>
     exact ⟨_, _, l0, p, rfl, ⟨Int.le_refl _, RG.rg_start HSS.out⟩, HGO, HH, HO5, HB5, HK5⟩
    case round =>
     clear HO5 HB5 HK5 HGO HH
     obtain ⟨n, d, acc, rest, rfl, HD, HG, HE, HR, HB, HK⟩ := hrel
     obtain ⟨A8, c8, hs8⟩ := Kd.R_slice HR.out
     subst hs8
     obtain ⟨q8, hq8⟩ : ∃ q, q = acc.length := ⟨_, rfl⟩
     rw [← hq8] at HR ⊢
     clear hq8
     cases n with
     | zero =>
      have hn : ¬ d ≤ sb - head := RG.rg_end HD.out.2
      have hg := HG.out
      rw [RG.rgGo] at hg
      obtain rfl := Option.some.inj hg
      have he := HE.out
      rw [List.append_nil] at he
      subst he
      clear hg HG HD HE HIH HLP
      go_wp2_with fail
      go_ret
      exact ⟨_, rfl, HR.out, HB.out, HK.out⟩
     | succ n =>
      have hd0 : d ≤ sb - head := (RG.rg_more HD.out.1 HD.out.2).1
      have hg := HG.out
      rw [RG.rgGo] at hg
      obtain ⟨x, hx, hg⟩ := Option.bind_eq_some_iff.1 hg
      obtain ⟨y, hy, hg⟩ := Option.bind_eq_some_iff.1 hg
      obtain rfl := Option.some.inj hg
      obtain ⟨z1, z2, z3⟩ := HLP.out d HD.out.1 hd0
      have HC := x_m (HIH.out d x acc (.slice A8 q8 c8) wr HK.out HB.out HR.out hx (RG.rg_short HE.out HLA.out))
      have HY2 := x_m hy
      have HZ3 := x_m z3
      have HHD := x_m hd0
      clear hx hy hg HG z3 HIH
      go_wp2_with fail
      refine HC.out.mono ?_
      rintro e w7 ⟨v7, rfl, hr7, hb7, hk7⟩
      have HR7 : Aside0 (Kd.R k55 55 w7 w0.heap.size (fun k_ => P0_ k_ ∨ w.heap.size ≤ k_) v7 (acc ++ x)) := ⟨Kd.R_mono hr7 (fun k h => h.elim id (fun h => .inr (Nat.le_trans HK.out.1 h)))⟩
      have HB7 := x_m hb7
      have HK7 := x_m (HK.out.then_ hk7 (fun k hk => hk))
      clear hr7 hb7 hk7 HC HR HB HK
      go_wp2_with fail
      go_roundw
      case measure =>
       show (sb - head + 1 - intOf (.int .i32 (wrap32 (d + 1)))).toNat < (sb - head + 1 - intOf (.int .i32 d)).toNat
       rw [HZ3.out]
       exact RG.rg_meas HHD.out
      case rel =>
       rw [HZ3.out]
       exact ⟨n, d + 1, acc ++ x, y, rfl, ⟨RG.rg_next HD.out.1 HD.out.2⟩, HY2, ⟨by rw [List.append_assoc]; exact HE.out⟩, HR7, HB7, HK7⟩
  clear hsh
  subst hq
  obtain rfl : t = [] := List.length_eq_zero_iff.1 (Nat.le_zero.1 (Nat.le_of_succ_le_succ hc1))
  have HCF := fun W : World => slices_ContainsFunc_full.calls (some ad) 0 [] false W ⟨rfl, by simp, fun h => absurd h (by simp)⟩ (Nat.le_refl _) rfl
  have HPP2 := HPP.out
  rw [if_neg (by simp)] at HPP2
  obtain rfl := Option.some.inj HPP2
  simp only [List.length_nil] at HM HY x5 HH ⊢
  clear HPP HPP2
  go_enter Tryd.func41, Tryd.ntmps41
  go_wp2_with fail
  go_quiet (fail)
  go_wp2_with fail
  refine (HCF _).mono ?_
  rintro e w5 ⟨rfl, hb5⟩
  have hbn : Below w.heap.size w w5 := below_step (pw_below_drewN (Below.refl _ _) nq) hb5
  have HO5 : Aside0 (Kd.R k55 55 w5 w0.heap.size (fun k_ => P0_ k_ ∨ w.heap.size ≤ k_) (.slice A0 q0 c0) l0) := ⟨Kd.R_mono (Kd.R_below HO.out hbn) (fun _ h => .inl h)⟩
  have HB5 := x_m (below_step HB.out hbn)
  have HK5 := x_m (Kept.of_below hbn (fun k_ => P0_ k_))
  have HSZ := x_m hbn.size
  have HOB := x_m HO.out.1
  clear hb5 hbn HCF HB HT
  go_wp2_with ((with_reducible refine gate_builtin (b := .append) (xs := #[.tmp 38, .tmp 53]) rfl ?_); at_builtin; refine Kd.R_append k55 (w0 := w0) (W := w5) w0.heap.size rfl (.tmp 38) (.tmp 53) 25 55 (.agg #[.int .i32 0, .int .i32 0]) 8 rfl Tryd.underlying25 (by kernel_rfl) rfl (by decide) (by decide) (.slice A0 q0 c0) l0 ⟨_, _⟩ [.int .i32 _, .int .i32 _] (fun k_ => P0_ k_ ∨ w.heap.size ≤ k_) (fun _ => False) rfl rfl (k55_mkM _ _ _ (⟨_, _⟩ : RG.RgR)) (fun _ h => h.elim) (fun k_ hk => .inr (Nat.le_trans HSZ.out hk)) HO5.out HB5.out HB5.out.size (RG.rg_lim HL0.out) ?_; intro v6 w6 hr6 hb6 hg6 hat6; have HR6 := x_m hr6; have HB6 := x_m hb6; have HK6 := x_m (Kept.of_grown hg6 HK5.out (fun k_ hk => .inl (HOB.out k_ hk))); clear hr6 hb6 hg6 hat6)
  go_ret
  refine ⟨_, rfl, ?_, HB6.out, HK6.out⟩
  have hr6 := HR6.out
  have hh := HH.out
  rw [← hh]
  obtain ⟨y1, y2, y3, y4, y5, y6⟩ := HY.out
  rw [show XCut.pw 0 = 1 from rfl] at y3 y4 y5 y6 ⊢
  simp only [Int.mul_one] at y3 y4 y5 y6 ⊢
  simp only [x3, x4, y1, y2, y5, y6] at hr6
  exact hr6
theorem seqs_ranges.calls (k : Nat) (P0_ : Nat → Prop) (u9000_ : Value) (l0 : List S55) (a1 a2 : Int) (A3 : Option Addr) (c3 : Nat) (l3 : List S45) (r : List S55) (w0 w : World) (hB : Below w0.heap.size w0 w) (ho0 : Kd.R k55 55 w w0.heap.size P0_ u9000_ l0) (hr3 : ∀ W_, Kept w W_ (fun k_ => P0_ k_) → Kd.C k45 W_ A3 l3.length l3) (hc3 : l3.length ≤ c3) (h : seqs_ranges.f k l0 a1 a2 l3 = some r) :
  Calls Tryd.prog 41 #[u9000_, .int .i32 a1, .int .i32 a2, .slice A3 l3.length c3] w fun e w' => ∃ v0_ : Value, e = .returned (v0_) ∧ Kd.R k55 55 w' w0.heap.size (fun k_ => (P0_ k_ ∨ w.heap.size ≤ k_)) v0_ r ∧ Below w0.heap.size w0 w' ∧ Kept w w' (fun k_ => P0_ k_) :=
 seqs_ranges.core l3 P0_ u9000_ l0 a1 a2 A3 c3 r w0 w hB ho0 hr3 hc3 h

namespace SortLo
abbrev SlR := S55
instance : Inhabited SlR := ⟨⟨0, 0⟩⟩
def encR (x : SlR) : List Value := [.int .i32 x.f0, .int .i32 x.f1]
def cfLo (x y : SlR) : Int := Lib.compareInt x.f0 y.f0
theorem ltLo (x y : SlR) : ltOf cfLo x y = decide (x.f0 < y.f0) := by
 unfold ltOf cfLo Lib.compareInt
 by_cases h1 : x.f0 < y.f0
 ·simp [h1]
 by_cases h2 : y.f0 < x.f0 <;> simp [h1, h2]
theorem swoLo : Go.Sort.SWO (ltOf cfLo) where
 irrefl x := by rw [ltLo]; simp
 trans x y z h1 h2 := by rw [ltLo] at *; simp at *; omega
 ntrans x y z h1 h2 := by rw [ltLo] at *; simp at *; omega
def sortLo (l : List SlR) : List SlR := (Go.Sort.pdq (ltOf cfLo) l.toArray 0 l.toArray.size (Lib.bitLen l.toArray.size) true true).toList
theorem sortLo_ok (l : List SlR) : (sortLo l).Perm l ∧ (sortLo l).Pairwise (fun x y => x.f0 ≤ y.f0) := by
 have h := Go.Sort.pdq_sorts (ltOf cfLo) swoLo l.toArray 0 l.toArray.size (Lib.bitLen l.toArray.size) true true (Nat.zero_le _) (Nat.le_refl _) (Or.inl rfl)
 obtain ⟨⟨h1, _, h3⟩, h4⟩ := h
 unfold sortLo
 generalize Go.Sort.pdq (ltOf cfLo) l.toArray 0 l.toArray.size (Lib.bitLen l.toArray.size) true true = d at *
 refine ⟨?_, ?_⟩
 ·have e1 : (d.extract 0 l.toArray.size).toList = d.toList := by rw [← h1]; simp
  have e2 : (l.toArray.extract 0 l.toArray.size).toList = l := by simp
  rw [e1, e2] at h3
  exact h3
 rw [List.pairwise_iff_getElem]
 intro i j hi hj hij
 have h5 := h4 i j (Nat.zero_le _) hij (by rw [← h1]; simpa using hj)
 rw [ltLo, decide_eq_false_iff_not, getElem!_pos d i (by simpa using hi), getElem!_pos d j (by simpa using hj)] at h5
 simpa using h5
theorem isNaN32 (x : Int) (w : World) : Calls Tryd.prog 65 #[.int .i32 x] w fun e w' => e = .returned (.bool false) ∧ w' = w := by
 go_enter Tryd.func65, Tryd.ntmps65
 go_wp2
 go_ret
 exact ⟨by simp, rfl⟩
theorem compare32 (x y : Int) (w : World) : Calls Tryd.prog 44 #[.int .i32 x, .int .i32 y] w fun e w' => e = .returned (.int .i64 (Lib.compareInt x y)) ∧ w' = w := by
 have hc : Lib.compareInt x y = if x < y then -1 else if y < x then 1 else 0 := by
  unfold Lib.compareInt
  by_cases h1 : x < y
  ·simp [h1]
  by_cases h2 : y < x <;> simp [h1, h2]
 have HC := x_m hc
 clear hc
 rcases Int.lt_trichotomy x y with h | h | h
 ·have h1 : (Lib.compareInt x y) = -1 := by rw [HC.out, if_pos h]
  have H1 := x_m h1
  clear h1 HC
  go_enter Tryd.func44, Tryd.ntmps44
  go_wp2_with (go_at_call 65; refine (isNaN32 _ _).mono ?_; rintro e w' ⟨rfl, rfl⟩)
  go_ret
  exact ⟨by rw [H1.out]; rfl, rfl⟩
 ·subst h
  have h1 : (Lib.compareInt x x) = 0 := by rw [HC.out, if_neg (by omega), if_neg (by omega)]
  have H1 := x_m h1
  have h2 : ¬ x < x := by omega
  clear h1 HC
  go_enter Tryd.func44, Tryd.ntmps44
  go_wp2_with (go_at_call 65; refine (isNaN32 _ _).mono ?_; rintro e w' ⟨rfl, rfl⟩)
  go_ret
  exact ⟨by rw [H1.out]; rfl, rfl⟩
 have h1 : (Lib.compareInt x y) = 1 := by rw [HC.out, if_neg (by omega), if_pos h]
 have H1 := x_m h1
 have h2 : ¬ x < y := by omega
 clear h1 HC
 go_enter Tryd.func44, Tryd.ntmps44
 go_wp2_with (go_at_call 65; refine (isNaN32 _ _).mono ?_; rintro e w' ⟨rfl, rfl⟩)
 go_ret
 exact ⟨by rw [H1.out]; rfl, rfl⟩
theorem closure (x y : SlR) (W : World) : Calls Tryd.prog 66 #[.agg #[.int .i32 x.f0, .int .i32 x.f1], .agg #[.int .i32 y.f0, .int .i32 y.f1]] W fun e w' => e = .returned (.int .i64 (cfLo x y)) ∧ ∃ q os', w' = Go.Sort.grow (W.drewN q) os' := by
 have hcon := fun W' => compare32 x.f0 y.f0 W'
 unfold cfLo
 generalize Lib.compareInt x.f0 y.f0 = r at hcon ⊢
 go_enter Tryd.func66, Tryd.ntmps66
 go_wp2_with (go_at_call 44; refine (hcon _).mono ?_; rintro e w' ⟨rfl, rfl⟩)
 go_ret
 exact ⟨rfl, 0, _, by rw [Go.Sort.alloc_eq_grow, Go.Sort.alloc_eq_grow, Go.Sort.grow_grow]; rfl⟩
theorem heap_sorted {w : World} {g n : Nat} {os : Array Obj} {cur : Array Value} {e : TypeId} {fr : Nat × Nat} (d : Array SlR) (hb : w.heap[g]? = some (.cells cur e fr)) :
  (sortWorldK encR 2 w g 0 n d os).heap[g]? = some (.cells (Go.Sort.putCells id 0 (Go.Sort.flatK encR 2 d) cur) e fr) := by
 have hg : g < w.heap.size := (Array.getElem?_eq_some_iff.1 hb).1
 unfold sortWorldK Go.Sort.putRowK
 rw [Go.Sort.heap_grow_old _ _ (by simpa using hg)]
 simp [Go.Sort.putRow, Go.Sort.mapBlock, Go.Sort.ahead, Array.getElem?_modify, hb, Go.Sort.onCells]
theorem grownBy_sorted {w : World} {g n : Nat} {os : Array Obj} (d : Array SlR) : w.grownBy (sortWorldK encR 2 w g 0 n d os) (some g) := by
 unfold sortWorldK Go.Sort.putRowK
 refine ⟨rfl, rfl, rfl, by simp, fun k hk hne => ?_⟩
 rw [Go.Sort.heap_grow_old _ _ (by simpa using hk)]
 have : g ≠ k := fun e => hne (by rw [e])
 simp [Go.Sort.putRow, Go.Sort.mapBlock, Go.Sort.ahead, Array.getElem?_modify, this]
theorem take_put (cur : Array Value) (F : Array Value) (h : F.size ≤ cur.size) : (Go.Sort.putCells id 0 F cur).toList.take F.size = F.toList := by
 apply List.ext_getElem?
 intro j
 by_cases hj : j < F.size
 ·rw [List.getElem?_take_of_lt hj, Array.getElem?_toList]
  simp [Go.Sort.putCells, hj, show j < cur.size by omega]
 rw [List.getElem?_take_eq_none (by omega), List.getElem?_eq_none (by simp; omega)]
theorem encR_len (x : SlR) : (encR x).length = 2 := rfl
theorem encR_one (x : SlR) (v : Value) (hv : v ∈ encR x) : v.oneCell' = true := by
 simp only [encR, List.mem_cons, List.not_mem_nil, or_false] at hv
 rcases hv with rfl | rfl <;> rfl
theorem flat_get (d : Array SlR) (j : Nat) (hj : j < d.size) : ((Go.Sort.flatK encR 2 d).toList.drop (j * 2)).take 2 = encR d[j] := by
 apply List.ext_getElem?
 intro c
 by_cases hc : c < 2
 ·have h1 : j * 2 + c < d.size * 2 := by omega
  rw [List.getElem?_take_of_lt hc, List.getElem?_drop, Array.getElem?_toList, Array.getElem?_eq_getElem (by simpa using h1)]
  have h2 := Go.Sort.get_flatK encR 2 d (j * 2 + c) h1
  rw [show (j * 2 + c) / 2 = j by omega, show (j * 2 + c) % 2 = c by omega, getElem!_pos _ _ (by simpa using h1), getElem!_pos d j hj, getElem!_pos (encR d[j]) c (by rw [encR_len]; exact hc)] at h2
  rw [h2, List.getElem?_eq_getElem (by rw [encR_len]; exact hc)]
 rw [List.getElem?_take_eq_none (by omega), List.getElem?_eq_none (by rw [encR_len]; omega)]
theorem reps_flat (w : World) (base : Nat) (ok : Nat → Prop) (d : Array SlR) : Reps (k55.M w base ok) 2 d.toList (Go.Sort.flatK encR 2 d).toList := by
 refine ⟨by simp, fun j p hj => ?_⟩
 obtain ⟨hjl, hp⟩ := List.getElem?_eq_some_iff.1 hj
 rw [flat_get d j (by simpa using hjl), show d[j]'(by simpa using hjl) = p by simpa using hp]
 exact k55_mkM _ _ _ p
theorem cells_of_reps {w : World} {base : Nat} {ok : Nat → Prop} {l : List SlR} {inner : List Value} (h : Reps (k55.M w base ok) 2 l inner) : (Go.Sort.flatK encR 2 l.toArray).toList = inner := by
 apply List.ext_getElem?
 intro t
 by_cases ht : t < l.length * 2
 ·have hj : t / 2 < l.length := by omega
  have h1 := k55_openM (h.2 (t / 2) l[t / 2] (List.getElem?_eq_getElem hj))
  have h2 : inner[t]? = (encR l[t / 2])[t % 2]? := by
   have h3 := congrArg (fun q => q[t % 2]?) h1
   rw [List.getElem?_take_of_lt (by omega), List.getElem?_drop, show t / 2 * 2 + t % 2 = t by omega] at h3
   exact h3
  rw [h2, Array.getElem?_toList, Array.getElem?_eq_getElem (by simpa using ht)]
  have h4 := Go.Sort.get_flatK encR 2 l.toArray t (by simpa using ht)
  rw [getElem!_pos _ _ (by simpa using ht), getElem!_pos l.toArray (t / 2) (by simpa using hj), getElem!_pos (encR _) (t % 2) (by rw [encR_len]; omega)] at h4
  rw [h4, List.getElem?_eq_getElem (by rw [encR_len]; omega)]
  simp
 rw [List.getElem?_eq_none (by simp; omega), List.getElem?_eq_none (by rw [h.1]; omega)]
end SortLo
def slices_SortFunc_lo.f (l0 : List S55) : Option (List S55) := if l0.length < 4611686018427387904 then some (SortLo.sortLo l0) else none
theorem slices_SortFunc_lo.calls (P0_ : Nat → Prop) (u9000_ : Value) (l0 : List S55) (r : List S55) (w0 w : World) (hB : Below w0.heap.size w0 w) (ho0 : Kd.R k55 55 w w0.heap.size P0_ u9000_ l0) (h : slices_SortFunc_lo.f l0 = some r) :
  Calls Tryd.prog 42 #[u9000_, .func (.func 66) #[] #[]] w fun e w' => e = .returned (.tuple #[]) ∧ Kd.R k55 55 w' w0.heap.size (fun k_ => (P0_ k_ ∨ w.heap.size ≤ k_)) u9000_ r ∧ Below w0.heap.size w0 w' ∧ Kept w w' (fun k_ => P0_ k_) := by
 unfold slices_SortFunc_lo.f at h
 split at h
 case isFalse => cases h
 case isTrue hsz =>
 injection h with h
 subst h
 have hperm := SortLo.sortLo_ok l0
 obtain ⟨h0, inner, ho, hr⟩ := ho0
 rcases XLib.own_cases ho with ⟨hv, hn⟩ | ⟨g, cap, hv, hgb, hglt, hnc, hcm, cur, hh, hcs, ht⟩
 ·obtain rfl : l0 = [] := List.length_eq_zero_iff.1 hn
  subst hv
  have hr0 : SortLo.sortLo [] = [] := List.length_eq_zero_iff.1 (by rw [hperm.1.length_eq]; rfl)
  rw [hr0]
  refine (AnyF.slices_SortFunc_none { Tryd.sortf42 with } none 0 _ w).mono ?_
  rintro e w' ⟨rfl, rfl⟩
  exact ⟨rfl, Kd.R_nil _ _ _ _ _, hB, Kept.refl _ _⟩
 subst hv
 rw [show k55.sz = 2 from rfl] at ht hcs hr ho
 have hF := SortLo.cells_of_reps hr
 have hl2 : (Go.Sort.flatK SortLo.encR 2 l0.toArray).size = l0.length * 2 := by simp
 have hH : Go.Sort.HoldsK SortLo.encR 2 w g 0 l0.toArray := by
  intro t ht2
  rw [hl2] at ht2
  have h1 : (cur.toList.take (l0.length * 2))[t]? = inner[t]? := by rw [ht]
  rw [List.getElem?_take_of_lt ht2, ← hF, Array.getElem?_toList, Array.getElem?_toList] at h1
  refine ⟨?_, by simp [World.frozen?, hh]⟩
  rw [Nat.zero_add, cell_of_row w g t cur _ (0, 0) hh, h1, Array.getElem?_eq_getElem (by rw [hl2]; exact ht2), getElem!_pos _ _ (by rw [hl2]; exact ht2)]
  rfl
 have eg : ∀ args w, (callFunc 66 args).run Tryd.prog w = .ok (.enter 66 args) w := enters_of Tryd.func66 (by kernel_rfl) rfl
 have hcon := AnyQ.slices_SortFunc_eq Tryd.sortf42 2 Tryd.isAgg55 Tryd.sizeOf55 SortLo.encR SortLo.encR_len SortLo.encR_one SortLo.cfLo SortLo.swoLo 66 #[] g 0 cap l0.toArray w eg (fun _ _ _ _ x y => SortLo.closure x y _) hH hglt (by simpa using hsz)
 have hcon2 : Calls Tryd.prog 42 #[.slice (some ⟨g, 0, none⟩) l0.length cap, .func (.func 66) #[] #[]] w _ := hcon
 refine hcon2.mono ?_
 rintro e w' ⟨rfl, n, os, rfl⟩
 have hdl : (SortLo.sortLo l0).length = l0.length := hperm.1.length_eq
 have hg := SortLo.grownBy_sorted (w := w) (g := g) (n := n) (os := os) (SortLo.sortLo l0).toArray
 have hfs : (Go.Sort.flatK SortLo.encR 2 (SortLo.sortLo l0).toArray).size = l0.length * 2 := by simp [hdl]
 have hst : (SortLo.sortLo l0).toArray = Go.Sort.pdq (ltOf SortLo.cfLo) l0.toArray 0 l0.toArray.size (Lib.bitLen l0.toArray.size) true true := by unfold SortLo.sortLo; simp
 rw [← hst]
 refine ⟨rfl, ⟨fun k hk => .inl (h0 k hk), (Go.Sort.flatK SortLo.encR 2 (SortLo.sortLo l0).toArray).toList, ?_, ?_⟩, ?_, ?_⟩
 ·rw [show k55.sz = 2 from rfl]
  refine ⟨by simp [hdl], .inr ⟨g, cap, _, by rw [hdl], hgb, SortLo.heap_sorted _ hh, by rw [hdl]; exact hnc, hcm, by simp [Go.Sort.putCells, hcs], ?_⟩⟩
  rw [hdl, ← hfs]
  exact SortLo.take_put _ _ (by rw [hfs, hcs]; exact Nat.mul_le_mul_right _ hnc)
 ·have := SortLo.reps_flat (sortWorldK SortLo.encR 2 w g 0 n (SortLo.sortLo l0).toArray os) w0.heap.size (fun k => (P0_ k ∨ w.heap.size ≤ k) ∧ some k ≠ (Value.slice (some ⟨g, 0, none⟩) l0.length cap).ownBlock) (SortLo.sortLo l0).toArray
  rw [show k55.sz = 2 from rfl]
  simpa using this
 ·exact ⟨hg.os.trans hB.os, hg.tape.trans hB.tape, hg.output.trans hB.output, Nat.le_trans hB.size hg.size, fun k hk => (hg.block k (Nat.lt_of_lt_of_le hk hB.size) (fun e => by injection e with e; omega)).trans (hB.block k hk)⟩
 exact ⟨hg.size, fun k hk hn => hg.block k hk (fun e => by injection e with e; subst e; exact hn (h0 _ rfl))⟩

namespace SortLo
theorem closureAll (x y : SlR) (W : World) : Calls Tryd.prog 43 #[.agg #[.int .i32 x.f0, .int .i32 x.f1], .agg #[.int .i32 y.f0, .int .i32 y.f1]] W fun e w' => e = .returned (.int .i64 (cfLo x y)) ∧ ∃ q os', w' = Go.Sort.grow (W.drewN q) os' := by
 have hcon := fun W' => compare32 x.f0 y.f0 W'
 unfold cfLo
 generalize Lib.compareInt x.f0 y.f0 = r at hcon ⊢
 go_enter Tryd.func43, Tryd.ntmps43
 go_wp2_with (go_at_call 44; refine (hcon _).mono ?_; rintro e w' ⟨rfl, rfl⟩)
 go_ret
 exact ⟨rfl, 0, _, by rw [Go.Sort.alloc_eq_grow, Go.Sort.alloc_eq_grow, Go.Sort.grow_grow]; rfl⟩
end SortLo
def slices_SortFunc_all.f (l0 : List S55) : Option (List S55) := if l0.length < 4611686018427387904 then some (SortLo.sortLo l0) else none
theorem slices_SortFunc_all.calls (P0_ : Nat → Prop) (u9000_ : Value) (l0 : List S55) (r : List S55) (w0 w : World) (hB : Below w0.heap.size w0 w) (ho0 : Kd.R k55 55 w w0.heap.size P0_ u9000_ l0) (h : slices_SortFunc_all.f l0 = some r) :
  Calls Tryd.prog 42 #[u9000_, .func (.func 43) #[] #[]] w fun e w' => e = .returned (.tuple #[]) ∧ Kd.R k55 55 w' w0.heap.size (fun k_ => (P0_ k_ ∨ w.heap.size ≤ k_)) u9000_ r ∧ Below w0.heap.size w0 w' ∧ Kept w w' (fun k_ => P0_ k_) := by
 unfold slices_SortFunc_all.f at h
 split at h
 case isFalse => cases h
 case isTrue hsz =>
 injection h with h
 subst h
 have hperm := SortLo.sortLo_ok l0
 obtain ⟨h0, inner, ho, hr⟩ := ho0
 rcases XLib.own_cases ho with ⟨hv, hn⟩ | ⟨g, cap, hv, hgb, hglt, hnc, hcm, cur, hh, hcs, ht⟩
 ·obtain rfl : l0 = [] := List.length_eq_zero_iff.1 hn
  subst hv
  have hr0 : SortLo.sortLo [] = [] := List.length_eq_zero_iff.1 (by rw [hperm.1.length_eq]; rfl)
  rw [hr0]
  refine (AnyF.slices_SortFunc_none { Tryd.sortf42 with } none 0 _ w).mono ?_
  rintro e w' ⟨rfl, rfl⟩
  exact ⟨rfl, Kd.R_nil _ _ _ _ _, hB, Kept.refl _ _⟩
 subst hv
 rw [show k55.sz = 2 from rfl] at ht hcs hr ho
 have hF := SortLo.cells_of_reps hr
 have hl2 : (Go.Sort.flatK SortLo.encR 2 l0.toArray).size = l0.length * 2 := by simp
 have hH : Go.Sort.HoldsK SortLo.encR 2 w g 0 l0.toArray := by
  intro t ht2
  rw [hl2] at ht2
  have h1 : (cur.toList.take (l0.length * 2))[t]? = inner[t]? := by rw [ht]
  rw [List.getElem?_take_of_lt ht2, ← hF, Array.getElem?_toList, Array.getElem?_toList] at h1
  refine ⟨?_, by simp [World.frozen?, hh]⟩
  rw [Nat.zero_add, cell_of_row w g t cur _ (0, 0) hh, h1, Array.getElem?_eq_getElem (by rw [hl2]; exact ht2), getElem!_pos _ _ (by rw [hl2]; exact ht2)]
  rfl
 have eg : ∀ args w, (callFunc 43 args).run Tryd.prog w = .ok (.enter 43 args) w := enters_of Tryd.func43 (by kernel_rfl) rfl
 have hcon := AnyQ.slices_SortFunc_eq Tryd.sortf42 2 Tryd.isAgg55 Tryd.sizeOf55 SortLo.encR SortLo.encR_len SortLo.encR_one SortLo.cfLo SortLo.swoLo 43 #[] g 0 cap l0.toArray w eg (fun _ _ _ _ x y => SortLo.closureAll x y _) hH hglt (by simpa using hsz)
 have hcon2 : Calls Tryd.prog 42 #[.slice (some ⟨g, 0, none⟩) l0.length cap, .func (.func 43) #[] #[]] w _ := hcon
 refine hcon2.mono ?_
 rintro e w' ⟨rfl, n, os, rfl⟩
 have hdl : (SortLo.sortLo l0).length = l0.length := hperm.1.length_eq
 have hg := SortLo.grownBy_sorted (w := w) (g := g) (n := n) (os := os) (SortLo.sortLo l0).toArray
 have hfs : (Go.Sort.flatK SortLo.encR 2 (SortLo.sortLo l0).toArray).size = l0.length * 2 := by simp [hdl]
 have hst : (SortLo.sortLo l0).toArray = Go.Sort.pdq (ltOf SortLo.cfLo) l0.toArray 0 l0.toArray.size (Lib.bitLen l0.toArray.size) true true := by unfold SortLo.sortLo; simp
 rw [← hst]
 refine ⟨rfl, ⟨fun k hk => .inl (h0 k hk), (Go.Sort.flatK SortLo.encR 2 (SortLo.sortLo l0).toArray).toList, ?_, ?_⟩, ?_, ?_⟩
 ·rw [show k55.sz = 2 from rfl]
  refine ⟨by simp [hdl], .inr ⟨g, cap, _, by rw [hdl], hgb, SortLo.heap_sorted _ hh, by rw [hdl]; exact hnc, hcm, by simp [Go.Sort.putCells, hcs], ?_⟩⟩
  rw [hdl, ← hfs]
  exact SortLo.take_put _ _ (by rw [hfs, hcs]; exact Nat.mul_le_mul_right _ hnc)
 ·have := SortLo.reps_flat (sortWorldK SortLo.encR 2 w g 0 n (SortLo.sortLo l0).toArray os) w0.heap.size (fun k => (P0_ k ∨ w.heap.size ≤ k) ∧ some k ≠ (Value.slice (some ⟨g, 0, none⟩) l0.length cap).ownBlock) (SortLo.sortLo l0).toArray
  rw [show k55.sz = 2 from rfl]
  simpa using this
 ·exact ⟨hg.os.trans hB.os, hg.tape.trans hB.tape, hg.output.trans hB.output, Nat.le_trans hB.size hg.size, fun k hk => (hg.block k (Nat.lt_of_lt_of_le hk hB.size) (fun e => by injection e with e; omega)).trans (hB.block k hk)⟩
 exact ⟨hg.size, fun k hk hn => hg.block k hk (fun e => by injection e with e; subst e; exact hn (h0 _ rfl))⟩

def seqs_all.hd (i : Int) : Int := if i = 0 then 0 else if i = 1 then 192 else if i = 2 then 224 else if i = 3 then 240 else -1
theorem seqs_all.hd_ok {i : Int} (h : 0 ≤ seqs_all.hd i) : 0 ≤ i ∧ i < 4 := by
 unfold seqs_all.hd at h
 repeat' (split at h)
 all_goals omega
theorem seqs_all.hd_cell {w : World} (hG : GOK w) {i : Int} (h : 0 ≤ i ∧ i < 4) : w.cell? ⟨1, i.toNat, none⟩ = some (.int .i32 (seqs_all.hd i)) := by
 obtain rfl | rfl | rfl | rfl : i = 0 ∨ i = 1 ∨ i = 2 ∨ i = 3 := by omega
 ·exact hG.seqs_heads 0 _ rfl
 ·exact hG.seqs_heads 1 _ rfl
 ·exact hG.seqs_heads 2 _ rfl
 exact hG.seqs_heads 3 _ rfl
theorem seqs_ranges.head_nn {k : Nat} {l0 r : List S55} {n head : Int} {l3 : List S45} (h : seqs_ranges.f k l0 n head l3 = some r) : 0 ≤ head := by
 unfold seqs_ranges.f at h
 obtain ⟨ps, hp, -⟩ := Option.bind_eq_some_iff.1 h
 cases l3 with
 | nil => unfold RG.rgF at hp; cases hp
 | cons s t =>
  rw [RG.rgF] at hp
  split at hp
  case isFalse => cases hp
  case isTrue hc => exact hc.2.2.2.2.1
mutual
def seqs_all.l0 : Nat → List (S55) → List (List (S45)) → Int → Int → Option ((List (S55)) × Int)
 | 0, _, _, _, _ => none
 | k + 1, x4, x8, x9, x10 => if x10 < x9 then (if 0 ≤ x10 then (if x10 < (x8.length : Int) then ((seqs_sound.f k (rd_L5 x8 x10)).bind fun t341 => (if t341 = true then ((seqs_ranges.f k x4 0 (seqs_all.hd (wrap64 (((rd_L5 x8 x10).length : Int) - 1))) (rd_L5 x8 x10)).bind fun t342 => (seqs_all.l0 k t342 x8 x9 (wrap64 (x10 + 1)))) else (some (([] : List (S55)), 1)))) else (none)) else (none)) else ((slices_SortFunc_all.f x4).bind fun t345 => (seqs_all.l1 k t345 (x4.length : Int) 0))
def seqs_all.l1 : Nat → List (S55) → Int → Int → Option ((List (S55)) × Int)
 | 0, _, _, _ => none
 | k + 1, x4, x29, x30 => if x30 < x29 then (if x30 > 0 then (if 0 ≤ x30 then (if x30 < (x4.length : Int) then (if 0 ≤ (wrap64 (x30 - 1)) then (if (wrap64 (x30 - 1)) < (x4.length : Int) then (if ((rd_T55 x4 x30).f0) ≤ ((rd_T55 x4 (wrap64 (x30 - 1))).f1) then (some (([] : List (S55)), 1)) else (seqs_all.l1 k x4 x29 (wrap64 (x30 + 1)))) else (none)) else (none)) else (none)) else (none)) else (seqs_all.l1 k x4 x29 (wrap64 (x30 + 1)))) else (some (x4, 0))
end
def seqs_all.f (k : Nat) (l0 : List (List (S45))) : Option ((List (S55)) × Int) := seqs_all.l0 k ([] : List (S55)) l0 (l0.length : Int) 0
theorem seqs_all.calls (k : Nat) (A0 : Option Addr) (c0 : Nat) (l0 : List (List (S45))) (r1 : List (S55)) (r2 : Int) (w : World) (hr0 : Kd.C (Kd.slice 45 k45) w A0 l0.length l0) (hc0 : l0.length ≤ c0) (h : seqs_all.f k l0 = some (r1, r2)) (hG : GOK w := by first | (with_reducible exact HG_.out) | exact GOK.below HG_.out (by repeat (first | (with_reducible exact Below.refl _ _) | (with_reducible first | exact HB.out | apply below_alloc | apply pw_below_drewN | apply below_drew1 | refine below_set ?_ (Aside0.out (by assumption))) | exact HB.out)) | exact GOK.drewN HG_.out _ | exact GOK.drewN (GOK.drewN HG_.out _) _ | exact GOK.drew HG_.out) :
  Calls Tryd.prog 26 #[.slice A0 l0.length c0] w fun e w' => ∃ v0_ : Value, e = .returned (.tuple #[v0_, .int .i64 r2]) ∧ Kd.R k55 55 w' w.heap.size (fun _ => True) v0_ r1 ∧ Below w.heap.size w w' := by
 have HG_ := x_m hG
 clear hG
 have HR0 := x_m hr0
 have HC0 := x_m hc0
 clear hr0 hc0
 have HB := x_m (Below.refl w.heap.size w)
 have H : (seqs_all.l0 k ([] : List (S55)) l0 (l0.length : Int) 0) = some (r1, r2) := h
 clear h
 have H' := x_m H
 clear H
 go_enter Tryd.func26, Tryd.ntmps26
 go_wp2
 repeat (go_quiet (fail); try go_wp2)
 go_loopg [4, 10] k (fun kq v4 v10 w' => ∃ (x4_1 : List (S55)) (x10_1 : Int), v10 = .int .i64 x10_1 ∧ Aside0 (seqs_all.l0 kq x4_1 l0 (l0.length : Int) x10_1 = some (r1, r2)) ∧ Aside0 (kq ≤ k) ∧ Aside0 (Kd.R k55 55 w' w.heap.size (fun _ => True) v4 x4_1) ∧ Aside0 (Below w.heap.size w w'))
 case atStart => exact ⟨(([] : List (S55))), (0), x_eqs, H', ⟨Nat.le_refl _⟩, ⟨by first | exact Kd.R_nil _ _ _ _ _ | exact Kd.N_nil _ _ _ _ _ | exact Kd.V_nil _ _ _ _ _ | exact Kd.Q_nil _ _ _ _ _ | exact Kd.S_nil _ _ _ _ _⟩, ⟨x_bel⟩⟩
 case round =>
  clear H'
  obtain ⟨x4_1, x10_1, rfl, HA, HK1, HO_4, HB⟩ := hrel
  cases gk with
  | zero => exact absurd HA.out (by simp [seqs_all.l0])
  | succ k1 =>
   have H := HA.out
   clear HA
   simp only [seqs_all.l0] at H
   rcases x_if H with ⟨c2b0, H⟩ | ⟨c2b0, H⟩
   ·by_cases c3 : 0 ≤ x10_1
    ·rw [if_pos c3] at H
     have c3b0 := decide_eq_true c3
     clear c3
     obtain ⟨c4b0, H⟩ := x_gd H
     replace H := x_bi H
     obtain ⟨t341, A50, H⟩ := H
     have A5 := x_m A50
     clear A50
     by_cases c6 : t341 = true
     rotate_left
     ·replace c6 := Bool.eq_false_iff.mpr c6
      subst c6
      replace H : (some (([] : List (S55)), 1)) = some (r1, r2) := by rw [if_neg (show ¬ (false = true) by decide)] at H; exact H
      simp only [Option.some.injEq, Prod.mk.injEq] at H
      obtain ⟨rfl, rfl⟩ := H
      have p340 : 0 ≤ (x10_1 : Int) := x_da
      have q340 : x10_1 < (l0.length : Int) := x_da
      obtain ⟨ad340, A340_0, c340_0, e340, hx340_0, hl340_0, hi340_0⟩ := at_L5 HR0.out x10_1 p340 q340
      cases e340
      replace hx340_0 := x_tr HB.out hx340_0
      have HR340_0 := x_m hi340_0
      have HC340_0 := x_m hl340_0
      clear hi340_0 hl340_0
      replace p340 := eq_true p340
      replace q340 := eq_true q340
      go_wp2_with (first | (go_at_call 40; (with_reducible refine (seqs_sound.calls k1 _ _ (rd_L5 l0 x10_1) false _ ?side1 ?side2 A5.out).mono ?_); (case side1 => exact x_cc (Kd.C_below HR340_0.out HB.out)); (case side2 => exact HC340_0.out); rintro e w11 ⟨rfl, hb⟩; replace HO_4 := x_m (Kd.R_below (x_rr HO_4.out) hb); replace HB := x_m (below_step x_bel hb); (try clear hb); (try clear hb2); (try clear hk); (try clear hi)))
      go_ret2
      exact ⟨_, by first | rfl | (simp [errW_none, errW_some] <;> rfl) | (simp [*, errW_none, errW_some] <;> rfl), by first | exact Kd.R_nil _ _ _ _ _ | exact Kd.N_nil _ _ _ _ _ | exact Kd.V_nil _ _ _ _ _ | exact Kd.Q_nil _ _ _ _ _ | exact Kd.S_nil _ _ _ _ _, x_bel⟩
     subst c6
     replace H : ((seqs_ranges.f k1 x4_1 0 (seqs_all.hd (wrap64 (((rd_L5 l0 x10_1).length : Int) - 1))) (rd_L5 l0 x10_1)).bind fun t342 => (seqs_all.l0 k1 t342 l0 (l0.length : Int) (wrap64 (x10_1 + 1)))) = some (r1, r2) := by rw [if_pos rfl] at H; exact H
     replace H := x_bi H
     obtain ⟨t342, A70, H⟩ := H
     have A7 := x_m A70
     clear A70
     have HHD := x_m (seqs_all.hd_ok (seqs_ranges.head_nn A7.out))
     obtain ⟨jh, hjh⟩ : ∃ j_ : Int, wrap64 (((rd_L5 l0 x10_1).length : Int) - 1) = j_ := ⟨_, rfl⟩
     rw [hjh] at A7 HHD
     have hjhw : IntKind.i64.wrap (((rd_L5 l0 x10_1).length : Int) - 1) = jh := (i64_w _).trans hjh
     have pjh := eq_true HHD.out.1
     have qjh := eq_true HHD.out.2
     have H' := x_m H
     clear H
     have p340 : 0 ≤ (x10_1 : Int) := x_da
     have q340 : x10_1 < (l0.length : Int) := x_da
     obtain ⟨ad340, A340_0, c340_0, e340, hx340_0, hl340_0, hi340_0⟩ := at_L5 HR0.out x10_1 p340 q340
     cases e340
     replace hx340_0 := x_tr HB.out hx340_0
     have HR340_0 := x_m hi340_0
     have HC340_0 := x_m hl340_0
     clear hi340_0 hl340_0
     replace p340 := eq_true p340
     replace q340 := eq_true q340
     go_wp2_with (first | (go_at_call 40; (with_reducible refine (seqs_sound.calls k1 _ _ (rd_L5 l0 x10_1) true _ ?side1 ?side2 A5.out).mono ?_); (case side1 => exact x_cc (Kd.C_below HR340_0.out HB.out)); (case side2 => exact HC340_0.out); rintro e w8 ⟨rfl, hb⟩; replace HO_4 := x_m (Kd.R_below (x_rr HO_4.out) hb); replace HB := x_m (below_step x_bel hb); (try clear hb); (try clear hb2); (try clear hk); (try clear hi); have hxh := seqs_all.hd_cell (HG_.out.below HB.out) HHD.out; obtain ⟨Ao9, co9, eo9⟩ := Kd.R_slice HO_4.out; subst eo9) | (go_at_call 41; (with_reducible refine (seqs_ranges.calls k1 (fun k_ => some k_ = (.slice Ao9 x4_1.length co9 : Value).ownBlock) (.slice Ao9 x4_1.length co9) x4_1 0 (seqs_all.hd jh) _ _ (rd_L5 l0 x10_1) t342 w _ ?side1 ?side2 ?side3 ?side4 A7.out).mono ?_); (case side1 => repeat (first | (with_reducible first | exact HB.out | apply below_alloc | apply pw_below_drewN | apply below_drew1) | exact HB.out)); (case side2 => exact Kd.R_tight rfl HO_4.out); (case side3 => exact Kd.C_kept_came k45_heap HR340_0.out x_bel (fun k_ hs_ => (fun e_ => Kd.R_base HO_4.out k_ e_.symm) hs_)); (case side4 => exact HC340_0.out); rintro e w10 ⟨v343, rfl, ho0, hb, hkp⟩; have HO344 := x_m (Kd.R_mono (ok' := fun k_ => True) ho0 (fun k_ hk_ => trivial)); replace HB := x_m (hb); clear HO_4; (try clear hb); (try clear hkp); (try clear ho0)))
     go_roundg k1
     case measure => have := HK1.out; omega
     case rel => exact ⟨(t342), (wrap64 (x10_1 + 1)), x_eqs, H', ⟨by have := HK1.out; omega⟩, ⟨x_rr HO344.out⟩, ⟨x_bel⟩⟩
    rw [if_neg c3] at H
    exact absurd H (by simp)
   replace H := x_bi H
   obtain ⟨t345, A120, H⟩ := H
   have A12 := x_m A120
   clear A120
   have H' := x_m H
   clear H
   obtain ⟨Ao13, co13, eo13⟩ := Kd.R_slice HO_4.out
   subst eo13
   go_wp2_with (first | (go_at_call 42; (with_reducible refine (slices_SortFunc_all.calls (fun k_ => some k_ = (.slice Ao13 x4_1.length co13 : Value).ownBlock) (.slice Ao13 x4_1.length co13) x4_1 t345 w _ ?side1 ?side2 A12.out).mono ?_); (case side1 => repeat (first | (with_reducible first | exact HB.out | apply below_alloc | apply pw_below_drewN | apply below_drew1) | exact HB.out)); (case side2 => exact Kd.R_tight rfl HO_4.out); rintro e w14 ⟨rfl, hy0, hb, hkp⟩; replace HO_4 := x_m (Kd.R_reok rfl hy0 (fun k_ e_ => HO_4.out.1 k_ e_)); replace HB := x_m (hb); (try clear hb); (try clear hkp); (try clear hy0)))
   go_loopg [30] k1 (fun kq v30 w' => ∃ (x30_2 : Int), v30 = .int .i64 x30_2 ∧ Aside0 (seqs_all.l1 kq t345 (x4_1.length : Int) x30_2 = some (r1, r2)) ∧ Aside0 (kq ≤ k1) ∧ Aside0 (Kd.R k55 55 w' w.heap.size (fun _ => True) (.slice Ao13 x4_1.length co13) t345) ∧ Aside0 (Below w.heap.size w w'))
   case atStart => exact ⟨(0), x_eqs, H', ⟨Nat.le_refl _⟩, ⟨x_rr HO_4.out⟩, ⟨x_bel⟩⟩
   case round =>
    clear H'
    obtain ⟨x30_2, rfl, HA, HK2, HO_4, HB⟩ := hrel
    have hl4_2 := (Kd.R_reads' HO_4.out).1
    rw [hl4_2] at HO_4
    (try simp only [hl4_2])
    cases gk with
    | zero => exact absurd HA.out (by simp [seqs_all.l1])
    | succ k2 =>
     have H := HA.out
     clear HA
     simp only [seqs_all.l1] at H
     by_cases c15 : x30_2 < (x4_1.length : Int)
     rotate_left
     ·rw [if_neg c15] at H
      have c15b0 := decide_eq_false c15
      rw [hl4_2] at c15b0
      clear c15
      simp only [Option.some.injEq, Prod.mk.injEq] at H
      obtain ⟨rfl, rfl⟩ := H
      go_wp2
      repeat (go_quiet (fail); try go_wp2)
      go_ret2
      exact ⟨_, by first | rfl | (simp [errW_none, errW_some] <;> rfl) | (simp [*, errW_none, errW_some] <;> rfl), by (with_reducible repeat (first | apply Kd.R_alloc | apply Kd.R_drewN | apply Kd.R_drew)); exact HO_4.out, x_bel⟩

     rw [if_pos c15] at H
     have c15b0 := decide_eq_true c15
     rw [hl4_2] at c15b0
     clear c15
     rcases x_fi H with ⟨c16b0, H⟩ | ⟨c16b0, H⟩
     ·have H' := x_m H
      clear H
      go_wp2
      repeat (go_quiet (fail); try go_wp2)
      (try simp only [← hl4_2])
      go_roundg k2
      case measure => have := HK1.out; have := HK2.out; omega
      case rel => exact ⟨(wrap64 (x30_2 + 1)), x_eqs, H', ⟨by have := HK1.out; have := HK2.out; omega⟩, ⟨by (try simp only [hl4_2]); (with_reducible repeat (first | apply Kd.R_alloc | apply Kd.R_drewN | apply Kd.R_drew)); exact HO_4.out⟩, ⟨x_bel⟩⟩
     obtain ⟨c17b0, H⟩ := x_gd H
     obtain ⟨c18b0, H⟩ := x_gd H
     obtain ⟨ji19, hji19⟩ : ∃ j_ : Int, (wrap64 (x30_2 - 1)) = j_ := ⟨_, rfl⟩
     replace H : (if 0 ≤ (ji19) then (if (ji19) < (t345.length : Int) then (if ((rd_T55 t345 x30_2).f0) ≤ ((rd_T55 t345 (ji19)).f1) then (some (([] : List (S55)), 1)) else (seqs_all.l1 k2 t345 (x4_1.length : Int) (wrap64 (x30_2 + 1)))) else (none)) else (none)) = some (r1, r2) := by first | (rw [hji19] at H; exact H) | (simp only [hji19] at H ⊢; exact H)
     have hji19w : (IntKind.i64.wrap (x30_2 - 1)) = ji19 := (i64_w _).trans hji19
     obtain ⟨c20b0, H⟩ := x_gd H
     obtain ⟨c21b0, H⟩ := x_gd H
     rcases x_if H with ⟨c22b0, H⟩ | ⟨c22b0, H⟩
     ·simp only [Option.some.injEq, Prod.mk.injEq] at H
      obtain ⟨rfl, rfl⟩ := H
      have p346 : 0 ≤ (x30_2 : Int) := x_da
      have q346 : x30_2 < (t345.length : Int) := x_da
      obtain ⟨ad346, e346, hx346_0, hx346_1⟩ := at_T55 (Kd.R_reads' HO_4.out).2.2 x30_2 p346 q346
      cases e346
      replace p346 := eq_true p346
      replace q346 := eq_true q346
      have p347 : 0 ≤ ((ji19) : Int) := x_da
      have q347 : (ji19) < (t345.length : Int) := x_da
      obtain ⟨ad347, e347, hx347_0, hx347_1⟩ := at_T55 (Kd.R_reads' HO_4.out).2.2 (ji19) p347 q347
      obtain rfl : ad346 = ad347 := (by injection e347)
      replace p347 := eq_true p347
      replace q347 := eq_true q347
      go_wp2
      repeat (go_quiet (fail); try go_wp2)
      go_ret2
      exact ⟨_, by first | rfl | (simp [errW_none, errW_some] <;> rfl) | (simp only [← hji19]; first | rfl | (simp [errW_none, errW_some] <;> rfl)) | (simp [*, errW_none, errW_some] <;> rfl), by first | exact Kd.R_nil _ _ _ _ _ | exact Kd.N_nil _ _ _ _ _ | exact Kd.V_nil _ _ _ _ _ | exact Kd.Q_nil _ _ _ _ _ | exact Kd.S_nil _ _ _ _ _, x_bel⟩
     have H' := x_m H
     clear H
     have p346 : 0 ≤ (x30_2 : Int) := x_da
     have q346 : x30_2 < (t345.length : Int) := x_da
     obtain ⟨ad346, e346, hx346_0, hx346_1⟩ := at_T55 (Kd.R_reads' HO_4.out).2.2 x30_2 p346 q346
     cases e346
     replace p346 := eq_true p346
     replace q346 := eq_true q346
     have p347 : 0 ≤ ((ji19) : Int) := x_da
     have q347 : (ji19) < (t345.length : Int) := x_da
     obtain ⟨ad347, e347, hx347_0, hx347_1⟩ := at_T55 (Kd.R_reads' HO_4.out).2.2 (ji19) p347 q347
     obtain rfl : ad346 = ad347 := (by injection e347)
     replace p347 := eq_true p347
     replace q347 := eq_true q347
     go_wp2
     repeat (go_quiet (fail); try go_wp2)
     (try simp only [← hl4_2])
     go_roundg k2
     case measure => have := HK1.out; have := HK2.out; omega
     case rel => exact ⟨(wrap64 (x30_2 + 1)), x_eqs, H', ⟨by have := HK1.out; have := HK2.out; omega⟩, ⟨by (try simp only [hl4_2]); (with_reducible repeat (first | apply Kd.R_alloc | apply Kd.R_drewN | apply Kd.R_drew)); exact HO_4.out⟩, ⟨x_bel⟩⟩

def sets_gather.l0 : Nat → List (S55) → List (S55) → Int → Int → Option ((List (S55)))
 | 0, _, _, _, _ => none
 | k + 1, x3, x9, x10, x11 => if x11 < x10 then (if 0 ≤ x11 then (if x11 < (x9.length : Int) then (if (x3.length : Int) > 0 then (if 0 ≤ (wrap64 ((x3.length : Int) - 1)) then (if (wrap64 ((x3.length : Int) - 1)) < (x3.length : Int) then (if ((rd_T55 x9 x11).f0) ≤ (wrap32 (((rd_T55 x3 (wrap64 ((x3.length : Int) - 1))).f1) + 1)) then (sets_gather.l0 k (x3.set ((wrap64 ((x3.length : Int) - 1)) : Int).toNat (⟨(rd_T55 x3 (wrap64 ((x3.length : Int) - 1))).f0, mx ((rd_T55 x3 (wrap64 ((x3.length : Int) - 1))).f1) ((rd_T55 x9 x11).f1)⟩ : S55)) x9 x10 (wrap64 (x11 + 1))) else (if x3.length < 17592186044416 then (sets_gather.l0 k (x3 ++ [(⟨(rd_T55 x9 x11).f0, (rd_T55 x9 x11).f1⟩ : S55)]) x9 x10 (wrap64 (x11 + 1))) else (none))) else (none)) else (none)) else (if x3.length < 17592186044416 then (sets_gather.l0 k (x3 ++ [(⟨(rd_T55 x9 x11).f0, (rd_T55 x9 x11).f1⟩ : S55)]) x9 x10 (wrap64 (x11 + 1))) else (none))) else (none)) else (none)) else (some x3)
def sets_gather.f (k : Nat) (l0 : List (S55)) : Option ((List (S55))) := (slices_SortFunc_lo.f l0).bind fun s => sets_gather.l0 k ([] : List (S55)) s (s.length : Int) 0
def sets_gather.T7 : Bool × List (List Nat × List Nat) := (true, [([], []), ([0], [0]), ([1], [1]), ([2], [2]), ([3, 2], [2, 3]), ([2], [2]), ([2], [2]), ([6, 2], [2, 6]), ([5, 7, 2], [2, 5, 7]), ([8, 2], [2, 8]), ([9, 2], [2, 9]), ([10, 2], [2, 10]), ([4, 11, 2], [2, 4, 11]), ([2, 12], [2, 12])])
def sets_gather.B7 : List Nat := [0, 1, 3, 7, 15, 7, 7, 71, 231, 487, 999, 2023, 4095, 8191]
theorem sets_gather.tab7 : rtab .any (opsOf Tryd.f45 7) = sets_gather.T7 := by kernel_rfl
theorem sets_gather.bits7 : waitsOk sets_gather.T7.2 sets_gather.B7 = true := by kernel_rfl
def sets_gather.T8 : Bool × List (List Nat × List Nat) := (true, [([], []), ([], []), ([1], [1]), ([], []), ([], []), ([4], [4]), ([3, 5], [3, 5]), ([6], [6]), ([7], [7]), ([], []), ([9], [9]), ([8, 10], [8, 10]), ([0, 2, 0, 1, 2, 3, 4, 5, 6, 7, 8, 9, 10, 11], [0, 2]), ([12, 0, 1, 2, 3, 4, 5, 6, 7, 8, 9, 10, 11], [12]), ([13, 11, 0, 1, 2, 3, 4, 5, 6, 7, 8, 9, 10, 11], [11, 13])])
def sets_gather.B8 : List Nat := [0, 0, 2, 0, 0, 16, 56, 120, 248, 0, 512, 2040, 4095, 8191, 16383]
theorem sets_gather.tab8 : rtab .any (opsOf Tryd.f45 8) = sets_gather.T8 := by kernel_rfl
theorem sets_gather.bits8 : waitsOk sets_gather.T8.2 sets_gather.B8 = true := by kernel_rfl
def sets_gather.Post (P0_ : Nat → Prop) (w0 w00 : World) (r : List S55) (e : Ending) (w' : World) : Prop := ∃ w : World, (Below w0.heap.size w0 w ∧ Kept w00 w P0_) ∧ ∃ v0_ : Value, e = .returned (v0_) ∧ Kd.R k55 55 w' w.heap.size (fun _ => True) v0_ r ∧ Below w.heap.size w w'
theorem sets_gather.core (k : Nat) (P0_ : Nat → Prop) (A0 : Option Addr) (c0 : Nat) (z0 l0 r : List S55) (w0 w00 : World) (hB0 : Below w0.heap.size w0 w00) (ho0 : Kd.R k55 55 w00 w0.heap.size P0_ (.slice A0 l0.length c0) z0) (hs : slices_SortFunc_lo.f z0 = some l0) (h : sets_gather.l0 k ([] : List S55) l0 (l0.length : Int) 0 = some r) :
  Calls Tryd.prog 45 #[.slice A0 l0.length c0] w00 fun e w' => sets_gather.Post P0_ w0 w00 r e w' := by
 have hu55 := Tryd.underlying55
 have HS := x_m (slices_SortFunc_lo.calls P0_ (.slice A0 l0.length c0) z0 l0 w0 w00 hB0 ho0 hs)
 have H' := x_m h
 clear h hs ho0 hB0
 go_enter Tryd.func45, Tryd.ntmps45
 go_wp2_with fail
 refine HS.out.mono ?_
 rintro e w ⟨rfl, hR, hb, hk⟩
 obtain ⟨_, hc0, hC⟩ := Kd.R_reads' hR
 have HR0 := x_m hC
 have HC0 := x_m hc0
 have HBW := x_m hb
 have HKW := x_m hk
 have HB := x_m (Below.refl w.heap.size w)
 clear HS hR hb hk hC hc0
 go_wp2_with fail
 go_loopg [3, 11] k (fun kq v3 v11 w' => ∃ (x3_1 : List (S55)) (x11_1 : Int), v11 = .int .i64 x11_1 ∧ Aside0 (sets_gather.l0 kq x3_1 l0 (l0.length : Int) x11_1 = some r) ∧ Aside0 (kq ≤ k) ∧ Aside0 (Kd.R k55 55 w' w.heap.size (fun _ => True) v3 x3_1) ∧ Aside0 (Below w.heap.size w w'))
 case atStart => exact ⟨(([] : List (S55))), (0), x_eqs, H', ⟨Nat.le_refl _⟩, ⟨by first | exact Kd.R_nil _ _ _ _ _ | exact Kd.N_nil _ _ _ _ _ | exact Kd.V_nil _ _ _ _ _ | exact Kd.Q_nil _ _ _ _ _ | exact Kd.S_nil _ _ _ _ _⟩, ⟨x_bel⟩⟩
 case round =>
  clear H'
  obtain ⟨x3_1, x11_1, rfl, HA, HK1, HO_3, HB⟩ := hrel
  cases gk with
  | zero => exact absurd HA.out (by simp [sets_gather.l0])
  | succ k1 =>
   have H := HA.out
   clear HA
   simp only [sets_gather.l0] at H
   rcases x_fi H with ⟨c2b0, H⟩ | ⟨c2b0, H⟩
   ·obtain rfl := Option.some.inj H
    go_wp2
    go_ret
    refine ⟨w, ⟨HBW.out, HKW.out⟩, ?_⟩
    exact ⟨_, by first | rfl | (simp [errW_none, errW_some] <;> rfl) | (simp [*, errW_none, errW_some] <;> rfl), by (with_reducible repeat (first | apply Kd.R_alloc | apply Kd.R_drewN | apply Kd.R_drew)); exact HO_3.out, x_bel⟩
   obtain ⟨c3b0, H⟩ := x_gd H
   obtain ⟨c4b0, H⟩ := x_gd H
   by_cases c5 : (x3_1.length : Int) > 0
   rotate_left
   ·rw [if_neg c5] at H
    have c5b0 := decide_eq_false c5
    have c5b1 : decide (0 < x3_1.length) = false := decide_eq_false (by omega)
    clear c5
    obtain ⟨c27, H⟩ := x_gp H
    have LMc27 := x_m c27
    clear c27
    obtain ⟨y371, hy371⟩ : ∃ y_ : List (S55), y_ = (x3_1 ++ [(⟨(rd_T55 l0 x11_1).f0, (rd_T55 l0 x11_1).f1⟩ : S55)]) := ⟨_, rfl⟩
    replace H : (sets_gather.l0 k1 y371 l0 (l0.length : Int) (wrap64 (x11_1 + 1))) = some r := x_hh hy371 H
    have Ny371 := x_m hy371
    clear hy371
    have H' := x_m H
    clear H
    have p363 : 0 ≤ (x11_1 : Int) := x_da
    have q363 : x11_1 < (l0.length : Int) := x_da
    obtain ⟨ad363, e363, hx363_0, hx363_1⟩ := at_T55 HR0.out x11_1 p363 q363
    cases e363
    replace hx363_0 := x_tr HB.out hx363_0
    replace hx363_1 := x_tr HB.out hx363_1
    replace p363 := eq_true p363
    replace q363 := eq_true q363
    try go_wp2_with (first | ((with_reducible refine gate_dst (N := 5) rfl ?_); refine box_event ?hg (N := 5) ?hd (cs := #[.int .i32 0, .int .i32 0]) (t := 55) ?hr ?_; (case hd => rfl); (case hg => rfl); (case hr => first | (go_simp; done) | (go_simp; rfl)); intro gb364 hg w28 hbox hb; have n0_ := x_m (Kd.R_below (Kd.R_elderB (x_rr HO_3.out) gb364 (Nat.le_of_eq hg.symm)) hb); have n1_ := x_m (below_step x_bel hb); have n2_ := x_m (hbox); have n3_ := x_m (x_gs hg (below_size x_bel) : w.heap.size ≤ gb364); have n4_ := x_m (x_gs hg (below_size x_bel) : w.heap.size ≤ gb364); clear HO_3; clear HB; have HO_3 := n0_; have HB := n1_; have BK364 := n2_; have GW364 := n3_; have GE364 := n4_; clear n0_ n1_ n2_ n3_ n4_; clear hb hbox hg; have hcz29_0 := x_cz BK364.out 0 rfl; have hcz29_1 := x_cz BK364.out 1 rfl; have hfz29_0 := blk_frozen BK364.out 0; have hfz29_1 := blk_frozen BK364.out 1; obtain ⟨Ao30, co30, eo30⟩ := Kd.R_slice HO_3.out; subst eo30))
    have n0_ : Aside0 (Kd.R k55 55 ((w28.setCell ⟨gb364, 0, none⟩ (.int .i32 ((rd_T55 l0 x11_1).f0))).setCell ⟨gb364, 1, none⟩ (.int .i32 ((rd_T55 l0 x11_1).f1))) w.heap.size (fun k_ => k_ ≠ gb364) (.slice Ao30 x3_1.length co30) x3_1) := ⟨by (with_reducible repeat (first | apply Kd.R_alloc | apply Kd.R_drewN | apply Kd.R_drew)); exact Kd.R_mono (Kd.R_far (p := ⟨gb364, 1, none⟩) (Kd.R_far (p := ⟨gb364, 0, none⟩) (Kd.R_mono HO_3.out (fun k_ hk => (⟨hk, hk.2⟩ : _ ∧ k_ ≠ gb364))) (fun _ hk => hk.2) (.int .i32 ((rd_T55 l0 x11_1).f0))) (fun _ hk => hk.2) (.int .i32 ((rd_T55 l0 x11_1).f1))) (fun _ hk => hk.1.2)⟩
    have n1_ : Aside0 (((w28.setCell ⟨gb364, 0, none⟩ (.int .i32 ((rd_T55 l0 x11_1).f0))).setCell ⟨gb364, 1, none⟩ (.int .i32 ((rd_T55 l0 x11_1).f1))).heap[gb364]? = some (.cells #[.int .i32 ((rd_T55 l0 x11_1).f0), .int .i32 ((rd_T55 l0 x11_1).f1)] 55 (0, 0))) := ⟨by (with_reducible repeat (first | refine blk_drewN ?_ _ | refine blk_drew ?_ | refine blk_alloc ?_ _)); refine blk_put (cs := #[.int .i32 ((rd_T55 l0 x11_1).f0), .int .i32 0]) ?_ 1 _ rfl; (with_reducible repeat (first | refine blk_drewN ?_ _ | refine blk_drew ?_ | refine blk_alloc ?_ _)); refine blk_put (cs := #[.int .i32 0, .int .i32 0]) ?_ 0 _ rfl; (with_reducible repeat (first | refine blk_drewN ?_ _ | refine blk_drew ?_ | refine blk_alloc ?_ _)); exact BK364.out⟩
    have n2_ : Aside0 (Below w.heap.size w ((w28.setCell ⟨gb364, 0, none⟩ (.int .i32 ((rd_T55 l0 x11_1).f0))).setCell ⟨gb364, 1, none⟩ (.int .i32 ((rd_T55 l0 x11_1).f1)))) := ⟨by repeat (first | (with_reducible first | exact HB.out | apply below_alloc | apply pw_below_drewN | apply below_drew1 | refine below_set ?_ GE364.out) | exact HB.out)⟩
    (try clear HO_3)
    (try clear BK364)
    (try clear HB)
    generalize ((w28.setCell ⟨gb364, 0, none⟩ (.int .i32 ((rd_T55 l0 x11_1).f0))).setCell ⟨gb364, 1, none⟩ (.int .i32 ((rd_T55 l0 x11_1).f1))) = w31 at n0_ n1_ n2_ ⊢
    have HO_3 := n0_
    have BK364 := n1_
    have HB := n2_
    clear n0_ n1_ n2_
    have n0_ := x_m (Kd.R_drew HO_3.out)
    have n1_ := x_m (blk_drew BK364.out)
    have n2_ := x_m (below_drew1 HB.out)
    clear HO_3
    clear BK364
    clear HB
    have HO_3 := n0_
    have BK364 := n1_
    have HB := n2_
    clear n0_ n1_ n2_
    refine start_ (n := 14) (S := fun w' => True) (ds := []) #[i,i,i,i,i,i,i,i,i,i,i,i,i,i] (by kernel_rfl) rfl rfl trivial (fun hHeld => ?_); refine with_tabW sets_gather.tab7 sets_gather.bits7 (fun HT_ HW_ => ?_)
    generalize w31.drew = w32 at HO_3 BK364 HB hHeld ⊢
    refine pure_ (i := 0) (N := some 17) (v := ?_) (a' := ?_) #[o,i,i,i,i,i,i,i,i,i,i,i,i,i] rfl rfl (any_of HT_.out (by kernel_rfl)) (fun _ _ _ h => h) (Or.inl ⟨by rfl, ?_⟩) ?_ ?_
    rotate_left
    ·intro w'
     go_simp
     with_reducible rfl
    rotate_left
    ·exact x_put
    refine pure_ (i := 1) (N := some 18) (v := ?_) (a' := ?_) #[o,o,i,i,i,i,i,i,i,i,i,i,i,i] rfl rfl (any_of HT_.out (by kernel_rfl)) (fun _ _ _ h => h) (Or.inl ⟨by rfl, ?_⟩) ?_ ?_
    rotate_left
    ·intro w'
     go_simp
     with_reducible rfl
    rotate_left
    ·exact x_put
    refine pure_ (i := 2) (N := some 19) (v := ?_) (a' := ?_) #[o,o,o,i,i,i,i,i,i,i,i,i,i,i] rfl rfl (any_of HT_.out (by kernel_rfl)) (fun _ _ _ h => h) (Or.inl ⟨by rfl, ?_⟩) ?_ ?_
    rotate_left
    ·intro w'
     go_simp
     with_reducible rfl
    rotate_left
    ·exact x_put
    refine pure_ (i := 3) (N := some 20) (v := undef) (a' := ?_) #[o,o,o,o,i,i,i,i,i,i,i,i,i,i] rfl rfl (any_of HT_.out (by kernel_rfl)) (fun _ _ _ h => h) (Or.inr ⟨by rfl, rfl⟩) ?_ ?_
    rotate_left
    ·exact x_put
    refine pure_ (i := 4) (N := some 21) (v := undef) (a' := ?_) #[o,o,o,o,o,i,i,i,i,i,i,i,i,i] rfl rfl (any_of HT_.out (by kernel_rfl)) (fun _ _ _ h => h) (Or.inr ⟨by rfl, rfl⟩) ?_ ?_
    rotate_left
    ·exact x_put
    refine pure_ (i := 5) (N := some 22) (v := undef) (a' := ?_) #[o,o,o,o,o,o,i,i,i,i,i,i,i,i] rfl rfl (any_of HT_.out (by kernel_rfl)) (fun _ _ _ h => h) (Or.inr ⟨by rfl, rfl⟩) ?_ ?_
    rotate_left
    ·exact x_put
    refine pure_ (i := 6) (N := some 23) (v := undef) (a' := ?_) #[o,o,o,o,o,o,o,i,i,i,i,i,i,i] rfl rfl (any_of HT_.out (by kernel_rfl)) (fun _ _ _ h => h) (Or.inr ⟨by rfl, rfl⟩) ?_ ?_
    rotate_left
    ·exact x_put
    refine pure_ (i := 7) (N := some 24) (v := undef) (a' := ?_) #[o,o,o,o,o,o,o,o,i,i,i,i,i,i] rfl rfl (any_of HT_.out (by kernel_rfl)) (fun _ _ _ h => h) (Or.inr ⟨by rfl, rfl⟩) ?_ ?_
    rotate_left
    ·exact x_put
    refine pure_ (i := 8) (N := some 25) (v := undef) (a' := ?_) #[o,o,o,o,o,o,o,o,o,i,i,i,i,i] rfl rfl (any_of HT_.out (by kernel_rfl)) (fun _ _ _ h => h) (Or.inr ⟨by rfl, rfl⟩) ?_ ?_
    rotate_left
    ·exact x_put
    refine pure_ (i := 9) (N := some 26) (v := undef) (a' := ?_) #[o,o,o,o,o,o,o,o,o,o,i,i,i,i] rfl rfl (any_of HT_.out (by kernel_rfl)) (fun _ _ _ h => h) (Or.inr ⟨by rfl, rfl⟩) ?_ ?_
    rotate_left
    ·exact x_put
    refine pure_ (i := 10) (N := some 27) (v := undef) (a' := ?_) #[o,o,o,o,o,o,o,o,o,o,o,i,i,i] rfl rfl (any_of HT_.out (by kernel_rfl)) (fun _ _ _ h => h) (Or.inr ⟨by rfl, rfl⟩) ?_ ?_
    rotate_left
    ·exact x_put
    refine pure_ (i := 11) (N := some 28) (v := undef) (a' := ?_) #[o,o,o,o,o,o,o,o,o,o,o,o,i,i] rfl rfl (any_of HT_.out (by kernel_rfl)) (fun _ _ _ h => h) (Or.inr ⟨by rfl, rfl⟩) ?_ ?_
    rotate_left
    ·exact x_put
    refine pure_ (i := 12) (N := some 29) (v := undef) (a' := ?_) #[o,o,o,o,o,o,o,o,o,o,o,o,o,i] rfl rfl (any_of HT_.out (by kernel_rfl)) (fun _ _ _ h => h) (Or.inr ⟨by rfl, rfl⟩) ?_ ?_
    rotate_left
    ·exact x_put
    refine pure_ (i := 13) (N := some 30) (v := ?_) (a' := ?_) #[o,o,o,o,o,o,o,o,o,o,o,o,o,o] rfl rfl (any_of HT_.out (by kernel_rfl)) (fun _ _ _ h => h) (Or.inl ⟨by rfl, ?_⟩) ?_ ?_
    rotate_left
    ·intro w'
     go_simp
     with_reducible rfl
    rotate_left
    ·exact x_put
    refine done_ (done_of HT_.out (by kernel_rfl)) ?_
    have hcz33_0 := x_cz BK364.out 0 rfl
    have hcz33_1 := x_cz BK364.out 1 rfl
    have hfz33_0 := blk_frozen BK364.out 0
    have hfz33_1 := blk_frozen BK364.out 1
    try go_wp2_with (first | ((with_reducible refine gate_builtin (b := .append) (xs := #[.tmp 45, .tmp 47]) rfl ?_); at_builtin; refine Kd.R_append k55 (w0 := w) w.heap.size rfl (.tmp 45) (.tmp 47) 25 55 (.agg #[(.int .i32 0), (.int .i32 0)]) 8 rfl Tryd.underlying25 info55 rfl (by decide) (by omega) (.slice Ao30 x3_1.length co30) x3_1 (⟨(rd_T55 l0 x11_1).f0, (rd_T55 l0 x11_1).f1⟩ : S55) [.int .i32 ((rd_T55 l0 x11_1).f0), .int .i32 ((rd_T55 l0 x11_1).f1)] (fun k_ => k_ ≠ gb364) (fun _ => False) rfl rfl ?aP (fun _ hk => hk.elim) ?aF ?aO ?aB ?aS ?aL ?_; (case aP => exact k55_mkM _ _ _ (⟨(rd_T55 l0 x11_1).f0, (rd_T55 l0 x11_1).f1⟩ : S55)); (case aB => exact x_bels); (case aF => exact (fun k_ hk => Kd.freshB (g := gb364) (o := .cells #[.int .i32 ((rd_T55 l0 x11_1).f0), .int .i32 ((rd_T55 l0 x11_1).f1)] 55 (0, 0)) (x_bk BK364.out) k_ hk)); (case aO => exact (x_rr HO_3.out)); (case aS => exact (below_size x_bels)); (case aL => have := LMc27.out; omega); intro v372 w34 ho hb hg hat; rw [← Ny371.out] at ho; have n0_ := x_m (blk_grown (g := gb364) (o := .cells #[.int .i32 ((rd_T55 l0 x11_1).f0), .int .i32 ((rd_T55 l0 x11_1).f1)] 55 (0, 0)) (x_bk BK364.out) hg (Kd.R_away HO_3.out (fun _ hk => hk))); have n1_ := x_m (hb); have n2_ := x_m (ho); clear BK364; clear HB; clear HO_3; have BK364 := n0_; have HB := n1_; have HO373 := n2_; clear n0_ n1_ n2_; clear ho hb hg hat))
    go_roundg k1
    case measure => have := HK1.out; omega
    case rel => exact ⟨(y371), (wrap64 (x11_1 + 1)), x_eqs, H', ⟨by have := HK1.out; omega⟩, ⟨by (with_reducible repeat (first | apply Kd.R_alloc | apply Kd.R_drewN | apply Kd.R_drew)); exact Kd.R_mono HO373.out (fun _ hk => trivial)⟩, ⟨by repeat (first | (with_reducible first | exact HB.out | apply below_alloc | apply pw_below_drewN | apply below_drew1 | refine below_set ?_ GE364.out) | exact HB.out)⟩⟩
   rw [if_pos c5] at H
   have c5b0 := decide_eq_true c5
   have c5b1 : decide (0 < x3_1.length) = true := decide_eq_true (by omega)
   clear c5
   obtain ⟨ji6, hji6⟩ : ∃ j_ : Int, (wrap64 ((x3_1.length : Int) - 1)) = j_ := ⟨_, rfl⟩
   replace H : (if 0 ≤ (ji6) then (if (ji6) < (x3_1.length : Int) then (if ((rd_T55 l0 x11_1).f0) ≤ (wrap32 (((rd_T55 x3_1 (ji6)).f1) + 1)) then (sets_gather.l0 k1 (x3_1.set ((ji6) : Int).toNat (⟨(rd_T55 x3_1 (ji6)).f0, mx ((rd_T55 x3_1 (ji6)).f1) ((rd_T55 l0 x11_1).f1)⟩ : S55)) l0 (l0.length : Int) (wrap64 (x11_1 + 1))) else (if x3_1.length < 17592186044416 then (sets_gather.l0 k1 (x3_1 ++ [(⟨(rd_T55 l0 x11_1).f0, (rd_T55 l0 x11_1).f1⟩ : S55)]) l0 (l0.length : Int) (wrap64 (x11_1 + 1))) else (none))) else (none)) else (none)) = some r := by first | (rw [hji6] at H; exact H) | (simp only [hji6] at H ⊢; exact H)
   have hji6w : (IntKind.i64.wrap ((x3_1.length : Int) - 1)) = ji6 := (i64_w _).trans hji6
   obtain ⟨c7b0, H⟩ := x_gd H
   obtain ⟨c8b0, H⟩ := x_gd H
   rcases x_fi H with ⟨c9b0, H⟩ | ⟨c9b0, H⟩
   ·by_cases c19 : x3_1.length < 17592186044416
    ·rw [if_pos c19] at H
     have LMc19 := x_m c19
     clear c19
     obtain ⟨y368, hy368⟩ : ∃ y_ : List (S55), y_ = (x3_1 ++ [(⟨(rd_T55 l0 x11_1).f0, (rd_T55 l0 x11_1).f1⟩ : S55)]) := ⟨_, rfl⟩
     replace H : (sets_gather.l0 k1 y368 l0 (l0.length : Int) (wrap64 (x11_1 + 1))) = some r := x_hh hy368 H
     have Ny368 := x_m hy368
     clear hy368
     have H' := x_m H
     clear H
     have p363 : 0 ≤ (x11_1 : Int) := x_da
     have q363 : x11_1 < (l0.length : Int) := x_da
     obtain ⟨ad363, e363, hx363_0, hx363_1⟩ := at_T55 HR0.out x11_1 p363 q363
     cases e363
     replace hx363_0 := x_tr HB.out hx363_0
     replace hx363_1 := x_tr HB.out hx363_1
     replace p363 := eq_true p363
     replace q363 := eq_true q363
     try go_wp2_with (first | ((with_reducible refine gate_dst (N := 5) rfl ?_); refine box_event ?hg (N := 5) ?hd (cs := #[.int .i32 0, .int .i32 0]) (t := 55) ?hr ?_; (case hd => rfl); (case hg => rfl); (case hr => first | (go_simp; done) | (go_simp; rfl)); intro gb364 hg w20 hbox hb; have n0_ := x_m (Kd.R_below (Kd.R_elderB (x_rr HO_3.out) gb364 (Nat.le_of_eq hg.symm)) hb); have n1_ := x_m (below_step x_bel hb); have n2_ := x_m (hbox); have n3_ := x_m (x_gs hg (below_size x_bel) : w.heap.size ≤ gb364); have n4_ := x_m (x_gs hg (below_size x_bel) : w.heap.size ≤ gb364); clear HO_3; clear HB; have HO_3 := n0_; have HB := n1_; have BK364 := n2_; have GW364 := n3_; have GE364 := n4_; clear n0_ n1_ n2_ n3_ n4_; clear hb hbox hg; have hcz21_0 := x_cz BK364.out 0 rfl; have hcz21_1 := x_cz BK364.out 1 rfl; have hfz21_0 := blk_frozen BK364.out 0; have hfz21_1 := blk_frozen BK364.out 1; obtain ⟨Ao22, co22, eo22⟩ := Kd.R_slice HO_3.out; subst eo22))
     have n0_ : Aside0 (Kd.R k55 55 ((w20.setCell ⟨gb364, 0, none⟩ (.int .i32 ((rd_T55 l0 x11_1).f0))).setCell ⟨gb364, 1, none⟩ (.int .i32 ((rd_T55 l0 x11_1).f1))) w.heap.size (fun k_ => k_ ≠ gb364) (.slice Ao22 x3_1.length co22) x3_1) := ⟨by (with_reducible repeat (first | apply Kd.R_alloc | apply Kd.R_drewN | apply Kd.R_drew)); exact Kd.R_mono (Kd.R_far (p := ⟨gb364, 1, none⟩) (Kd.R_far (p := ⟨gb364, 0, none⟩) (Kd.R_mono HO_3.out (fun k_ hk => (⟨hk, hk.2⟩ : _ ∧ k_ ≠ gb364))) (fun _ hk => hk.2) (.int .i32 ((rd_T55 l0 x11_1).f0))) (fun _ hk => hk.2) (.int .i32 ((rd_T55 l0 x11_1).f1))) (fun _ hk => hk.1.2)⟩
     have n1_ : Aside0 (((w20.setCell ⟨gb364, 0, none⟩ (.int .i32 ((rd_T55 l0 x11_1).f0))).setCell ⟨gb364, 1, none⟩ (.int .i32 ((rd_T55 l0 x11_1).f1))).heap[gb364]? = some (.cells #[.int .i32 ((rd_T55 l0 x11_1).f0), .int .i32 ((rd_T55 l0 x11_1).f1)] 55 (0, 0))) := ⟨by (with_reducible repeat (first | refine blk_drewN ?_ _ | refine blk_drew ?_ | refine blk_alloc ?_ _)); refine blk_put (cs := #[.int .i32 ((rd_T55 l0 x11_1).f0), .int .i32 0]) ?_ 1 _ rfl; (with_reducible repeat (first | refine blk_drewN ?_ _ | refine blk_drew ?_ | refine blk_alloc ?_ _)); refine blk_put (cs := #[.int .i32 0, .int .i32 0]) ?_ 0 _ rfl; (with_reducible repeat (first | refine blk_drewN ?_ _ | refine blk_drew ?_ | refine blk_alloc ?_ _)); exact BK364.out⟩
     have n2_ : Aside0 (Below w.heap.size w ((w20.setCell ⟨gb364, 0, none⟩ (.int .i32 ((rd_T55 l0 x11_1).f0))).setCell ⟨gb364, 1, none⟩ (.int .i32 ((rd_T55 l0 x11_1).f1)))) := ⟨by repeat (first | (with_reducible first | exact HB.out | apply below_alloc | apply pw_below_drewN | apply below_drew1 | refine below_set ?_ GE364.out) | exact HB.out)⟩
     (try clear HO_3)
     (try clear BK364)
     (try clear HB)
     generalize ((w20.setCell ⟨gb364, 0, none⟩ (.int .i32 ((rd_T55 l0 x11_1).f0))).setCell ⟨gb364, 1, none⟩ (.int .i32 ((rd_T55 l0 x11_1).f1))) = w23 at n0_ n1_ n2_ ⊢
     have HO_3 := n0_
     have BK364 := n1_
     have HB := n2_
     clear n0_ n1_ n2_
     have n0_ := x_m (Kd.R_drew HO_3.out)
     have n1_ := x_m (blk_drew BK364.out)
     have n2_ := x_m (below_drew1 HB.out)
     clear HO_3
     clear BK364
     clear HB
     have HO_3 := n0_
     have BK364 := n1_
     have HB := n2_
     clear n0_ n1_ n2_
     have p365 : 0 ≤ ((ji6) : Int) := x_da
     have q365 : (ji6) < (x3_1.length : Int) := x_da
     obtain ⟨ad365, e365, hx365_0, hx365_1⟩ := at_T55 (Kd.R_reads' HO_3.out).2.2 (ji6) p365 q365
     cases e365
     replace p365 := eq_true p365
     replace q365 := eq_true q365
     refine start_ (n := 14) (S := fun w' => w'.cell? ⟨gb364, 0, none⟩ = some (.int .i32 ((rd_T55 l0 x11_1).f0)) ∧ w'.cell? ⟨gb364, 1, none⟩ = some (.int .i32 ((rd_T55 l0 x11_1).f1)) ∧ w'.cell? (ad365.add (((ji6)).toNat * 2)) = some (.int .i32 ((rd_T55 x3_1 (ji6)).f0)) ∧ w'.cell? ⟨(ad365.add (((ji6)).toNat * 2)).block, (ad365.add (((ji6)).toNat * 2)).off + 1, none⟩ = some (.int .i32 ((rd_T55 x3_1 (ji6)).f1))) (ds := []) #[i,i,i,i,i,i,i,i,i,i,i,i,i,i] (by kernel_rfl) rfl rfl ⟨(blk_cell BK364.out 0).trans rfl, (blk_cell BK364.out 1).trans rfl, hx365_0, hx365_1⟩ (fun hHeld => ?_); refine with_tabW sets_gather.tab7 sets_gather.bits7 (fun HT_ HW_ => ?_)
     generalize w23.drew = w24 at HO_3 BK364 HB hx365_0 hx365_1 hHeld ⊢
     refine pure_ (i := 0) (N := some 17) (v := ?_) (a' := ?_) #[o,i,i,i,i,i,i,i,i,i,i,i,i,i] rfl rfl (any_of HT_.out (by kernel_rfl)) (fun _ _ _ h => h) (Or.inl ⟨by rfl, ?_⟩) ?_ ?_
     rotate_left
     ·intro w'
      go_simp
      with_reducible rfl
     rotate_left
     ·exact x_put
     refine pure_ (i := 1) (N := some 18) (v := ?_) (a' := ?_) #[o,o,i,i,i,i,i,i,i,i,i,i,i,i] rfl rfl (any_of HT_.out (by kernel_rfl)) (fun _ _ _ h => h) (Or.inl ⟨by rfl, ?_⟩) ?_ ?_
     rotate_left
     ·intro w'
      go_simp
      with_reducible rfl
     rotate_left
     ·exact x_put
     refine pure_ (i := 2) (N := some 19) (v := ?_) (a' := ?_) #[o,o,o,i,i,i,i,i,i,i,i,i,i,i] rfl rfl (any_of HT_.out (by kernel_rfl)) (fun _ _ _ h => h) (Or.inl ⟨by rfl, ?_⟩) ?_ ?_
     rotate_left
     ·intro w'
      go_simp
      with_reducible rfl
     rotate_left
     ·exact x_put
     refine pure_ (i := 3) (N := some 20) (v := ?_) (a' := ?_) #[o,o,o,o,i,i,i,i,i,i,i,i,i,i] rfl rfl (any_of HT_.out (by kernel_rfl)) (fun _ _ _ h => h) (Or.inl ⟨by rfl, ?_⟩) ?_ ?_
     rotate_left
     ·intro w'
      go_simp
      with_reducible rfl
     rotate_left
     ·exact x_put
     refine pure_ (i := 5) (N := some 22) (v := ?_) (a' := ?_) #[o,o,o,o,i,o,i,i,i,i,i,i,i,i] rfl rfl (any_of HT_.out (by kernel_rfl)) (fun _ _ _ h => h) (Or.inl ⟨by rfl, ?_⟩) ?_ ?_
     rotate_left
     ·intro w'
      go_simp
      with_reducible rfl
     rotate_left
     ·exact x_put
     refine pure_ (i := 6) (N := some 23) (v := ?_) (a' := ?_) #[o,o,o,o,i,o,o,i,i,i,i,i,i,i] rfl rfl (any_of HT_.out (by kernel_rfl)) (fun _ _ _ h => h) (Or.inl ⟨by rfl, ?_⟩) ?_ ?_
     rotate_left
     ·intro w'
      go_simp
      with_reducible rfl
     rotate_left
     ·exact x_put
     refine pure_ (i := 7) (N := some 24) (v := ?_) (a' := ?_) #[o,o,o,o,i,o,o,o,i,i,i,i,i,i] rfl rfl (any_of HT_.out (by kernel_rfl)) (fun _ _ _ h => h) (Or.inl ⟨by rfl, ?_⟩) ?_ ?_
     rotate_left
     ·intro w'
      go_simp
      with_reducible rfl
     rotate_left
     ·exact x_put
     refine pure_ (i := 8) (N := some 25) (v := ?_) (a' := ?_) #[o,o,o,o,i,o,o,o,o,i,i,i,i,i] rfl rfl (any_of HT_.out (by kernel_rfl)) (fun _ _ _ h => h) (Or.inl ⟨by rfl, ?_⟩) ?_ ?_
     rotate_left
     ·intro w'
      go_simp
      with_reducible rfl
     rotate_left
     ·exact x_put
     refine pure_ (i := 9) (N := some 26) (v := ?_) (a' := ?_) #[o,o,o,o,i,o,o,o,o,o,i,i,i,i] rfl rfl (any_of HT_.out (by kernel_rfl)) (fun _ _ _ h => h) (Or.inl ⟨by rfl, ?_⟩) ?_ ?_
     rotate_left
     ·intro w'
      go_simp
      with_reducible rfl
     rotate_left
     ·exact x_put
     refine take_ (i := 4) (N := some 21) (v := ?_) (a' := ?_) #[o,o,o,o,o,o,o,o,o,o,i,i,i,i] rfl rfl (take_ofW HT_.out HW_.out (by kernel_rfl)) (fun _ _ _ h => h) (Or.inl ⟨by rfl, ?_⟩) hHeld ?_ ?_
     rotate_left
     ·rintro w' ⟨s0, s1, s2, s3⟩
      go_simp
      with_reducible rfl
     rotate_left
     ·exact x_put
     refine take_ (i := 10) (N := some 27) (v := ?_) (a' := ?_) #[o,o,o,o,o,o,o,o,o,o,o,i,i,i] rfl rfl (take_ofW HT_.out HW_.out (by kernel_rfl)) (fun _ _ _ h => h) (Or.inl ⟨by rfl, ?_⟩) hHeld ?_ ?_
     rotate_left
     ·rintro w' ⟨s0, s1, s2, s3⟩
      go_simp
      with_reducible rfl
     rotate_left
     ·exact x_put
     refine pure_ (i := 11) (N := some 28) (v := ?_) (a' := ?_) #[o,o,o,o,o,o,o,o,o,o,o,o,i,i] rfl rfl (any_of HT_.out (by kernel_rfl)) (fun _ _ _ h => h) (Or.inl ⟨by rfl, ?_⟩) ?_ ?_
     rotate_left
     ·intro w'
      go_simp
      with_reducible rfl
     rotate_left
     ·exact x_put
     refine pure_ (i := 12) (N := some 29) (v := ?_) (a' := ?_) #[o,o,o,o,o,o,o,o,o,o,o,o,o,i] rfl rfl (any_of HT_.out (by kernel_rfl)) (fun _ _ _ h => h) (Or.inl ⟨by rfl, ?_⟩) ?_ ?_
     rotate_left
     ·intro w'
      go_simp
      with_reducible rfl
     rotate_left
     ·exact x_put
     refine pure_ (i := 13) (N := some 30) (v := ?_) (a' := ?_) #[o,o,o,o,o,o,o,o,o,o,o,o,o,o] rfl rfl (any_of HT_.out (by kernel_rfl)) (fun _ _ _ h => h) (Or.inl ⟨by rfl, ?_⟩) ?_ ?_
     rotate_left
     ·intro w'
      go_simp
      with_reducible rfl
     rotate_left
     ·exact x_put
     refine done_ (done_of HT_.out (by kernel_rfl)) ?_
     have hcz25_0 := x_cz BK364.out 0 rfl
     have hcz25_1 := x_cz BK364.out 1 rfl
     have hfz25_0 := blk_frozen BK364.out 0
     have hfz25_1 := blk_frozen BK364.out 1
     try go_wp2_with (first | ((with_reducible refine gate_builtin (b := .append) (xs := #[.tmp 45, .tmp 47]) rfl ?_); at_builtin; refine Kd.R_append k55 (w0 := w) w.heap.size rfl (.tmp 45) (.tmp 47) 25 55 (.agg #[(.int .i32 0), (.int .i32 0)]) 8 rfl Tryd.underlying25 info55 rfl (by decide) (by omega) (.slice (some ad365) x3_1.length co22) x3_1 (⟨(rd_T55 l0 x11_1).f0, (rd_T55 l0 x11_1).f1⟩ : S55) [.int .i32 ((rd_T55 l0 x11_1).f0), .int .i32 ((rd_T55 l0 x11_1).f1)] (fun k_ => k_ ≠ gb364) (fun _ => False) rfl rfl ?aP (fun _ hk => hk.elim) ?aF ?aO ?aB ?aS ?aL ?_; (case aP => exact k55_mkM _ _ _ (⟨(rd_T55 l0 x11_1).f0, (rd_T55 l0 x11_1).f1⟩ : S55)); (case aB => exact x_bels); (case aF => exact (fun k_ hk => Kd.freshB (g := gb364) (o := .cells #[.int .i32 ((rd_T55 l0 x11_1).f0), .int .i32 ((rd_T55 l0 x11_1).f1)] 55 (0, 0)) (x_bk BK364.out) k_ hk)); (case aO => exact (x_rr HO_3.out)); (case aS => exact (below_size x_bels)); (case aL => have := LMc19.out; omega); intro v369 w26 ho hb hg hat; rw [← Ny368.out] at ho; have n0_ := x_m (blk_grown (g := gb364) (o := .cells #[.int .i32 ((rd_T55 l0 x11_1).f0), .int .i32 ((rd_T55 l0 x11_1).f1)] 55 (0, 0)) (x_bk BK364.out) hg (Kd.R_away HO_3.out (fun _ hk => hk))); have n1_ := x_m (hb); have n2_ := x_m (ho); clear BK364; clear HB; clear HO_3; have BK364 := n0_; have HB := n1_; have HO370 := n2_; clear n0_ n1_ n2_; clear ho hb hg hat))
     go_roundg k1
     case measure => have := HK1.out; omega
     case rel => exact ⟨(y368), (wrap64 (x11_1 + 1)), x_eqs, H', ⟨by have := HK1.out; omega⟩, ⟨by (with_reducible repeat (first | apply Kd.R_alloc | apply Kd.R_drewN | apply Kd.R_drew)); exact Kd.R_mono HO370.out (fun _ hk => trivial)⟩, ⟨by repeat (first | (with_reducible first | exact HB.out | apply below_alloc | apply pw_below_drewN | apply below_drew1 | refine below_set ?_ GE364.out) | exact HB.out)⟩⟩
    rw [if_neg c19] at H
    exact absurd H (by simp)
   obtain ⟨ji10, hji10⟩ : ∃ j_ : Int, (mx ((rd_T55 x3_1 (ji6)).f1) ((rd_T55 l0 x11_1).f1)) = j_ := ⟨_, rfl⟩
   replace H : (sets_gather.l0 k1 (x3_1.set ((ji6) : Int).toNat (⟨(rd_T55 x3_1 (ji6)).f0, ji10⟩ : S55)) l0 (l0.length : Int) (wrap64 (x11_1 + 1))) = some r := by first | (rw [hji10] at H; exact H) | (simp only [hji10] at H ⊢; exact H)
   have hji10_ : (if ((rd_T55 x3_1 (ji6)).f1) < ((rd_T55 l0 x11_1).f1) then ((rd_T55 l0 x11_1).f1) else ((rd_T55 x3_1 (ji6)).f1)) = ji10 := hji10
   obtain ⟨y367, hy367⟩ : ∃ y_ : List (S55), y_ = (x3_1.set ((ji6) : Int).toNat (⟨(rd_T55 x3_1 (ji6)).f0, ji10⟩ : S55)) := ⟨_, rfl⟩
   replace H : (sets_gather.l0 k1 y367 l0 (l0.length : Int) (wrap64 (x11_1 + 1))) = some r := x_hh hy367 H
   have Ny367 := x_m hy367
   clear hy367
   have H' := x_m H
   clear H
   have p363 : 0 ≤ (x11_1 : Int) := x_da
   have q363 : x11_1 < (l0.length : Int) := x_da
   obtain ⟨ad363, e363, hx363_0, hx363_1⟩ := at_T55 HR0.out x11_1 p363 q363
   cases e363
   replace hx363_0 := x_tr HB.out hx363_0
   replace hx363_1 := x_tr HB.out hx363_1
   replace p363 := eq_true p363
   replace q363 := eq_true q363
   try go_wp2_with (first | ((with_reducible refine gate_dst (N := 5) rfl ?_); refine box_event ?hg (N := 5) ?hd (cs := #[.int .i32 0, .int .i32 0]) (t := 55) ?hr ?_; (case hd => rfl); (case hg => rfl); (case hr => first | (go_simp; done) | (go_simp; rfl)); intro gb364 hg w12 hbox hb; have n0_ := x_m (Kd.R_below (Kd.R_elderB (x_rr HO_3.out) gb364 (Nat.le_of_eq hg.symm)) hb); have n1_ := x_m (below_step x_bel hb); have n2_ := x_m (hbox); have n3_ := x_m (x_gs hg (below_size x_bel) : w.heap.size ≤ gb364); have n4_ := x_m (x_gs hg (below_size x_bel) : w.heap.size ≤ gb364); clear HO_3; clear HB; have HO_3 := n0_; have HB := n1_; have BK364 := n2_; have GW364 := n3_; have GE364 := n4_; clear n0_ n1_ n2_ n3_ n4_; clear hb hbox hg; have hcz13_0 := x_cz BK364.out 0 rfl; have hcz13_1 := x_cz BK364.out 1 rfl; have hfz13_0 := blk_frozen BK364.out 0; have hfz13_1 := blk_frozen BK364.out 1; obtain ⟨Ao14, co14, eo14⟩ := Kd.R_slice HO_3.out; subst eo14))
   have n0_ : Aside0 (Kd.R k55 55 ((w12.setCell ⟨gb364, 0, none⟩ (.int .i32 ((rd_T55 l0 x11_1).f0))).setCell ⟨gb364, 1, none⟩ (.int .i32 ((rd_T55 l0 x11_1).f1))) w.heap.size (fun k_ => k_ ≠ gb364) (.slice Ao14 x3_1.length co14) x3_1) := ⟨by (with_reducible repeat (first | apply Kd.R_alloc | apply Kd.R_drewN | apply Kd.R_drew)); exact Kd.R_mono (Kd.R_far (p := ⟨gb364, 1, none⟩) (Kd.R_far (p := ⟨gb364, 0, none⟩) (Kd.R_mono HO_3.out (fun k_ hk => (⟨hk, hk.2⟩ : _ ∧ k_ ≠ gb364))) (fun _ hk => hk.2) (.int .i32 ((rd_T55 l0 x11_1).f0))) (fun _ hk => hk.2) (.int .i32 ((rd_T55 l0 x11_1).f1))) (fun _ hk => hk.1.2)⟩
   have n1_ : Aside0 (((w12.setCell ⟨gb364, 0, none⟩ (.int .i32 ((rd_T55 l0 x11_1).f0))).setCell ⟨gb364, 1, none⟩ (.int .i32 ((rd_T55 l0 x11_1).f1))).heap[gb364]? = some (.cells #[.int .i32 ((rd_T55 l0 x11_1).f0), .int .i32 ((rd_T55 l0 x11_1).f1)] 55 (0, 0))) := ⟨by (with_reducible repeat (first | refine blk_drewN ?_ _ | refine blk_drew ?_ | refine blk_alloc ?_ _)); refine blk_put (cs := #[.int .i32 ((rd_T55 l0 x11_1).f0), .int .i32 0]) ?_ 1 _ rfl; (with_reducible repeat (first | refine blk_drewN ?_ _ | refine blk_drew ?_ | refine blk_alloc ?_ _)); refine blk_put (cs := #[.int .i32 0, .int .i32 0]) ?_ 0 _ rfl; (with_reducible repeat (first | refine blk_drewN ?_ _ | refine blk_drew ?_ | refine blk_alloc ?_ _)); exact BK364.out⟩
   have n2_ : Aside0 (Below w.heap.size w ((w12.setCell ⟨gb364, 0, none⟩ (.int .i32 ((rd_T55 l0 x11_1).f0))).setCell ⟨gb364, 1, none⟩ (.int .i32 ((rd_T55 l0 x11_1).f1)))) := ⟨by repeat (first | (with_reducible first | exact HB.out | apply below_alloc | apply pw_below_drewN | apply below_drew1 | refine below_set ?_ GE364.out) | exact HB.out)⟩
   (try clear HO_3)
   (try clear BK364)
   (try clear HB)
   generalize ((w12.setCell ⟨gb364, 0, none⟩ (.int .i32 ((rd_T55 l0 x11_1).f0))).setCell ⟨gb364, 1, none⟩ (.int .i32 ((rd_T55 l0 x11_1).f1))) = w15 at n0_ n1_ n2_ ⊢
   have HO_3 := n0_
   have BK364 := n1_
   have HB := n2_
   clear n0_ n1_ n2_
   have n0_ := x_m (Kd.R_drew HO_3.out)
   have n1_ := x_m (blk_drew BK364.out)
   have n2_ := x_m (below_drew1 HB.out)
   clear HO_3
   clear BK364
   clear HB
   have HO_3 := n0_
   have BK364 := n1_
   have HB := n2_
   clear n0_ n1_ n2_
   have p365 : 0 ≤ ((ji6) : Int) := x_da
   have q365 : (ji6) < (x3_1.length : Int) := x_da
   obtain ⟨ad365, e365, hx365_0, hx365_1⟩ := at_T55 (Kd.R_reads' HO_3.out).2.2 (ji6) p365 q365
   cases e365
   replace p365 := eq_true p365
   replace q365 := eq_true q365
   refine start_ (n := 14) (S := fun w' => w'.cell? ⟨gb364, 0, none⟩ = some (.int .i32 ((rd_T55 l0 x11_1).f0)) ∧ w'.cell? ⟨gb364, 1, none⟩ = some (.int .i32 ((rd_T55 l0 x11_1).f1)) ∧ w'.cell? (ad365.add (((ji6)).toNat * 2)) = some (.int .i32 ((rd_T55 x3_1 (ji6)).f0)) ∧ w'.cell? ⟨(ad365.add (((ji6)).toNat * 2)).block, (ad365.add (((ji6)).toNat * 2)).off + 1, none⟩ = some (.int .i32 ((rd_T55 x3_1 (ji6)).f1))) (ds := []) #[i,i,i,i,i,i,i,i,i,i,i,i,i,i] (by kernel_rfl) rfl rfl ⟨(blk_cell BK364.out 0).trans rfl, (blk_cell BK364.out 1).trans rfl, hx365_0, hx365_1⟩ (fun hHeld => ?_); refine with_tabW sets_gather.tab7 sets_gather.bits7 (fun HT_ HW_ => ?_)
   generalize w15.drew = w16 at HO_3 BK364 HB hx365_0 hx365_1 hHeld ⊢
   refine pure_ (i := 0) (N := some 17) (v := ?_) (a' := ?_) #[o,i,i,i,i,i,i,i,i,i,i,i,i,i] rfl rfl (any_of HT_.out (by kernel_rfl)) (fun _ _ _ h => h) (Or.inl ⟨by rfl, ?_⟩) ?_ ?_
   rotate_left
   ·intro w'
    go_simp
    with_reducible rfl
   rotate_left
   ·exact x_put
   refine pure_ (i := 1) (N := some 18) (v := ?_) (a' := ?_) #[o,o,i,i,i,i,i,i,i,i,i,i,i,i] rfl rfl (any_of HT_.out (by kernel_rfl)) (fun _ _ _ h => h) (Or.inl ⟨by rfl, ?_⟩) ?_ ?_
   rotate_left
   ·intro w'
    go_simp
    with_reducible rfl
   rotate_left
   ·exact x_put
   refine pure_ (i := 2) (N := some 19) (v := ?_) (a' := ?_) #[o,o,o,i,i,i,i,i,i,i,i,i,i,i] rfl rfl (any_of HT_.out (by kernel_rfl)) (fun _ _ _ h => h) (Or.inl ⟨by rfl, ?_⟩) ?_ ?_
   rotate_left
   ·intro w'
    go_simp
    with_reducible rfl
   rotate_left
   ·exact x_put
   refine pure_ (i := 3) (N := some 20) (v := ?_) (a' := ?_) #[o,o,o,o,i,i,i,i,i,i,i,i,i,i] rfl rfl (any_of HT_.out (by kernel_rfl)) (fun _ _ _ h => h) (Or.inl ⟨by rfl, ?_⟩) ?_ ?_
   rotate_left
   ·intro w'
    go_simp
    with_reducible rfl
   rotate_left
   ·exact x_put
   refine pure_ (i := 5) (N := some 22) (v := ?_) (a' := ?_) #[o,o,o,o,i,o,i,i,i,i,i,i,i,i] rfl rfl (any_of HT_.out (by kernel_rfl)) (fun _ _ _ h => h) (Or.inl ⟨by rfl, ?_⟩) ?_ ?_
   rotate_left
   ·intro w'
    go_simp
    with_reducible rfl
   rotate_left
   ·exact x_put
   refine pure_ (i := 6) (N := some 23) (v := ?_) (a' := ?_) #[o,o,o,o,i,o,o,i,i,i,i,i,i,i] rfl rfl (any_of HT_.out (by kernel_rfl)) (fun _ _ _ h => h) (Or.inl ⟨by rfl, ?_⟩) ?_ ?_
   rotate_left
   ·intro w'
    go_simp
    with_reducible rfl
   rotate_left
   ·exact x_put
   refine pure_ (i := 7) (N := some 24) (v := ?_) (a' := ?_) #[o,o,o,o,i,o,o,o,i,i,i,i,i,i] rfl rfl (any_of HT_.out (by kernel_rfl)) (fun _ _ _ h => h) (Or.inl ⟨by rfl, ?_⟩) ?_ ?_
   rotate_left
   ·intro w'
    go_simp
    with_reducible rfl
   rotate_left
   ·exact x_put
   refine pure_ (i := 8) (N := some 25) (v := ?_) (a' := ?_) #[o,o,o,o,i,o,o,o,o,i,i,i,i,i] rfl rfl (any_of HT_.out (by kernel_rfl)) (fun _ _ _ h => h) (Or.inl ⟨by rfl, ?_⟩) ?_ ?_
   rotate_left
   ·intro w'
    go_simp
    with_reducible rfl
   rotate_left
   ·exact x_put
   refine pure_ (i := 9) (N := some 26) (v := ?_) (a' := ?_) #[o,o,o,o,i,o,o,o,o,o,i,i,i,i] rfl rfl (any_of HT_.out (by kernel_rfl)) (fun _ _ _ h => h) (Or.inl ⟨by rfl, ?_⟩) ?_ ?_
   rotate_left
   ·intro w'
    go_simp
    with_reducible rfl
   rotate_left
   ·exact x_put
   refine take_ (i := 4) (N := some 21) (v := ?_) (a' := ?_) #[o,o,o,o,o,o,o,o,o,o,i,i,i,i] rfl rfl (take_ofW HT_.out HW_.out (by kernel_rfl)) (fun _ _ _ h => h) (Or.inl ⟨by rfl, ?_⟩) hHeld ?_ ?_
   rotate_left
   ·rintro w' ⟨s0, s1, s2, s3⟩
    go_simp
    with_reducible rfl
   rotate_left
   ·exact x_put
   refine take_ (i := 10) (N := some 27) (v := ?_) (a' := ?_) #[o,o,o,o,o,o,o,o,o,o,o,i,i,i] rfl rfl (take_ofW HT_.out HW_.out (by kernel_rfl)) (fun _ _ _ h => h) (Or.inl ⟨by rfl, ?_⟩) hHeld ?_ ?_
   rotate_left
   ·rintro w' ⟨s0, s1, s2, s3⟩
    go_simp
    with_reducible rfl
   rotate_left
   ·exact x_put
   refine pure_ (i := 11) (N := some 28) (v := ?_) (a' := ?_) #[o,o,o,o,o,o,o,o,o,o,o,o,i,i] rfl rfl (any_of HT_.out (by kernel_rfl)) (fun _ _ _ h => h) (Or.inl ⟨by rfl, ?_⟩) ?_ ?_
   rotate_left
   ·intro w'
    go_simp
    with_reducible rfl
   rotate_left
   ·exact x_put
   refine pure_ (i := 12) (N := some 29) (v := ?_) (a' := ?_) #[o,o,o,o,o,o,o,o,o,o,o,o,o,i] rfl rfl (any_of HT_.out (by kernel_rfl)) (fun _ _ _ h => h) (Or.inl ⟨by rfl, ?_⟩) ?_ ?_
   rotate_left
   ·intro w'
    go_simp
    with_reducible rfl
   rotate_left
   ·exact x_put
   refine pure_ (i := 13) (N := some 30) (v := ?_) (a' := ?_) #[o,o,o,o,o,o,o,o,o,o,o,o,o,o] rfl rfl (any_of HT_.out (by kernel_rfl)) (fun _ _ _ h => h) (Or.inl ⟨by rfl, ?_⟩) ?_ ?_
   rotate_left
   ·intro w'
    go_simp
    with_reducible rfl
   rotate_left
   ·exact x_put
   refine done_ (done_of HT_.out (by kernel_rfl)) ?_
   try go_wp2
   have n0_ := x_m (Kd.R_drew HO_3.out)
   have n1_ := x_m (blk_drew BK364.out)
   have n2_ := x_m (below_drew1 HB.out)
   clear HO_3
   clear BK364
   clear HB
   have HO_3 := n0_
   have BK364 := n1_
   have HB := n2_
   clear n0_ n1_ n2_
   have p366 : 0 ≤ ((ji6) : Int) := x_da
   have q366 : (ji6) < (x3_1.length : Int) := x_da
   obtain ⟨ad366, e366, hx366_0, hx366_1⟩ := at_T55 (Kd.R_reads' HO_3.out).2.2 (ji6) p366 q366
   obtain rfl : ad366 = ad365 := (by injection e366 with h_; exact h_.symm)
   replace p366 := eq_true p366
   replace q366 := eq_true q366
   have p11 : 0 ≤ ((ji6) : Int) := x_da
   have q11 : ((ji6) : Int) < ((x3_1.length : Int) : Int) := x_da
   obtain ⟨go11, co11, eo11, gb11, gl11, cl11, HG11⟩ := Kd.R_form HO_3.out (by omega)
   (first | cases eo11 | (injection eo11 with ea_ en_ ec_; (first | subst ea_ | (injection ea_ with ea_; subst ea_)); subst ec_; clear en_))
   have GB11 := x_m gb11
   have GG11 := x_m HG11
   clear gb11 gl11 HG11
   (first | simp only [add_plain] at hx365_0 | skip)
   (first | simp only [add_plain] at hx365_1 | skip)
   (first | simp only [add_plain] at hx366_0 | skip)
   (first | simp only [add_plain] at hx366_1 | skip)
   obtain ⟨ce11, hcl11, hM11, hcc11, hfr11⟩ := Kd.R_elem HO_3.out z55 ((ji6) : Int) p11 q11
   obtain rfl := k55_openM hM11
   have hx11_0 : World.cell? _ ⟨go11, ((ji6) : Int).toNat * 2, none⟩ = some (.int .i32 ((rd_T55 x3_1 (ji6)).f0)) := hcc11 0 _ rfl
   have hx11_1 : World.cell? _ ⟨go11, ((ji6) : Int).toNat * 2 + 1, none⟩ = some (.int .i32 ((rd_T55 x3_1 (ji6)).f1)) := hcc11 1 _ rfl
   have hf11_0 : World.frozen? _ ⟨go11, ((ji6) : Int).toNat * 2, none⟩ = false := hfr11 0
   have hf11_1 : World.frozen? _ ⟨go11, ((ji6) : Int).toNat * 2 + 1, none⟩ = false := hfr11 1
   clear hcl11 hcc11 hfr11 hM11
   replace p11 := eq_true p11
   replace q11 := eq_true q11
   obtain ⟨ce18, hcl18, hM18, hcc18, hfr18⟩ := Kd.R_elem HO_3.out z55 ((ji6) : Int) (of_decide_eq_true x_asm) (by have h_ : ((ji6) : Int) < ((x3_1.length : Int) : Int) := x_da; first | exact h_ | (have e_ := (Kd.R_reads' HO_3.out).1; omega) | simpa using h_)
   obtain rfl := k55_openM hM18
   have HP18 := (Kd.R_seg HO_3.out ((ji6) : Int) (of_decide_eq_true x_asm) (by have h_ : ((ji6) : Int) < ((x3_1.length : Int) : Int) := x_da; first | exact h_ | (have e_ := (Kd.R_reads' HO_3.out).1; omega) | simpa using h_) (seg := [.int .i32 ji10]) (j := 1) hcl18 hcc18 (show 2 ≤ 2 from by decide) (x' := (⟨(rd_T55 x3_1 (ji6)).f0, ji10⟩ : S55)) (k55_mkM _ _ _ (⟨(rd_T55 x3_1 (ji6)).f0, ji10⟩ : S55) ) (fun _ hk => hk)).1
   rw [← Ny367.out] at HP18
   have HQ18 := x_m HP18
   clear hcl18 hcc18 hfr18 hM18 HP18
   refine start_ (n := 15) (S := fun w' => w'.cell? ⟨gb364, 0, none⟩ = some (.int .i32 ((rd_T55 l0 x11_1).f0)) ∧ w'.cell? ⟨gb364, 1, none⟩ = some (.int .i32 ((rd_T55 l0 x11_1).f1)) ∧ w'.cell? ⟨go11, ((ji6) : Int).toNat * 2, none⟩ = some (.int .i32 ((rd_T55 x3_1 (ji6)).f0)) ∧ w'.cell? ⟨go11, ((ji6) : Int).toNat * 2 + 1, none⟩ = some (.int .i32 ((rd_T55 x3_1 (ji6)).f1))) (ds := [14]) #[i,i,i,i,i,i,i,i,i,i,i,i,i,i,i] (by kernel_rfl) rfl rfl ⟨(blk_cell BK364.out 0).trans rfl, (blk_cell BK364.out 1).trans rfl, hx366_0, hx366_1⟩ (fun hHeld => ?_); refine with_tabW sets_gather.tab8 sets_gather.bits8 (fun HT_ HW_ => ?_)
   generalize w16.drew = w17 at HO_3 BK364 HB GG11 HQ18 hf11_0 hf11_1 hx11_0 hx11_1 hx365_0 hx365_1 hx366_0 hx366_1 hHeld ⊢
   refine pure_ (i := 0) (N := some 31) (v := ?_) (a' := ?_) #[o,i,i,i,i,i,i,i,i,i,i,i,i,i,i] rfl rfl (any_of HT_.out (by kernel_rfl)) (fun _ _ _ h => h) (Or.inl ⟨by rfl, ?_⟩) ?_ ?_
   rotate_left
   ·intro w'
    go_simp
    with_reducible rfl
   rotate_left
   ·exact x_put
   refine pure_ (i := 1) (N := some 32) (v := ?_) (a' := ?_) #[o,o,i,i,i,i,i,i,i,i,i,i,i,i,i] rfl rfl (any_of HT_.out (by kernel_rfl)) (fun _ _ _ h => h) (Or.inl ⟨by rfl, ?_⟩) ?_ ?_
   rotate_left
   ·intro w'
    go_simp
    with_reducible rfl
   rotate_left
   ·exact x_put
   refine pure_ (i := 2) (N := some 33) (v := ?_) (a' := ?_) #[o,o,o,i,i,i,i,i,i,i,i,i,i,i,i] rfl rfl (any_of HT_.out (by kernel_rfl)) (fun _ _ _ h => h) (Or.inl ⟨by rfl, ?_⟩) ?_ ?_
   rotate_left
   ·intro w'
    go_simp
    with_reducible rfl
   rotate_left
   ·exact x_put
   refine pure_ (i := 3) (N := some 34) (v := ?_) (a' := ?_) #[o,o,o,o,i,i,i,i,i,i,i,i,i,i,i] rfl rfl (any_of HT_.out (by kernel_rfl)) (fun _ _ _ h => h) (Or.inl ⟨by rfl, ?_⟩) ?_ ?_
   rotate_left
   ·intro w'
    go_simp
    with_reducible rfl
   rotate_left
   ·exact x_put
   refine pure_ (i := 4) (N := some 35) (v := ?_) (a' := ?_) #[o,o,o,o,o,i,i,i,i,i,i,i,i,i,i] rfl rfl (any_of HT_.out (by kernel_rfl)) (fun _ _ _ h => h) (Or.inl ⟨by rfl, ?_⟩) ?_ ?_
   rotate_left
   ·intro w'
    go_simp
    with_reducible rfl
   rotate_left
   ·exact x_put
   refine pure_ (i := 5) (N := some 36) (v := ?_) (a' := ?_) #[o,o,o,o,o,o,i,i,i,i,i,i,i,i,i] rfl rfl (any_of HT_.out (by kernel_rfl)) (fun _ _ _ h => h) (Or.inl ⟨by rfl, ?_⟩) ?_ ?_
   rotate_left
   ·intro w'
    go_simp
    with_reducible rfl
   rotate_left
   ·exact x_put
   refine pure_ (i := 6) (N := some 37) (v := ?_) (a' := ?_) #[o,o,o,o,o,o,o,i,i,i,i,i,i,i,i] rfl rfl (any_of HT_.out (by kernel_rfl)) (fun _ _ _ h => h) (Or.inl ⟨by rfl, ?_⟩) ?_ ?_
   rotate_left
   ·intro w'
    go_simp
    with_reducible rfl
   rotate_left
   ·exact x_put
   refine pure_ (i := 7) (N := some 38) (v := ?_) (a' := ?_) #[o,o,o,o,o,o,o,o,i,i,i,i,i,i,i] rfl rfl (any_of HT_.out (by kernel_rfl)) (fun _ _ _ h => h) (Or.inl ⟨by rfl, ?_⟩) ?_ ?_
   rotate_left
   ·intro w'
    go_simp
    with_reducible rfl
   rotate_left
   ·exact x_put
   refine pure_ (i := 9) (N := some 40) (v := ?_) (a' := ?_) #[o,o,o,o,o,o,o,o,i,o,i,i,i,i,i] rfl rfl (any_of HT_.out (by kernel_rfl)) (fun _ _ _ h => h) (Or.inl ⟨by rfl, ?_⟩) ?_ ?_
   rotate_left
   ·intro w'
    go_simp
    with_reducible rfl
   rotate_left
   ·exact x_put
   refine take_ (i := 8) (N := some 39) (v := ?_) (a' := ?_) #[o,o,o,o,o,o,o,o,o,o,i,i,i,i,i] rfl rfl (take_ofW HT_.out HW_.out (by kernel_rfl)) (fun _ _ _ h => h) (Or.inl ⟨by rfl, ?_⟩) hHeld ?_ ?_
   rotate_left
   ·rintro w' ⟨s0, s1, s2, s3⟩
    go_simp
    with_reducible rfl
   rotate_left
   ·exact x_put
   refine take_ (i := 10) (N := some 41) (v := ?_) (a' := ?_) #[o,o,o,o,o,o,o,o,o,o,o,i,i,i,i] rfl rfl (take_ofW HT_.out HW_.out (by kernel_rfl)) (fun _ _ _ h => h) (Or.inl ⟨by rfl, ?_⟩) hHeld ?_ ?_
   rotate_left
   ·rintro w' ⟨s0, s1, s2, s3⟩
    go_simp
    with_reducible rfl
   rotate_left
   ·exact x_put
   refine pure_ (i := 11) (N := some 42) (v := ?_) (a' := ?_) #[o,o,o,o,o,o,o,o,o,o,o,o,i,i,i] rfl rfl (any_of HT_.out (by kernel_rfl)) (fun _ _ _ h => h) (Or.inl ⟨by rfl, ?_⟩) ?_ ?_
   rotate_left
   ·intro w'
    go_simp
    with_reducible rfl
   rotate_left
   ·exact x_put
   refine pure_ (i := 12) (N := some 43) (v := ?_) (a' := ?_) #[o,o,o,o,o,o,o,o,o,o,o,o,o,i,i] rfl rfl (any_of HT_.out (by kernel_rfl)) (fun _ _ _ h => h) (Or.inl ⟨by rfl, ?_⟩) ?_ ?_
   rotate_left
   ·intro w'
    go_simp
    with_reducible rfl
   rotate_left
   ·exact x_put
   refine pure_ (i := 13) (N := some 44) (v := ?_) (a' := ?_) #[o,o,o,o,o,o,o,o,o,o,o,o,o,o,i] rfl rfl (any_of HT_.out (by kernel_rfl)) (fun _ _ _ h => h) (Or.inl ⟨by rfl, ?_⟩) ?_ ?_
   rotate_left
   ·intro w'
    go_simp
    with_reducible rfl
   rotate_left
   ·exact x_put
   refine last_ (i := 14) (N := none) #[o,o,o,o,o,o,o,o,o,o,o,o,o,o,o] rfl rfl (one_of HT_.out (by kernel_rfl)) (by decide) (fun K hK => ?_)
   refine skip_ (w1 := ?_) (by rfl) rfl ?_ ?_
   rotate_left
   ·go_simp
    rfl
   refine hK.out _ _ ?_
   clear hK K
   refine done_ (done_of HT_.out (by kernel_rfl)) ?_
   try go_wp2
   go_roundg k1
   case measure => have := HK1.out; omega
   case rel => exact ⟨(y367), (wrap64 (x11_1 + 1)), x_eqs, H', ⟨by have := HK1.out; omega⟩, ⟨by (with_reducible repeat (first | apply Kd.R_alloc | apply Kd.R_drewN | apply Kd.R_drew)); exact Kd.R_mono HQ18.out (fun _ hk => trivial)⟩, ⟨by repeat (first | (with_reducible first | exact HB.out | apply below_alloc | apply pw_below_drewN | apply below_drew1 | refine below_set ?_ GB11.out | refine below_set ?_ GE364.out) | exact HB.out)⟩⟩
theorem sets_gather.calls (k : Nat) (P0_ : Nat → Prop) (u9000_ : Value) (l0 : List S55) (r : List S55) (w0 w : World) (hB : Below w0.heap.size w0 w) (ho0 : Kd.R k55 55 w w0.heap.size P0_ u9000_ l0) (h : sets_gather.f k l0 = some r) :
  Calls Tryd.prog 45 #[u9000_] w fun e w' => ∃ v0_ : Value, e = .returned (v0_) ∧ Kd.R k55 55 w' w0.heap.size (fun k_ => (P0_ k_ ∨ w.heap.size ≤ k_)) v0_ r ∧ Below w0.heap.size w0 w' ∧ Kept w w' (fun k_ => P0_ k_) := by
 obtain ⟨s, hs, h2⟩ := Option.bind_eq_some_iff.1 h
 have hl : s.length = l0.length := by
  unfold slices_SortFunc_lo.f at hs
  split at hs
  ·injection hs with hs; rw [← hs]; exact (SortLo.sortLo_ok l0).1.length_eq
  cases hs
 obtain ⟨A0, c0, rfl⟩ := Kd.R_slice ho0
 rw [← hl] at ho0 ⊢
 refine (sets_gather.core k P0_ A0 c0 l0 s r w0 w hB ho0 hs h2).mono ?_
 rintro e w' ⟨w1, ⟨hb1, hk1⟩, v0, rfl, hR, hb⟩
 refine ⟨v0, rfl, Kd.R_lower (Kd.R_mono (Kd.R_bound hR) (fun k hk => .inr (Nat.le_trans hk1.1 hk.2.1))) hb1.size, hb1.trans (hb.mono hb1.size), Nat.le_trans hk1.1 hb.size, fun i hi hn => (hb.block i (Nat.lt_of_lt_of_le hi hk1.1)).trans (hk1.2 i hi hn)⟩

namespace XB
def bLo (x : Int) : Int := if x = 0 then 0 else if x = 1 then 57344 else 1114240
def bHi (x : Int) : Int := if x = 0 then 55295 else if x = 1 then 1114111 else 1114367
def bandsV : Value := .agg #[.int .i32 0, .int .i32 55295, .int .i32 57344, .int .i32 1114111, .int .i32 1114240, .int .i32 1114367]
theorem index_bands (x : Int) (h0 : 0 ≤ x) (h1 : x < 3) : ∀ W : World, (Instr.index 79 bandsV (.int .i64 x)).run Tryd.prog W = .ok (.agg #[.int .i32 (bLo x), .int .i32 (bHi x)]) W := by
 intro W
 obtain rfl | rfl | rfl : x = 0 ∨ x = 1 ∨ x = 2 := by omega
 all_goals kernel_rfl
theorem run_index {a : Act} {o : Oper} {W : World} {v : Value} {t : TypeId} {x y : Operand} {i : Value} (ho : o.op = .index t x y) (hx : a.eval x = bandsV) (hy : a.eval y = i) (h : (Instr.index t bandsV i).run Tryd.prog W = .ok v W) : (execOp a.eval o).run Tryd.prog W = .ok (.value v) W := by
 simp only [execOp, ho, hx, hy, Sem.run_bind, Sem.run_pure, Result.andThen_ok, h]
theorem load_bands {a : Act} {o : Oper} (ho : o.op = .load 79 (.global 2)) (W : World) (hG : GOK W) : (execOp a.eval o).run Tryd.prog W = .ok (.value bandsV) W := by
 have g0 := hG.sets_bands 0 _ rfl
 have g1 := hG.sets_bands 1 _ rfl
 have g2 := hG.sets_bands 2 _ rfl
 have g3 := hG.sets_bands 3 _ rfl
 have g4 := hG.sets_bands 4 _ rfl
 have g5 := hG.sets_bands 5 _ rfl
 simp only [execOp, ho]
 go_simp
 first | done | rfl
end XB
mutual
def sets_Make.l0 : Nat → List (S55) → List (S55) → Int → Int → Option ((List (S55)) × Int)
 | 0, _, _, _, _ => none
 | k + 1, x4, x11, x12, x13 => if x13 < x12 then (if 0 ≤ x13 then (if x13 < (x11.length : Int) then (if ((rd_T55 x11 x13).f0) > ((rd_T55 x11 x13).f1) then (some (([] : List (S55)), 2)) else (sets_Make.l1 k x4 x11 x12 x13 0 ((rd_T55 x11 x13).f0) ((rd_T55 x11 x13).f1))) else (none)) else (none)) else ((sets_gather.f k x4).bind fun t363 => (some (t363, 0)))
def sets_Make.l1 : Nat → List (S55) → List (S55) → Int → Int → Int → Int → Int → Option ((List (S55)) × Int)
 | 0, _, _, _, _, _, _, _ => none
 | k + 1, x4, x11, x12, x13, x23, x368000, x368001 => if x23 < 3 then (if 0 ≤ x23 then (if (mx x368000 (XB.bLo x23)) ≤ (mn x368001 (XB.bHi x23)) then (if x4.length < 17592186044416 then (sets_Make.l1 k (x4 ++ [(⟨mx x368000 (XB.bLo x23), mn x368001 (XB.bHi x23)⟩ : S55)]) x11 x12 x13 (wrap64 (x23 + 1)) x368000 x368001) else (none)) else (sets_Make.l1 k x4 x11 x12 x13 (wrap64 (x23 + 1)) x368000 x368001)) else (none)) else (sets_Make.l0 k x4 x11 x12 (wrap64 (x13 + 1)))
end
def sets_Make.f (k : Nat) (l0 : List (S55)) : Option ((List (S55)) × Int) := sets_Make.l0 k ([] : List (S55)) l0 (l0.length : Int) 0
theorem sets_Make.calls (k : Nat) (A0 : Option Addr) (c0 : Nat) (l0 : List (S55)) (r1 : List (S55)) (r2 : Int) (w : World) (hr0 : Kd.C k55 w A0 l0.length l0) (hc0 : l0.length ≤ c0) (h : sets_Make.f k l0 = some (r1, r2)) (hG : GOK w := by first | (with_reducible exact HG_.out) | exact GOK.below HG_.out (by repeat (first | (with_reducible exact Below.refl _ _) | (with_reducible first | exact HB.out | apply below_alloc | apply pw_below_drewN | apply below_drew1 | refine below_set ?_ (Aside0.out (by assumption))) | exact HB.out)) | exact GOK.drewN HG_.out _ | exact GOK.drewN (GOK.drewN HG_.out _) _ | exact GOK.drew HG_.out) :
  Calls Tryd.prog 27 #[.slice A0 l0.length c0] w fun e w' => ∃ v0_ : Value, e = .returned (.tuple #[v0_, .int .i64 r2]) ∧ Kd.R k55 55 w' w.heap.size (fun _ => True) v0_ r1 ∧ Below w.heap.size w w' := by
 have HG_ := x_m hG
 clear hG
 have hu104 := Tryd.underlying55
 have HR0 := x_m hr0
 have HC0 := x_m hc0
 clear hr0 hc0
 have HB := x_m (Below.refl w.heap.size w)
 have H : (sets_Make.l0 k ([] : List (S55)) l0 (l0.length : Int) 0) = some (r1, r2) := h
 clear h
 have H' := x_m H
 clear H
 go_enter Tryd.func27, Tryd.ntmps27
 go_wp2
 repeat (go_quiet (fail); try go_wp2)
 go_loopg [4, 13] k (fun kq v4 v13 w' => ∃ (x4_1 : List (S55)) (x13_1 : Int), v13 = .int .i64 x13_1 ∧ Aside0 (sets_Make.l0 kq x4_1 l0 (l0.length : Int) x13_1 = some (r1, r2)) ∧ Aside0 (kq ≤ k) ∧ Aside0 (Kd.R k55 55 w' w.heap.size (fun _ => True) v4 x4_1) ∧ Aside0 (Below w.heap.size w w'))
 case atStart => exact ⟨(([] : List (S55))), (0), x_eqs, H', ⟨Nat.le_refl _⟩, ⟨by first | exact Kd.R_nil _ _ _ _ _ | exact Kd.N_nil _ _ _ _ _ | exact Kd.V_nil _ _ _ _ _ | exact Kd.Q_nil _ _ _ _ _ | exact Kd.S_nil _ _ _ _ _⟩, ⟨x_bel⟩⟩
 case round =>
  clear H'
  obtain ⟨x4_1, x13_1, rfl, HA, HK1, HO_4, HB⟩ := hrel
  cases gk with
  | zero => exact absurd HA.out (by simp [sets_Make.l0])
  | succ k1 =>
   have H := HA.out
   clear HA
   simp only [sets_Make.l0] at H
   rcases x_fi H with ⟨c2b0, H⟩ | ⟨c2b0, H⟩
   ·replace H := x_bi H
    obtain ⟨t363, A240, H⟩ := H
    have A24 := x_m A240
    clear A240
    simp only [Option.some.injEq, Prod.mk.injEq] at H
    obtain ⟨rfl, rfl⟩ := H
    obtain ⟨Ao25, co25, eo25⟩ := Kd.R_slice HO_4.out
    subst eo25
    go_wp2_with (first | (go_at_call 45; (with_reducible refine (sets_gather.calls k1 (fun k_ => some k_ = (.slice Ao25 x4_1.length co25 : Value).ownBlock) (.slice Ao25 x4_1.length co25) x4_1 t363 w _ ?side1 ?side2 A24.out).mono ?_); (case side1 => repeat (first | (with_reducible first | exact HB.out | apply below_alloc | apply pw_below_drewN | apply below_drew1) | exact HB.out)); (case side2 => exact Kd.R_tight rfl HO_4.out); rintro e w26 ⟨v364, rfl, ho0, hb, hkp⟩; have HO365 := x_m (Kd.R_mono (ok' := fun k_ => True) ho0 (fun k_ hk_ => trivial)); replace HB := x_m (hb); clear HO_4; (try clear hb); (try clear hkp); (try clear ho0)))
    go_ret2
    exact ⟨_, by first | rfl | (simp [errW_none, errW_some] <;> rfl) | (simp [*, errW_none, errW_some] <;> rfl), by (with_reducible repeat (first | apply Kd.R_alloc | apply Kd.R_drewN | apply Kd.R_drew)); exact HO365.out, x_bel⟩

   obtain ⟨c3b0, H⟩ := x_gd H
   obtain ⟨c4b0, H⟩ := x_gd H
   rcases x_if H with ⟨c5b0, H⟩ | ⟨c5b0, H⟩
   ·simp only [Option.some.injEq, Prod.mk.injEq] at H
    obtain ⟨rfl, rfl⟩ := H
    have p366 : 0 ≤ (x13_1 : Int) := x_da
    have q366 : x13_1 < (l0.length : Int) := x_da
    obtain ⟨ad366, e366, hx366_0, hx366_1⟩ := at_T55 HR0.out x13_1 p366 q366
    cases e366
    replace hx366_0 := x_tr HB.out hx366_0
    replace hx366_1 := x_tr HB.out hx366_1
    replace p366 := eq_true p366
    replace q366 := eq_true q366
    go_wp2_with (first | ((with_reducible refine gate_dst (N := 22) rfl ?_); refine Kd.event_run (v := XB.bandsV) rfl (XB.load_bands rfl _ (GOK.below HG_.out x_bels)) ?_) | ((with_reducible refine gate_dst (N := 6) rfl ?_); refine box_event ?hg (N := 6) ?hd (cs := #[.int .i32 0, .int .i32 0]) (t := 55) ?hr ?_; (case hd => rfl); (case hg => rfl); (case hr => first | (go_simp; done) | (go_simp; rfl)); intro gb367 hg w6 hbox hb; have n0_ := x_m (Kd.R_below (Kd.R_elderB (x_rr HO_4.out) gb367 (Nat.le_of_eq hg.symm)) hb); have n1_ := x_m (below_step x_bel hb); have n2_ := x_m (hbox); have n3_ := x_m (x_gs hg (below_size x_bel) : w.heap.size ≤ gb367); have n4_ := x_m (x_gs hg (below_size x_bel) : w.heap.size ≤ gb367); clear HO_4; clear HB; have HO_4 := n0_; have HB := n1_; have BK367 := n2_; have GW367 := n3_; have GE367 := n4_; clear n0_ n1_ n2_ n3_ n4_; clear hb hbox hg; have hcz7_0 := x_cz BK367.out 0 rfl; have hcz7_1 := x_cz BK367.out 1 rfl; have hfz7_0 := blk_frozen BK367.out 0; have hfz7_1 := blk_frozen BK367.out 1))
    go_ret2
    exact ⟨_, by first | rfl | (simp [errW_none, errW_some] <;> rfl) | (simp [*, errW_none, errW_some] <;> rfl), by first | exact Kd.R_nil _ _ _ _ _ | exact Kd.N_nil _ _ _ _ _ | exact Kd.V_nil _ _ _ _ _ | exact Kd.Q_nil _ _ _ _ _ | exact Kd.S_nil _ _ _ _ _, by repeat (first | (with_reducible first | exact HB.out | apply below_alloc | apply pw_below_drewN | apply below_drew1 | refine below_set ?_ GE367.out) | exact HB.out)⟩
   have H' := x_m H
   clear H
   have p366 : 0 ≤ (x13_1 : Int) := x_da
   have q366 : x13_1 < (l0.length : Int) := x_da
   obtain ⟨ad366, e366, hx366_0, hx366_1⟩ := at_T55 HR0.out x13_1 p366 q366
   cases e366
   replace hx366_0 := x_tr HB.out hx366_0
   replace hx366_1 := x_tr HB.out hx366_1
   replace p366 := eq_true p366
   replace q366 := eq_true q366
   go_wp2_with (first | ((with_reducible refine gate_dst (N := 22) rfl ?_); refine Kd.event_run (v := XB.bandsV) rfl (XB.load_bands rfl _ (GOK.below HG_.out x_bels)) ?_) | ((with_reducible refine gate_dst (N := 6) rfl ?_); refine box_event ?hg (N := 6) ?hd (cs := #[.int .i32 0, .int .i32 0]) (t := 55) ?hr ?_; (case hd => rfl); (case hg => rfl); (case hr => first | (go_simp; done) | (go_simp; rfl)); intro gb367 hg w8 hbox hb; have n0_ := x_m (Kd.R_below (Kd.R_elderB (x_rr HO_4.out) gb367 (Nat.le_of_eq hg.symm)) hb); have n1_ := x_m (below_step x_bel hb); have n2_ := x_m (hbox); have n3_ := x_m (x_gs hg (below_size x_bel) : w.heap.size ≤ gb367); have n4_ := x_m (x_gs hg (below_size x_bel) : w.heap.size ≤ gb367); clear HO_4; clear HB; have HO_4 := n0_; have HB := n1_; have BK367 := n2_; have GW367 := n3_; have GE367 := n4_; clear n0_ n1_ n2_ n3_ n4_; clear hb hbox hg; have hcz9_0 := x_cz BK367.out 0 rfl; have hcz9_1 := x_cz BK367.out 1 rfl; have hfz9_0 := blk_frozen BK367.out 0; have hfz9_1 := blk_frozen BK367.out 1))
   go_loopg [4, 23] k1 (fun kq v4 v23 w' => ∃ (x4_2 : List (S55)) (x23_2 : Int), v23 = .int .i64 x23_2 ∧ Aside0 (sets_Make.l1 kq x4_2 l0 (l0.length : Int) x13_1 x23_2 ((rd_T55 l0 x13_1).f0) ((rd_T55 l0 x13_1).f1) = some (r1, r2)) ∧ Aside0 (kq ≤ k1) ∧ Aside0 (Kd.R k55 55 w' w.heap.size (fun k_ => k_ ≠ gb367) v4 x4_2) ∧ Aside0 (w'.heap[gb367]? = some (.cells #[.int .i32 ((rd_T55 l0 x13_1).f0), .int .i32 ((rd_T55 l0 x13_1).f1)] 55 (0, 0))) ∧ Aside0 (Below w.heap.size w w'))
   case atStart => exact ⟨(x4_1), (0), x_eqs, H', ⟨Nat.le_refl _⟩, ⟨by (with_reducible repeat (first | apply Kd.R_alloc | apply Kd.R_drewN | apply Kd.R_drew)); exact Kd.R_mono (Kd.R_far (p := ⟨gb367, 1, none⟩) (Kd.R_far (p := ⟨gb367, 0, none⟩) (Kd.R_mono HO_4.out (fun k_ hk => (⟨hk, hk.2⟩ : _ ∧ k_ ≠ gb367))) (fun _ hk => hk.2) (.int .i32 ((rd_T55 l0 x13_1).f0))) (fun _ hk => hk.2) (.int .i32 ((rd_T55 l0 x13_1).f1))) (fun _ hk => hk.1.2)⟩, ⟨by (with_reducible repeat (first | refine blk_drewN ?_ _ | refine blk_drew ?_ | refine blk_alloc ?_ _)); refine blk_put (cs := #[.int .i32 ((rd_T55 l0 x13_1).f0), .int .i32 0]) ?_ 1 _ rfl; (with_reducible repeat (first | refine blk_drewN ?_ _ | refine blk_drew ?_ | refine blk_alloc ?_ _)); refine blk_put (cs := #[.int .i32 0, .int .i32 0]) ?_ 0 _ rfl; (with_reducible repeat (first | refine blk_drewN ?_ _ | refine blk_drew ?_ | refine blk_alloc ?_ _)); exact BK367.out⟩, ⟨by repeat (first | (with_reducible first | exact HB.out | apply below_alloc | apply pw_below_drewN | apply below_drew1 | refine below_set ?_ GE367.out) | exact HB.out)⟩⟩
   case round =>
    clear H'
    obtain ⟨x4_2, x23_2, rfl, HA, HK2, HO_4, BK367, HB⟩ := hrel
    cases gk with
    | zero => exact absurd HA.out (by simp [sets_Make.l1])
    | succ k2 =>
     have H := HA.out
     clear HA
     simp only [sets_Make.l1] at H
     rcases x_fi H with ⟨c10b0, H⟩ | ⟨c10b0, H⟩
     ·have H' := x_m H
      clear H
      go_wp2
      repeat (go_quiet (fail); try go_wp2)
      go_roundg k2
      case measure => have := HK1.out; have := HK2.out; omega
      case rel => exact ⟨(x4_2), (wrap64 (x13_1 + 1)), x_eqs, H', ⟨by have := HK1.out; have := HK2.out; omega⟩, ⟨by (with_reducible repeat (first | apply Kd.R_alloc | apply Kd.R_drewN | apply Kd.R_drew)); exact Kd.R_mono HO_4.out (fun _ hk => trivial)⟩, ⟨by repeat (first | (with_reducible first | exact HB.out | apply below_alloc | apply pw_below_drewN | apply below_drew1 | refine below_set ?_ GE367.out) | exact HB.out)⟩⟩
     by_cases c10z : 0 ≤ x23_2
     ·rw [if_pos c10z] at H
      have hbi := XB.index_bands x23_2 c10z (of_decide_eq_true c10b0)
      clear c10z
      obtain ⟨ji11, hji11⟩ : ∃ j_ : Int, (mx ((rd_T55 l0 x13_1).f0) (XB.bLo x23_2)) = j_ := ⟨_, rfl⟩
      replace H : (if (ji11) ≤ (mn ((rd_T55 l0 x13_1).f1) (XB.bHi x23_2)) then (if x4_2.length < 17592186044416 then (sets_Make.l1 k2 (x4_2 ++ [(⟨ji11, mn ((rd_T55 l0 x13_1).f1) (XB.bHi x23_2)⟩ : S55)]) l0 (l0.length : Int) x13_1 (wrap64 (x23_2 + 1)) ((rd_T55 l0 x13_1).f0) ((rd_T55 l0 x13_1).f1)) else (none)) else (sets_Make.l1 k2 x4_2 l0 (l0.length : Int) x13_1 (wrap64 (x23_2 + 1)) ((rd_T55 l0 x13_1).f0) ((rd_T55 l0 x13_1).f1))) = some (r1, r2) := by first | (rw [hji11] at H; exact H) | (simp only [hji11] at H ⊢; exact H)
      have hji11_ : (if ((rd_T55 l0 x13_1).f0) < (XB.bLo x23_2) then (XB.bLo x23_2) else ((rd_T55 l0 x13_1).f0)) = ji11 := hji11
      obtain ⟨ji12, hji12⟩ : ∃ j_ : Int, (mn ((rd_T55 l0 x13_1).f1) (XB.bHi x23_2)) = j_ := ⟨_, rfl⟩
      replace H : (if (ji11) ≤ (ji12) then (if x4_2.length < 17592186044416 then (sets_Make.l1 k2 (x4_2 ++ [(⟨ji11, ji12⟩ : S55)]) l0 (l0.length : Int) x13_1 (wrap64 (x23_2 + 1)) ((rd_T55 l0 x13_1).f0) ((rd_T55 l0 x13_1).f1)) else (none)) else (sets_Make.l1 k2 x4_2 l0 (l0.length : Int) x13_1 (wrap64 (x23_2 + 1)) ((rd_T55 l0 x13_1).f0) ((rd_T55 l0 x13_1).f1))) = some (r1, r2) := by first | (rw [hji12] at H; exact H) | (simp only [hji12] at H ⊢; exact H)
      have hji12_ : (if (XB.bHi x23_2) < ((rd_T55 l0 x13_1).f1) then (XB.bHi x23_2) else ((rd_T55 l0 x13_1).f1)) = ji12 := hji12
      rcases x_fi H with ⟨c13b0, H⟩ | ⟨c13b0, H⟩
      ·have H' := x_m H
       clear H
       go_wp2_with (first | ((with_reducible refine gate_dst (N := 25) rfl ?_); refine Kd.event_run (v := .agg #[.int .i32 (XB.bLo x23_2), .int .i32 (XB.bHi x23_2)]) rfl (XB.run_index rfl rfl rfl (hbi _)) ?_) | ((with_reducible refine gate_dst (N := 8) rfl ?_); refine box_event ?hg (N := 8) ?hd (cs := #[.int .i32 0, .int .i32 0]) (t := 55) ?hr ?_; (case hd => rfl); (case hg => rfl); (case hr => first | (go_simp; done) | (go_simp; rfl)); intro gb368 hg w20 hbox hb; have n0_ := x_m (Kd.R_below (Kd.R_elderB (x_rr HO_4.out) gb368 (Nat.le_of_eq hg.symm)) hb); have n1_ := x_m (blk_below (g := gb367) (o := .cells #[.int .i32 ((rd_T55 l0 x13_1).f0), .int .i32 ((rd_T55 l0 x13_1).f1)] 55 (0, 0)) (x_bk BK367.out) hb); have n2_ := x_m (below_step x_bels hb); have n3_ := x_m (hbox); have n4_ := x_m (x_gs hg (below_size x_bels) : w.heap.size ≤ gb368); have n5_ := x_m (x_gs hg (below_size x_bels) : w.heap.size ≤ gb368); have n6_ := x_m ((by rw [hg]; exact Nat.ne_of_lt (blk_lt (g := gb367) (o := .cells #[.int .i32 ((rd_T55 l0 x13_1).f0), .int .i32 ((rd_T55 l0 x13_1).f1)] 55 (0, 0)) (x_bk BK367.out)) : gb367 ≠ gb368)); have n7_ := x_m ((by rw [hg]; exact Nat.ne_of_gt (blk_lt (g := gb367) (o := .cells #[.int .i32 ((rd_T55 l0 x13_1).f0), .int .i32 ((rd_T55 l0 x13_1).f1)] 55 (0, 0)) (x_bk BK367.out)) : gb368 ≠ gb367)); clear HO_4; clear BK367; clear HB; have HO_4 := n0_; have BK367 := n1_; have HB := n2_; have BK368 := n3_; have GW368 := n4_; have GE368 := n5_; have NB367_368 := n6_; have NB368_367 := n7_; clear n0_ n1_ n2_ n3_ n4_ n5_ n6_ n7_; clear hb hbox hg; have hnb21 := NB368_367.out; have hnc21 := NB367_368.out; have hcz22_0 := x_cz BK368.out 0 rfl; have hcz22_1 := x_cz BK368.out 1 rfl; have hfz22_0 := blk_frozen BK368.out 0; have hfz22_1 := blk_frozen BK368.out 1; have hcz23_0 := x_cz BK367.out 0 rfl; have hcz23_1 := x_cz BK367.out 1 rfl; have hfz23_0 := blk_frozen BK367.out 0; have hfz23_1 := blk_frozen BK367.out 1))
       repeat (go_quiet (first | ((with_reducible refine gate_dst (N := 25) rfl ?_); refine Kd.event_run (v := .agg #[.int .i32 (XB.bLo x23_2), .int .i32 (XB.bHi x23_2)]) rfl (XB.run_index rfl rfl rfl (hbi _)) ?_) | ((with_reducible refine gate_dst (N := 8) rfl ?_); refine box_event ?hg (N := 8) ?hd (cs := #[.int .i32 0, .int .i32 0]) (t := 55) ?hr ?_; (case hd => rfl); (case hg => rfl); (case hr => first | (go_simp; done) | (go_simp; rfl)); intro gb368 hg w20 hbox hb; have n0_ := x_m (Kd.R_below (Kd.R_elderB (x_rr HO_4.out) gb368 (Nat.le_of_eq hg.symm)) hb); have n1_ := x_m (blk_below (g := gb367) (o := .cells #[.int .i32 ((rd_T55 l0 x13_1).f0), .int .i32 ((rd_T55 l0 x13_1).f1)] 55 (0, 0)) (x_bk BK367.out) hb); have n2_ := x_m (below_step x_bels hb); have n3_ := x_m (hbox); have n4_ := x_m (x_gs hg (below_size x_bels) : w.heap.size ≤ gb368); have n5_ := x_m (x_gs hg (below_size x_bels) : w.heap.size ≤ gb368); have n6_ := x_m ((by rw [hg]; exact Nat.ne_of_lt (blk_lt (g := gb367) (o := .cells #[.int .i32 ((rd_T55 l0 x13_1).f0), .int .i32 ((rd_T55 l0 x13_1).f1)] 55 (0, 0)) (x_bk BK367.out)) : gb367 ≠ gb368)); have n7_ := x_m ((by rw [hg]; exact Nat.ne_of_gt (blk_lt (g := gb367) (o := .cells #[.int .i32 ((rd_T55 l0 x13_1).f0), .int .i32 ((rd_T55 l0 x13_1).f1)] 55 (0, 0)) (x_bk BK367.out)) : gb368 ≠ gb367)); clear HO_4; clear BK367; clear HB; have HO_4 := n0_; have BK367 := n1_; have HB := n2_; have BK368 := n3_; have GW368 := n4_; have GE368 := n5_; have NB367_368 := n6_; have NB368_367 := n7_; clear n0_ n1_ n2_ n3_ n4_ n5_ n6_ n7_; clear hb hbox hg; have hnb21 := NB368_367.out; have hnc21 := NB367_368.out; have hcz22_0 := x_cz BK368.out 0 rfl; have hcz22_1 := x_cz BK368.out 1 rfl; have hfz22_0 := blk_frozen BK368.out 0; have hfz22_1 := blk_frozen BK368.out 1; have hcz23_0 := x_cz BK367.out 0 rfl; have hcz23_1 := x_cz BK367.out 1 rfl; have hfz23_0 := blk_frozen BK367.out 0; have hfz23_1 := blk_frozen BK367.out 1)); try go_wp2_with (first | ((with_reducible refine gate_dst (N := 25) rfl ?_); refine Kd.event_run (v := .agg #[.int .i32 (XB.bLo x23_2), .int .i32 (XB.bHi x23_2)]) rfl (XB.run_index rfl rfl rfl (hbi _)) ?_) | ((with_reducible refine gate_dst (N := 8) rfl ?_); refine box_event ?hg (N := 8) ?hd (cs := #[.int .i32 0, .int .i32 0]) (t := 55) ?hr ?_; (case hd => rfl); (case hg => rfl); (case hr => first | (go_simp; done) | (go_simp; rfl)); intro gb368 hg w20 hbox hb; have n0_ := x_m (Kd.R_below (Kd.R_elderB (x_rr HO_4.out) gb368 (Nat.le_of_eq hg.symm)) hb); have n1_ := x_m (blk_below (g := gb367) (o := .cells #[.int .i32 ((rd_T55 l0 x13_1).f0), .int .i32 ((rd_T55 l0 x13_1).f1)] 55 (0, 0)) (x_bk BK367.out) hb); have n2_ := x_m (below_step x_bels hb); have n3_ := x_m (hbox); have n4_ := x_m (x_gs hg (below_size x_bels) : w.heap.size ≤ gb368); have n5_ := x_m (x_gs hg (below_size x_bels) : w.heap.size ≤ gb368); have n6_ := x_m ((by rw [hg]; exact Nat.ne_of_lt (blk_lt (g := gb367) (o := .cells #[.int .i32 ((rd_T55 l0 x13_1).f0), .int .i32 ((rd_T55 l0 x13_1).f1)] 55 (0, 0)) (x_bk BK367.out)) : gb367 ≠ gb368)); have n7_ := x_m ((by rw [hg]; exact Nat.ne_of_gt (blk_lt (g := gb367) (o := .cells #[.int .i32 ((rd_T55 l0 x13_1).f0), .int .i32 ((rd_T55 l0 x13_1).f1)] 55 (0, 0)) (x_bk BK367.out)) : gb368 ≠ gb367)); clear HO_4; clear BK367; clear HB; have HO_4 := n0_; have BK367 := n1_; have HB := n2_; have BK368 := n3_; have GW368 := n4_; have GE368 := n5_; have NB367_368 := n6_; have NB368_367 := n7_; clear n0_ n1_ n2_ n3_ n4_ n5_ n6_ n7_; clear hb hbox hg; have hnb21 := NB368_367.out; have hnc21 := NB367_368.out; have hcz22_0 := x_cz BK368.out 0 rfl; have hcz22_1 := x_cz BK368.out 1 rfl; have hfz22_0 := blk_frozen BK368.out 0; have hfz22_1 := blk_frozen BK368.out 1; have hcz23_0 := x_cz BK367.out 0 rfl; have hcz23_1 := x_cz BK367.out 1 rfl; have hfz23_0 := blk_frozen BK367.out 0; have hfz23_1 := blk_frozen BK367.out 1)))
       go_roundg k2
       case measure => have := HK1.out; have := HK2.out; omega
       case rel => exact ⟨(x4_2), (wrap64 (x23_2 + 1)), x_eqs, H', ⟨by have := HK1.out; have := HK2.out; omega⟩, ⟨by (with_reducible repeat (first | apply Kd.R_alloc | apply Kd.R_drewN | apply Kd.R_drew)); exact Kd.R_mono (Kd.R_far (p := ⟨gb368, 1, none⟩) (Kd.R_far (p := ⟨gb368, 0, none⟩) (Kd.R_mono HO_4.out (fun k_ hk => (⟨hk, hk.2⟩ : _ ∧ k_ ≠ gb368))) (fun _ hk => hk.2) (.int .i32 (XB.bLo x23_2))) (fun _ hk => hk.2) (.int .i32 (XB.bHi x23_2))) (fun _ hk => hk.1.1)⟩, ⟨by (with_reducible repeat (first | refine blk_drewN ?_ _ | refine blk_drew ?_ | refine blk_alloc ?_ _)); refine blk_far ?_ NB367_368.out _; (with_reducible repeat (first | refine blk_drewN ?_ _ | refine blk_drew ?_ | refine blk_alloc ?_ _)); refine blk_far ?_ NB367_368.out _; (with_reducible repeat (first | refine blk_drewN ?_ _ | refine blk_drew ?_ | refine blk_alloc ?_ _)); exact BK367.out⟩, ⟨by repeat (first | (with_reducible first | exact HB.out | apply below_alloc | apply pw_below_drewN | apply below_drew1 | refine below_set ?_ GE367.out | refine below_set ?_ GE368.out) | exact HB.out)⟩⟩
      obtain ⟨c14, H⟩ := x_gp H
      have LMc14 := x_m c14
      clear c14
      obtain ⟨y369, hy369⟩ : ∃ y_ : List (S55), y_ = (x4_2 ++ [(⟨ji11, ji12⟩ : S55)]) := ⟨_, rfl⟩
      replace H : (sets_Make.l1 k2 y369 l0 (l0.length : Int) x13_1 (wrap64 (x23_2 + 1)) ((rd_T55 l0 x13_1).f0) ((rd_T55 l0 x13_1).f1)) = some (r1, r2) := x_hh hy369 H
      have Ny369 := x_m hy369
      clear hy369
      have H' := x_m H
      clear H
      go_wp2_with (first | ((with_reducible refine gate_dst (N := 25) rfl ?_); refine Kd.event_run (v := .agg #[.int .i32 (XB.bLo x23_2), .int .i32 (XB.bHi x23_2)]) rfl (XB.run_index rfl rfl rfl (hbi _)) ?_) | ((with_reducible refine gate_dst (N := 8) rfl ?_); refine box_event ?hg (N := 8) ?hd (cs := #[.int .i32 0, .int .i32 0]) (t := 55) ?hr ?_; (case hd => rfl); (case hg => rfl); (case hr => first | (go_simp; done) | (go_simp; rfl)); intro gb368 hg w15 hbox hb; have n0_ := x_m (Kd.R_below (Kd.R_elderB (x_rr HO_4.out) gb368 (Nat.le_of_eq hg.symm)) hb); have n1_ := x_m (blk_below (g := gb367) (o := .cells #[.int .i32 ((rd_T55 l0 x13_1).f0), .int .i32 ((rd_T55 l0 x13_1).f1)] 55 (0, 0)) (x_bk BK367.out) hb); have n2_ := x_m (below_step x_bels hb); have n3_ := x_m (hbox); have n4_ := x_m (x_gs hg (below_size x_bels) : w.heap.size ≤ gb368); have n5_ := x_m (x_gs hg (below_size x_bels) : w.heap.size ≤ gb368); have n6_ := x_m ((by rw [hg]; exact Nat.ne_of_lt (blk_lt (g := gb367) (o := .cells #[.int .i32 ((rd_T55 l0 x13_1).f0), .int .i32 ((rd_T55 l0 x13_1).f1)] 55 (0, 0)) (x_bk BK367.out)) : gb367 ≠ gb368)); have n7_ := x_m ((by rw [hg]; exact Nat.ne_of_gt (blk_lt (g := gb367) (o := .cells #[.int .i32 ((rd_T55 l0 x13_1).f0), .int .i32 ((rd_T55 l0 x13_1).f1)] 55 (0, 0)) (x_bk BK367.out)) : gb368 ≠ gb367)); clear HO_4; clear BK367; clear HB; have HO_4 := n0_; have BK367 := n1_; have HB := n2_; have BK368 := n3_; have GW368 := n4_; have GE368 := n5_; have NB367_368 := n6_; have NB368_367 := n7_; clear n0_ n1_ n2_ n3_ n4_ n5_ n6_ n7_; clear hb hbox hg; have hnb16 := NB368_367.out; have hnc16 := NB367_368.out; have hcz17_0 := x_cz BK368.out 0 rfl; have hcz17_1 := x_cz BK368.out 1 rfl; have hfz17_0 := blk_frozen BK368.out 0; have hfz17_1 := blk_frozen BK368.out 1; have hcz18_0 := x_cz BK367.out 0 rfl; have hcz18_1 := x_cz BK367.out 1 rfl; have hfz18_0 := blk_frozen BK367.out 0; have hfz18_1 := blk_frozen BK367.out 1) | ((with_reducible refine gate_builtin (b := .append) (xs := #[.tmp 39, .tmp 43]) rfl ?_); at_builtin; refine Kd.R_append k55 (w0 := w) w.heap.size rfl (.tmp 39) (.tmp 43) 25 55 (.agg #[(.int .i32 0), (.int .i32 0)]) 8 rfl Tryd.underlying25 info55 rfl (by decide) (by omega) u4 x4_2 (⟨ji11, ji12⟩ : S55) [.int .i32 ji11, .int .i32 ji12] (fun k_ => k_ ≠ gb367 ∧ k_ ≠ gb368) (fun _ => False) rfl (by first | (go_simp; done) | (go_simp; rfl)) ?aP (fun _ hk => hk.elim) ?aF ?aO ?aB ?aS ?aL ?_; (case aP => exact k55_mkM _ _ _ (⟨ji11, ji12⟩ : S55)); (case aB => exact x_bels); (case aF => exact (fun k_ hk => ⟨Kd.freshB (g := gb367) (o := .cells #[.int .i32 ((rd_T55 l0 x13_1).f0), .int .i32 ((rd_T55 l0 x13_1).f1)] 55 (0, 0)) (by (with_reducible repeat (first | refine blk_drewN ?_ _ | refine blk_drew ?_ | refine blk_alloc ?_ _)); refine blk_far ?_ NB367_368.out _; (with_reducible repeat (first | refine blk_drewN ?_ _ | refine blk_drew ?_ | refine blk_alloc ?_ _)); refine blk_far ?_ NB367_368.out _; (with_reducible repeat (first | refine blk_drewN ?_ _ | refine blk_drew ?_ | refine blk_alloc ?_ _)); exact BK367.out) k_ hk, Kd.freshB (g := gb368) (o := .cells #[.int .i32 (XB.bLo x23_2), .int .i32 (XB.bHi x23_2)] 55 (0, 0)) (by (with_reducible repeat (first | refine blk_drewN ?_ _ | refine blk_drew ?_ | refine blk_alloc ?_ _)); refine blk_put (cs := #[.int .i32 (XB.bLo x23_2), .int .i32 0]) ?_ 1 _ rfl; (with_reducible repeat (first | refine blk_drewN ?_ _ | refine blk_drew ?_ | refine blk_alloc ?_ _)); refine blk_put (cs := #[.int .i32 0, .int .i32 0]) ?_ 0 _ rfl; (with_reducible repeat (first | refine blk_drewN ?_ _ | refine blk_drew ?_ | refine blk_alloc ?_ _)); exact BK368.out) k_ hk⟩)); (case aO => exact (by (with_reducible repeat (first | apply Kd.R_alloc | apply Kd.R_drewN | apply Kd.R_drew)); exact Kd.R_mono (Kd.R_far (p := ⟨gb368, 1, none⟩) (Kd.R_far (p := ⟨gb368, 0, none⟩) (Kd.R_mono HO_4.out (fun k_ hk => (⟨hk, hk.2⟩ : _ ∧ k_ ≠ gb368))) (fun _ hk => hk.2) (.int .i32 (XB.bLo x23_2))) (fun _ hk => hk.2) (.int .i32 (XB.bHi x23_2))) (fun _ hk => ⟨hk.1.1, hk.1.2⟩))); (case aS => exact (below_size x_bels)); (case aL => have := LMc14.out; omega); intro v370 w19 ho hb hg hat; rw [← Ny369.out] at ho; have n0_ := x_m (blk_grown (g := gb367) (o := .cells #[.int .i32 ((rd_T55 l0 x13_1).f0), .int .i32 ((rd_T55 l0 x13_1).f1)] 55 (0, 0)) (by (with_reducible repeat (first | refine blk_drewN ?_ _ | refine blk_drew ?_ | refine blk_alloc ?_ _)); refine blk_far ?_ NB367_368.out _; (with_reducible repeat (first | refine blk_drewN ?_ _ | refine blk_drew ?_ | refine blk_alloc ?_ _)); refine blk_far ?_ NB367_368.out _; (with_reducible repeat (first | refine blk_drewN ?_ _ | refine blk_drew ?_ | refine blk_alloc ?_ _)); exact BK367.out) hg (Kd.R_away HO_4.out (fun _ hk => hk.1))); have n1_ := x_m (blk_grown (g := gb368) (o := .cells #[.int .i32 (XB.bLo x23_2), .int .i32 (XB.bHi x23_2)] 55 (0, 0)) (by (with_reducible repeat (first | refine blk_drewN ?_ _ | refine blk_drew ?_ | refine blk_alloc ?_ _)); refine blk_put (cs := #[.int .i32 (XB.bLo x23_2), .int .i32 0]) ?_ 1 _ rfl; (with_reducible repeat (first | refine blk_drewN ?_ _ | refine blk_drew ?_ | refine blk_alloc ?_ _)); refine blk_put (cs := #[.int .i32 0, .int .i32 0]) ?_ 0 _ rfl; (with_reducible repeat (first | refine blk_drewN ?_ _ | refine blk_drew ?_ | refine blk_alloc ?_ _)); exact BK368.out) hg (Kd.R_away HO_4.out (fun _ hk => hk.2))); have n2_ := x_m (hb); have n3_ := x_m (ho); clear BK367; clear BK368; clear HB; clear HO_4; have BK367 := n0_; have BK368 := n1_; have HB := n2_; have HO371 := n3_; clear n0_ n1_ n2_ n3_; clear ho hb hg hat))
      repeat (go_quiet (first | ((with_reducible refine gate_dst (N := 25) rfl ?_); refine Kd.event_run (v := .agg #[.int .i32 (XB.bLo x23_2), .int .i32 (XB.bHi x23_2)]) rfl (XB.run_index rfl rfl rfl (hbi _)) ?_) | ((with_reducible refine gate_dst (N := 8) rfl ?_); refine box_event ?hg (N := 8) ?hd (cs := #[.int .i32 0, .int .i32 0]) (t := 55) ?hr ?_; (case hd => rfl); (case hg => rfl); (case hr => first | (go_simp; done) | (go_simp; rfl)); intro gb368 hg w15 hbox hb; have n0_ := x_m (Kd.R_below (Kd.R_elderB (x_rr HO_4.out) gb368 (Nat.le_of_eq hg.symm)) hb); have n1_ := x_m (blk_below (g := gb367) (o := .cells #[.int .i32 ((rd_T55 l0 x13_1).f0), .int .i32 ((rd_T55 l0 x13_1).f1)] 55 (0, 0)) (x_bk BK367.out) hb); have n2_ := x_m (below_step x_bels hb); have n3_ := x_m (hbox); have n4_ := x_m (x_gs hg (below_size x_bels) : w.heap.size ≤ gb368); have n5_ := x_m (x_gs hg (below_size x_bels) : w.heap.size ≤ gb368); have n6_ := x_m ((by rw [hg]; exact Nat.ne_of_lt (blk_lt (g := gb367) (o := .cells #[.int .i32 ((rd_T55 l0 x13_1).f0), .int .i32 ((rd_T55 l0 x13_1).f1)] 55 (0, 0)) (x_bk BK367.out)) : gb367 ≠ gb368)); have n7_ := x_m ((by rw [hg]; exact Nat.ne_of_gt (blk_lt (g := gb367) (o := .cells #[.int .i32 ((rd_T55 l0 x13_1).f0), .int .i32 ((rd_T55 l0 x13_1).f1)] 55 (0, 0)) (x_bk BK367.out)) : gb368 ≠ gb367)); clear HO_4; clear BK367; clear HB; have HO_4 := n0_; have BK367 := n1_; have HB := n2_; have BK368 := n3_; have GW368 := n4_; have GE368 := n5_; have NB367_368 := n6_; have NB368_367 := n7_; clear n0_ n1_ n2_ n3_ n4_ n5_ n6_ n7_; clear hb hbox hg; have hnb16 := NB368_367.out; have hnc16 := NB367_368.out; have hcz17_0 := x_cz BK368.out 0 rfl; have hcz17_1 := x_cz BK368.out 1 rfl; have hfz17_0 := blk_frozen BK368.out 0; have hfz17_1 := blk_frozen BK368.out 1; have hcz18_0 := x_cz BK367.out 0 rfl; have hcz18_1 := x_cz BK367.out 1 rfl; have hfz18_0 := blk_frozen BK367.out 0; have hfz18_1 := blk_frozen BK367.out 1) | ((with_reducible refine gate_builtin (b := .append) (xs := #[.tmp 39, .tmp 43]) rfl ?_); at_builtin; refine Kd.R_append k55 (w0 := w) w.heap.size rfl (.tmp 39) (.tmp 43) 25 55 (.agg #[(.int .i32 0), (.int .i32 0)]) 8 rfl Tryd.underlying25 info55 rfl (by decide) (by omega) u4 x4_2 (⟨ji11, ji12⟩ : S55) [.int .i32 ji11, .int .i32 ji12] (fun k_ => k_ ≠ gb367 ∧ k_ ≠ gb368) (fun _ => False) rfl (by first | (go_simp; done) | (go_simp; rfl)) ?aP (fun _ hk => hk.elim) ?aF ?aO ?aB ?aS ?aL ?_; (case aP => exact k55_mkM _ _ _ (⟨ji11, ji12⟩ : S55)); (case aB => exact x_bels); (case aF => exact (fun k_ hk => ⟨Kd.freshB (g := gb367) (o := .cells #[.int .i32 ((rd_T55 l0 x13_1).f0), .int .i32 ((rd_T55 l0 x13_1).f1)] 55 (0, 0)) (by (with_reducible repeat (first | refine blk_drewN ?_ _ | refine blk_drew ?_ | refine blk_alloc ?_ _)); refine blk_far ?_ NB367_368.out _; (with_reducible repeat (first | refine blk_drewN ?_ _ | refine blk_drew ?_ | refine blk_alloc ?_ _)); refine blk_far ?_ NB367_368.out _; (with_reducible repeat (first | refine blk_drewN ?_ _ | refine blk_drew ?_ | refine blk_alloc ?_ _)); exact BK367.out) k_ hk, Kd.freshB (g := gb368) (o := .cells #[.int .i32 (XB.bLo x23_2), .int .i32 (XB.bHi x23_2)] 55 (0, 0)) (by (with_reducible repeat (first | refine blk_drewN ?_ _ | refine blk_drew ?_ | refine blk_alloc ?_ _)); refine blk_put (cs := #[.int .i32 (XB.bLo x23_2), .int .i32 0]) ?_ 1 _ rfl; (with_reducible repeat (first | refine blk_drewN ?_ _ | refine blk_drew ?_ | refine blk_alloc ?_ _)); refine blk_put (cs := #[.int .i32 0, .int .i32 0]) ?_ 0 _ rfl; (with_reducible repeat (first | refine blk_drewN ?_ _ | refine blk_drew ?_ | refine blk_alloc ?_ _)); exact BK368.out) k_ hk⟩)); (case aO => exact (by (with_reducible repeat (first | apply Kd.R_alloc | apply Kd.R_drewN | apply Kd.R_drew)); exact Kd.R_mono (Kd.R_far (p := ⟨gb368, 1, none⟩) (Kd.R_far (p := ⟨gb368, 0, none⟩) (Kd.R_mono HO_4.out (fun k_ hk => (⟨hk, hk.2⟩ : _ ∧ k_ ≠ gb368))) (fun _ hk => hk.2) (.int .i32 (XB.bLo x23_2))) (fun _ hk => hk.2) (.int .i32 (XB.bHi x23_2))) (fun _ hk => ⟨hk.1.1, hk.1.2⟩))); (case aS => exact (below_size x_bels)); (case aL => have := LMc14.out; omega); intro v370 w19 ho hb hg hat; rw [← Ny369.out] at ho; have n0_ := x_m (blk_grown (g := gb367) (o := .cells #[.int .i32 ((rd_T55 l0 x13_1).f0), .int .i32 ((rd_T55 l0 x13_1).f1)] 55 (0, 0)) (by (with_reducible repeat (first | refine blk_drewN ?_ _ | refine blk_drew ?_ | refine blk_alloc ?_ _)); refine blk_far ?_ NB367_368.out _; (with_reducible repeat (first | refine blk_drewN ?_ _ | refine blk_drew ?_ | refine blk_alloc ?_ _)); refine blk_far ?_ NB367_368.out _; (with_reducible repeat (first | refine blk_drewN ?_ _ | refine blk_drew ?_ | refine blk_alloc ?_ _)); exact BK367.out) hg (Kd.R_away HO_4.out (fun _ hk => hk.1))); have n1_ := x_m (blk_grown (g := gb368) (o := .cells #[.int .i32 (XB.bLo x23_2), .int .i32 (XB.bHi x23_2)] 55 (0, 0)) (by (with_reducible repeat (first | refine blk_drewN ?_ _ | refine blk_drew ?_ | refine blk_alloc ?_ _)); refine blk_put (cs := #[.int .i32 (XB.bLo x23_2), .int .i32 0]) ?_ 1 _ rfl; (with_reducible repeat (first | refine blk_drewN ?_ _ | refine blk_drew ?_ | refine blk_alloc ?_ _)); refine blk_put (cs := #[.int .i32 0, .int .i32 0]) ?_ 0 _ rfl; (with_reducible repeat (first | refine blk_drewN ?_ _ | refine blk_drew ?_ | refine blk_alloc ?_ _)); exact BK368.out) hg (Kd.R_away HO_4.out (fun _ hk => hk.2))); have n2_ := x_m (hb); have n3_ := x_m (ho); clear BK367; clear BK368; clear HB; clear HO_4; have BK367 := n0_; have BK368 := n1_; have HB := n2_; have HO371 := n3_; clear n0_ n1_ n2_ n3_; clear ho hb hg hat)); try go_wp2_with (first | ((with_reducible refine gate_dst (N := 25) rfl ?_); refine Kd.event_run (v := .agg #[.int .i32 (XB.bLo x23_2), .int .i32 (XB.bHi x23_2)]) rfl (XB.run_index rfl rfl rfl (hbi _)) ?_) | ((with_reducible refine gate_dst (N := 8) rfl ?_); refine box_event ?hg (N := 8) ?hd (cs := #[.int .i32 0, .int .i32 0]) (t := 55) ?hr ?_; (case hd => rfl); (case hg => rfl); (case hr => first | (go_simp; done) | (go_simp; rfl)); intro gb368 hg w15 hbox hb; have n0_ := x_m (Kd.R_below (Kd.R_elderB (x_rr HO_4.out) gb368 (Nat.le_of_eq hg.symm)) hb); have n1_ := x_m (blk_below (g := gb367) (o := .cells #[.int .i32 ((rd_T55 l0 x13_1).f0), .int .i32 ((rd_T55 l0 x13_1).f1)] 55 (0, 0)) (x_bk BK367.out) hb); have n2_ := x_m (below_step x_bels hb); have n3_ := x_m (hbox); have n4_ := x_m (x_gs hg (below_size x_bels) : w.heap.size ≤ gb368); have n5_ := x_m (x_gs hg (below_size x_bels) : w.heap.size ≤ gb368); have n6_ := x_m ((by rw [hg]; exact Nat.ne_of_lt (blk_lt (g := gb367) (o := .cells #[.int .i32 ((rd_T55 l0 x13_1).f0), .int .i32 ((rd_T55 l0 x13_1).f1)] 55 (0, 0)) (x_bk BK367.out)) : gb367 ≠ gb368)); have n7_ := x_m ((by rw [hg]; exact Nat.ne_of_gt (blk_lt (g := gb367) (o := .cells #[.int .i32 ((rd_T55 l0 x13_1).f0), .int .i32 ((rd_T55 l0 x13_1).f1)] 55 (0, 0)) (x_bk BK367.out)) : gb368 ≠ gb367)); clear HO_4; clear BK367; clear HB; have HO_4 := n0_; have BK367 := n1_; have HB := n2_; have BK368 := n3_; have GW368 := n4_; have GE368 := n5_; have NB367_368 := n6_; have NB368_367 := n7_; clear n0_ n1_ n2_ n3_ n4_ n5_ n6_ n7_; clear hb hbox hg; have hnb16 := NB368_367.out; have hnc16 := NB367_368.out; have hcz17_0 := x_cz BK368.out 0 rfl; have hcz17_1 := x_cz BK368.out 1 rfl; have hfz17_0 := blk_frozen BK368.out 0; have hfz17_1 := blk_frozen BK368.out 1; have hcz18_0 := x_cz BK367.out 0 rfl; have hcz18_1 := x_cz BK367.out 1 rfl; have hfz18_0 := blk_frozen BK367.out 0; have hfz18_1 := blk_frozen BK367.out 1) | ((with_reducible refine gate_builtin (b := .append) (xs := #[.tmp 39, .tmp 43]) rfl ?_); at_builtin; refine Kd.R_append k55 (w0 := w) w.heap.size rfl (.tmp 39) (.tmp 43) 25 55 (.agg #[(.int .i32 0), (.int .i32 0)]) 8 rfl Tryd.underlying25 info55 rfl (by decide) (by omega) u4 x4_2 (⟨ji11, ji12⟩ : S55) [.int .i32 ji11, .int .i32 ji12] (fun k_ => k_ ≠ gb367 ∧ k_ ≠ gb368) (fun _ => False) rfl (by first | (go_simp; done) | (go_simp; rfl)) ?aP (fun _ hk => hk.elim) ?aF ?aO ?aB ?aS ?aL ?_; (case aP => exact k55_mkM _ _ _ (⟨ji11, ji12⟩ : S55)); (case aB => exact x_bels); (case aF => exact (fun k_ hk => ⟨Kd.freshB (g := gb367) (o := .cells #[.int .i32 ((rd_T55 l0 x13_1).f0), .int .i32 ((rd_T55 l0 x13_1).f1)] 55 (0, 0)) (by (with_reducible repeat (first | refine blk_drewN ?_ _ | refine blk_drew ?_ | refine blk_alloc ?_ _)); refine blk_far ?_ NB367_368.out _; (with_reducible repeat (first | refine blk_drewN ?_ _ | refine blk_drew ?_ | refine blk_alloc ?_ _)); refine blk_far ?_ NB367_368.out _; (with_reducible repeat (first | refine blk_drewN ?_ _ | refine blk_drew ?_ | refine blk_alloc ?_ _)); exact BK367.out) k_ hk, Kd.freshB (g := gb368) (o := .cells #[.int .i32 (XB.bLo x23_2), .int .i32 (XB.bHi x23_2)] 55 (0, 0)) (by (with_reducible repeat (first | refine blk_drewN ?_ _ | refine blk_drew ?_ | refine blk_alloc ?_ _)); refine blk_put (cs := #[.int .i32 (XB.bLo x23_2), .int .i32 0]) ?_ 1 _ rfl; (with_reducible repeat (first | refine blk_drewN ?_ _ | refine blk_drew ?_ | refine blk_alloc ?_ _)); refine blk_put (cs := #[.int .i32 0, .int .i32 0]) ?_ 0 _ rfl; (with_reducible repeat (first | refine blk_drewN ?_ _ | refine blk_drew ?_ | refine blk_alloc ?_ _)); exact BK368.out) k_ hk⟩)); (case aO => exact (by (with_reducible repeat (first | apply Kd.R_alloc | apply Kd.R_drewN | apply Kd.R_drew)); exact Kd.R_mono (Kd.R_far (p := ⟨gb368, 1, none⟩) (Kd.R_far (p := ⟨gb368, 0, none⟩) (Kd.R_mono HO_4.out (fun k_ hk => (⟨hk, hk.2⟩ : _ ∧ k_ ≠ gb368))) (fun _ hk => hk.2) (.int .i32 (XB.bLo x23_2))) (fun _ hk => hk.2) (.int .i32 (XB.bHi x23_2))) (fun _ hk => ⟨hk.1.1, hk.1.2⟩))); (case aS => exact (below_size x_bels)); (case aL => have := LMc14.out; omega); intro v370 w19 ho hb hg hat; rw [← Ny369.out] at ho; have n0_ := x_m (blk_grown (g := gb367) (o := .cells #[.int .i32 ((rd_T55 l0 x13_1).f0), .int .i32 ((rd_T55 l0 x13_1).f1)] 55 (0, 0)) (by (with_reducible repeat (first | refine blk_drewN ?_ _ | refine blk_drew ?_ | refine blk_alloc ?_ _)); refine blk_far ?_ NB367_368.out _; (with_reducible repeat (first | refine blk_drewN ?_ _ | refine blk_drew ?_ | refine blk_alloc ?_ _)); refine blk_far ?_ NB367_368.out _; (with_reducible repeat (first | refine blk_drewN ?_ _ | refine blk_drew ?_ | refine blk_alloc ?_ _)); exact BK367.out) hg (Kd.R_away HO_4.out (fun _ hk => hk.1))); have n1_ := x_m (blk_grown (g := gb368) (o := .cells #[.int .i32 (XB.bLo x23_2), .int .i32 (XB.bHi x23_2)] 55 (0, 0)) (by (with_reducible repeat (first | refine blk_drewN ?_ _ | refine blk_drew ?_ | refine blk_alloc ?_ _)); refine blk_put (cs := #[.int .i32 (XB.bLo x23_2), .int .i32 0]) ?_ 1 _ rfl; (with_reducible repeat (first | refine blk_drewN ?_ _ | refine blk_drew ?_ | refine blk_alloc ?_ _)); refine blk_put (cs := #[.int .i32 0, .int .i32 0]) ?_ 0 _ rfl; (with_reducible repeat (first | refine blk_drewN ?_ _ | refine blk_drew ?_ | refine blk_alloc ?_ _)); exact BK368.out) hg (Kd.R_away HO_4.out (fun _ hk => hk.2))); have n2_ := x_m (hb); have n3_ := x_m (ho); clear BK367; clear BK368; clear HB; clear HO_4; have BK367 := n0_; have BK368 := n1_; have HB := n2_; have HO371 := n3_; clear n0_ n1_ n2_ n3_; clear ho hb hg hat)))
      go_roundg k2
      case measure => have := HK1.out; have := HK2.out; omega
      case rel => exact ⟨(y369), (wrap64 (x23_2 + 1)), x_eqs, H', ⟨by have := HK1.out; have := HK2.out; omega⟩, ⟨by (with_reducible repeat (first | apply Kd.R_alloc | apply Kd.R_drewN | apply Kd.R_drew)); exact Kd.R_mono HO371.out (fun _ hk => hk.1)⟩, ⟨by (with_reducible repeat (first | refine blk_drewN ?_ _ | refine blk_drew ?_ | refine blk_alloc ?_ _)); exact BK367.out⟩, ⟨by repeat (first | (with_reducible first | exact HB.out | apply below_alloc | apply pw_below_drewN | apply below_drew1 | refine below_set ?_ GE367.out | refine below_set ?_ GE368.out) | exact HB.out)⟩⟩
     rw [if_neg c10z] at H
     exact absurd H (by simp)
def seqs_Join.f (k : Nat) (l0 : List (List (S45))) : Option ((List (S55)) × Int) := (seqs_all.f k l0).bind fun bt411 => (if bt411.2 = 0 then ((sets_Make.f k bt411.1).bind fun bt415 => (some (bt415.1, bt415.2))) else (some (([] : List (S55)), bt411.2)))
theorem seqs_Join.calls (k : Nat) (A0 : Option Addr) (c0 : Nat) (l0 : List (List (S45))) (r1 : List (S55)) (r2 : Int) (w : World) (hr0 : Kd.C (Kd.slice 45 k45) w A0 l0.length l0) (hc0 : l0.length ≤ c0) (h : seqs_Join.f k l0 = some (r1, r2)) (hG : GOK w := by first | (with_reducible exact HG_.out) | exact GOK.below HG_.out (by repeat (first | (with_reducible exact Below.refl _ _) | (with_reducible first | exact HB.out | apply below_alloc | apply pw_below_drewN | apply below_drew1 | refine below_set ?_ (Aside0.out (by assumption))) | exact HB.out)) | exact GOK.drewN HG_.out _ | exact GOK.drewN (GOK.drewN HG_.out _) _ | exact GOK.drew HG_.out) :
  Calls Tryd.prog 9 #[.slice A0 l0.length c0] w fun e w' => ∃ v0_ : Value, e = .returned (.tuple #[v0_, .int .i64 r2]) ∧ Kd.R k55 55 w' w.heap.size (fun _ => True) v0_ r1 ∧ Below w.heap.size w w' := by
 have HG_ := x_m hG
 clear hG
 have HR0 := x_m hr0
 have HC0 := x_m hc0
 clear hr0 hc0
 have HB := x_m (Below.refl w.heap.size w)
 have H : ((seqs_all.f k l0).bind fun bt411 => (if bt411.2 = 0 then ((sets_Make.f k bt411.1).bind fun bt415 => (some (bt415.1, bt415.2))) else (some (([] : List (S55)), bt411.2)))) = some (r1, r2) := h
 clear h
 replace H := x_bi H
 obtain ⟨⟨t411, t412⟩, A20, H⟩ := H
 have A2 := x_m A20
 clear A20
 rcases x_ei H with ⟨c3, c3b0, c3b1, H⟩ | ⟨c3b0, c3b1, H⟩
 ·simp only [Option.some.injEq, Prod.mk.injEq] at H
  obtain ⟨rfl, rfl⟩ := H
  go_enter Tryd.func9, Tryd.ntmps9
  go_wp2_with (first | ((with_reducible refine gate_callee (f := 26) rfl ?_); refine goesL_ (some 8) rfl rfl Tryd.func26 (by kernel_rfl) rfl #[.slice A0 l0.length c0] rfl x_ag ?_; (with_reducible refine (seqs_all.calls k _ _ l0 t411 t412 _ ?side1 ?side2 A2.out).mono ?_); (case side1 => exact x_cc HR0.out); (case side2 => exact HC0.out); rintro e w8 ⟨v413, rfl, ho0, hb⟩; refine ⟨_, rfl, ?_⟩; have HO414 := x_m (Kd.R_lower ho0 (below_size x_bel)); replace HB := x_m (below_step x_bel hb); (try clear hb); (try clear hb2); (try clear hk); (try clear hi); (try clear ho0)))
  go_ret2
  exact ⟨_, by first | rfl | (simp [errW_none, errW_some] <;> rfl) | (simp [*, errW_none, errW_some] <;> rfl), by first | exact Kd.R_nil _ _ _ _ _ | exact Kd.N_nil _ _ _ _ _ | exact Kd.V_nil _ _ _ _ _ | exact Kd.Q_nil _ _ _ _ _ | exact Kd.S_nil _ _ _ _ _, x_bel⟩

 replace H := x_bi H
 obtain ⟨⟨t415, t416⟩, A40, H⟩ := H
 have A4 := x_m A40
 clear A40
 simp only [Option.some.injEq, Prod.mk.injEq] at H
 obtain ⟨rfl, rfl⟩ := H
 go_enter Tryd.func9, Tryd.ntmps9
 go_wp2_with (first | ((with_reducible refine gate_callee (f := 26) rfl ?_); refine goesL_ (some 8) rfl rfl Tryd.func26 (by kernel_rfl) rfl #[.slice A0 l0.length c0] rfl x_ag ?_; (with_reducible refine (seqs_all.calls k _ _ l0 t411 t412 _ ?side1 ?side2 A2.out).mono ?_); (case side1 => exact x_cc HR0.out); (case side2 => exact HC0.out); rintro e w5 ⟨v413, rfl, ho0, hb⟩; refine ⟨_, rfl, ?_⟩; have HO414 := x_m (Kd.R_lower ho0 (below_size x_bel)); replace HB := x_m (below_step x_bel hb); (try clear hb); (try clear hb2); (try clear hk); (try clear hi); (try clear ho0); obtain ⟨Ao6, co6, eo6⟩ := Kd.R_slice HO414.out; subst eo6) | ((with_reducible refine gate_callee (f := 27) rfl ?_); refine goesL_ (some 15) rfl rfl Tryd.func27 (by kernel_rfl) rfl #[.slice Ao6 t411.length co6] rfl x_ag ?_; (with_reducible refine (sets_Make.calls k _ _ t411 t415 t416 _ ?side1 ?side2 A4.out).mono ?_); (case side1 => repeat (first | exact (Kd.R_reads' HO414.out).2.2 | (with_reducible refine Kd.C_alloc ?_ _) | (with_reducible refine Kd.C_drewN ?_ _) | (with_reducible refine Kd.C_drew ?_))); (case side2 => exact (Kd.R_reads' HO414.out).2.1); rintro e w7 ⟨v417, rfl, ho0, hb⟩; refine ⟨_, rfl, ?_⟩; have n0_ := x_m (Kd.R_elder' (x_rr HO414.out) (Kd.R_base ho0) hb); have n1_ := x_m (Kd.R_lower (Kd.R_new' ho0 (Kd.R_lt (x_rr HO414.out))) (below_size x_bel)); have n2_ := x_m (below_step x_bel hb); clear HO414; clear HB; have HO414 := n0_; have HO418 := n1_; have HB := n2_; clear n0_ n1_ n2_; (try clear hb); (try clear hb2); (try clear hk); (try clear hi); (try clear ho0)))
 go_ret2
 exact ⟨_, by first | rfl | (simp [errW_none, errW_some] <;> rfl) | (simp [*, errW_none, errW_some] <;> rfl), by (with_reducible repeat (first | apply Kd.R_alloc | apply Kd.R_drewN | apply Kd.R_drew)); exact Kd.R_mono HO418.out (fun _ hk => trivial), x_bel⟩
def seqs_Count.l0 : Nat → Int → List (S55) → Int → Int → Option (Int × Int)
 | 0, _, _, _, _ => none
 | k + 1, x6, x17, x18, x19 => if x19 < x18 then (if 0 ≤ x19 then (if x19 < (x17.length : Int) then (seqs_Count.l0 k (wrap64 (x6 + (wrap64 ((wrap64 (wrap32 (((rd_T55 x17 x19).f1) - ((rd_T55 x17 x19).f0)))) + 1)))) x17 x18 (wrap64 (x19 + 1))) else (none)) else (none)) else (some (x6, 0))
def seqs_Count.f (k : Nat) (l0 : List (List (S45))) : Option (Int × Int) := (seqs_all.f k l0).bind fun bt419 => (if bt419.2 = 0 then (seqs_Count.l0 k 0 bt419.1 (bt419.1.length : Int) 0) else (some (0, bt419.2)))
theorem seqs_Count.calls (k : Nat) (A0 : Option Addr) (c0 : Nat) (l0 : List (List (S45))) (r1 : Int) (r2 : Int) (w : World) (hr0 : Kd.C (Kd.slice 45 k45) w A0 l0.length l0) (hc0 : l0.length ≤ c0) (h : seqs_Count.f k l0 = some (r1, r2)) (hG : GOK w := by first | (with_reducible exact HG_.out) | exact GOK.below HG_.out (by repeat (first | (with_reducible exact Below.refl _ _) | (with_reducible first | exact HB.out | apply below_alloc | apply pw_below_drewN | apply below_drew1 | refine below_set ?_ (Aside0.out (by assumption))) | exact HB.out)) | exact GOK.drewN HG_.out _ | exact GOK.drewN (GOK.drewN HG_.out _) _ | exact GOK.drew HG_.out) :
  Calls Tryd.prog 10 #[.slice A0 l0.length c0] w fun e w' => e = .returned (.tuple #[.int .i64 r1, .int .i64 r2]) ∧ Below w.heap.size w w' := by
 have HG_ := x_m hG
 clear hG
 have hu55 := Tryd.underlying55
 have HR0 := x_m hr0
 have HC0 := x_m hc0
 clear hr0 hc0
 have HB := x_m (Below.refl w.heap.size w)
 have H : ((seqs_all.f k l0).bind fun bt419 => (if bt419.2 = 0 then (seqs_Count.l0 k 0 bt419.1 (bt419.1.length : Int) 0) else (some (0, bt419.2)))) = some (r1, r2) := h
 clear h
 replace H := x_bi H
 obtain ⟨⟨t419, t420⟩, A20, H⟩ := H
 have A2 := x_m A20
 clear A20
 rcases x_ei H with ⟨c3, c3b0, c3b1, H⟩ | ⟨c3b0, c3b1, H⟩
 ·simp only [Option.some.injEq, Prod.mk.injEq] at H
  obtain ⟨rfl, rfl⟩ := H
  go_enter Tryd.func10, Tryd.ntmps10
  go_wp2_with (first | ((with_reducible refine gate_callee (f := 26) rfl ?_); refine goesL_ (some 11) rfl rfl Tryd.func26 (by kernel_rfl) rfl #[.slice A0 l0.length c0] rfl x_ag ?_; (with_reducible refine (seqs_all.calls k _ _ l0 t419 t420 _ ?side1 ?side2 A2.out).mono ?_); (case side1 => exact x_cc HR0.out); (case side2 => exact HC0.out); rintro e w11 ⟨v421, rfl, ho0, hb⟩; refine ⟨_, rfl, ?_⟩; have HO422 := x_m (Kd.R_lower ho0 (below_size x_bel)); replace HB := x_m (below_step x_bel hb); (try clear hb); (try clear hb2); (try clear hk); (try clear hi); (try clear ho0)))
  go_ret2
  exact ⟨x_er, x_bel⟩

 have H' := x_m H
 clear H
 go_enter Tryd.func10, Tryd.ntmps10
 go_wp2_with (first | ((with_reducible refine gate_callee (f := 26) rfl ?_); refine goesL_ (some 11) rfl rfl Tryd.func26 (by kernel_rfl) rfl #[.slice A0 l0.length c0] rfl x_ag ?_; (with_reducible refine (seqs_all.calls k _ _ l0 t419 t420 _ ?side1 ?side2 A2.out).mono ?_); (case side1 => exact x_cc HR0.out); (case side2 => exact HC0.out); rintro e w4 ⟨v421, rfl, ho0, hb⟩; refine ⟨_, rfl, ?_⟩; have HO422 := x_m (Kd.R_lower ho0 (below_size x_bel)); replace HB := x_m (below_step x_bel hb); (try clear hb); (try clear hb2); (try clear hk); (try clear hi); (try clear ho0); obtain ⟨Ao5, co5, eo5⟩ := Kd.R_slice HO422.out; subst eo5))
 go_loopg [6, 19] k (fun kq v6 v19 w' => ∃ (x6_1 : Int) (x19_1 : Int), v6 = .int .i64 x6_1 ∧ v19 = .int .i64 x19_1 ∧ Aside0 (seqs_Count.l0 kq x6_1 t419 (t419.length : Int) x19_1 = some (r1, r2)) ∧ Aside0 (kq ≤ k) ∧ Aside0 (Kd.R k55 55 w' w.heap.size (fun _ => True) (.slice Ao5 t419.length co5) t419) ∧ Aside0 (Below w.heap.size w w'))
 case atStart => exact ⟨(0), (0), x_eqs, x_eqs, H', ⟨Nat.le_refl _⟩, ⟨x_rr HO422.out⟩, ⟨x_bel⟩⟩
 case round =>
  clear H'
  obtain ⟨x6_1, x19_1, rfl, rfl, HA, HK1, HO_17, HB⟩ := hrel
  cases gk with
  | zero => exact absurd HA.out (by simp [seqs_Count.l0])
  | succ k1 =>
   have H := HA.out
   clear HA
   simp only [seqs_Count.l0] at H
   rcases x_fi H with ⟨c6b0, H⟩ | ⟨c6b0, H⟩
   ·simp only [Option.some.injEq, Prod.mk.injEq] at H
    obtain ⟨rfl, rfl⟩ := H
    go_wp2
    go_ret2
    exact ⟨x_er, x_bel⟩
   obtain ⟨c7b0, H⟩ := x_gd H
   obtain ⟨c8b0, H⟩ := x_gd H
   have H' := x_m H
   clear H
   have p423 : 0 ≤ (x19_1 : Int) := x_da
   have q423 : x19_1 < (t419.length : Int) := x_da
   obtain ⟨ad423, e423, hx423_0, hx423_1⟩ := at_T55 (Kd.R_reads' HO_17.out).2.2 x19_1 p423 q423
   cases e423
   replace p423 := eq_true p423
   replace q423 := eq_true q423
   go_wp2_with (first | ((with_reducible refine gate_dst (N := 8) rfl ?_); refine box_event ?hg (N := 8) ?hd (cs := #[.int .i32 0, .int .i32 0]) (t := 55) ?hr ?_; (case hd => rfl); (case hg => rfl); (case hr => first | (go_simp; done) | (go_simp; rfl)); intro gb424 hg w9 hbox hb; have n0_ := x_m (Kd.R_below (Kd.R_elderB (x_rr HO_17.out) gb424 (Nat.le_of_eq hg.symm)) hb); have n1_ := x_m (below_step x_bel hb); have n2_ := x_m (hbox); have n3_ := x_m (x_gs hg (below_size x_bel) : w.heap.size ≤ gb424); have n4_ := x_m (x_gs hg (below_size x_bel) : w.heap.size ≤ gb424); clear HO_17; clear HB; have HO_17 := n0_; have HB := n1_; have BK424 := n2_; have GW424 := n3_; have GE424 := n4_; clear n0_ n1_ n2_ n3_ n4_; clear hb hbox hg; have hcz10_0 := x_cz BK424.out 0 rfl; have hcz10_1 := x_cz BK424.out 1 rfl; have hfz10_0 := blk_frozen BK424.out 0; have hfz10_1 := blk_frozen BK424.out 1))
   go_roundg k1
   case measure => have := HK1.out; omega
   case rel => exact ⟨(wrap64 (x6_1 + (wrap64 ((wrap64 (wrap32 (((rd_T55 t419 x19_1).f1) - ((rd_T55 t419 x19_1).f0)))) + 1)))), (wrap64 (x19_1 + 1)), x_eqs, x_eqs, H', ⟨by have := HK1.out; omega⟩, ⟨by (with_reducible repeat (first | apply Kd.R_alloc | apply Kd.R_drewN | apply Kd.R_drew)); exact Kd.R_mono (Kd.R_far (p := ⟨gb424, 1, none⟩) (Kd.R_far (p := ⟨gb424, 0, none⟩) (Kd.R_mono HO_17.out (fun k_ hk => (⟨hk, hk.2⟩ : _ ∧ k_ ≠ gb424))) (fun _ hk => hk.2) (.int .i32 ((rd_T55 t419 x19_1).f0))) (fun _ hk => hk.2) (.int .i32 ((rd_T55 t419 x19_1).f1))) (fun _ hk => trivial)⟩, ⟨by repeat (first | (with_reducible first | exact HB.out | apply below_alloc | apply pw_below_drewN | apply below_drew1 | refine below_set ?_ GE424.out) | exact HB.out)⟩⟩
theorem utf8_first_all : ((List.range 256).all fun c => Go.Pinned.utf8FirstZ[c]? == some (Lib.firstT c)) = true := by kernel_rfl
theorem utf8_tabs {w : World} (h : GOK w) : Lib.Utf8Tabs 3 4 w := by
 refine ⟨fun c hc => h.utf8_first c _ ?_, fun i hi => ⟨h.utf8_acceptRanges (2 * i) _ ?_, h.utf8_acceptRanges (2 * i + 1) _ ?_⟩⟩
 ·have e := eq_of_beq (List.all_eq_true.mp utf8_first_all c (List.mem_range.mpr hc))
  unfold G_utf8_first
  rw [List.getElem?_map, e]
  rfl
 ·rcases (by omega : i = 0 ∨ i = 1 ∨ i = 2 ∨ i = 3 ∨ i = 4 ∨ i = 5 ∨ i = 6 ∨ i = 7 ∨ i = 8 ∨ i = 9 ∨ i = 10 ∨ i = 11 ∨ i = 12 ∨ i = 13 ∨ i = 14 ∨ i = 15) with rfl | rfl | rfl | rfl | rfl | rfl | rfl | rfl | rfl | rfl | rfl | rfl | rfl | rfl | rfl | rfl <;> rfl
 rcases (by omega : i = 0 ∨ i = 1 ∨ i = 2 ∨ i = 3 ∨ i = 4 ∨ i = 5 ∨ i = 6 ∨ i = 7 ∨ i = 8 ∨ i = 9 ∨ i = 10 ∨ i = 11 ∨ i = 12 ∨ i = 13 ∨ i = 14 ∨ i = 15) with rfl | rfl | rfl | rfl | rfl | rfl | rfl | rfl | rfl | rfl | rfl | rfl | rfl | rfl | rfl | rfl <;> rfl
def utf8_DecodeRuneInString.f (k : Nat) (a0 : ByteArray) : Option (Int × Int) := some (((Lib.decodeGo a0).1 : Int), ((Lib.decodeGo a0).2 : Int))
theorem utf8_DecodeRuneInString.calls (k : Nat) (a0 : ByteArray) (r1 : Int) (r2 : Int) (w : World) (h : utf8_DecodeRuneInString.f k a0 = some (r1, r2)) (hG : GOK w := by first | (with_reducible exact HG_.out) | exact GOK.below HG_.out (by repeat (first | (with_reducible exact Below.refl _ _) | (with_reducible first | exact HB.out | apply below_alloc | apply pw_below_drewN | apply below_drew1 | refine below_set ?_ (Aside0.out (by assumption))) | exact HB.out)) | exact GOK.drewN HG_.out _ | exact GOK.drewN (GOK.drewN HG_.out _) _ | exact GOK.drew HG_.out) :
  Calls Tryd.prog 28 #[.string a0] w fun e w' => e = .returned (.tuple #[.int .i32 r1, .int .i64 r2]) ∧ Below w.heap.size w w' := by
 unfold utf8_DecodeRuneInString.f at h
 injection h with h
 injection h with h1 h2
 subst h1; subst h2
 exact Tryd.utf8_DecodeRuneInString a0 w (utf8_tabs hG)

mutual
def seqs_Width.j0 : Nat → List (S55) → Int → Int → Bool → Option (Int × Int)
 | 0, _, _, _, _ => none
 | k + 1, x8, x10, x11, x44 => if x44 = true then (some (0, 7)) else (seqs_Width.l0 k x10 x11 x8 (x8.length : Int) 0)
def seqs_Width.l0 : Nat → Int → Int → List (S55) → Int → Int → Option (Int × Int)
 | 0, _, _, _, _, _ => none
 | k + 1, x10, x11, x45, x46, x47 => if x47 < x46 then (if 0 ≤ x47 then (if x47 < (x45.length : Int) then (if ((rd_T55 x45 x47).f0) ≤ x10 then (if x10 ≤ ((rd_T55 x45 x47).f1) then (some (x11, 0)) else (seqs_Width.l0 k x10 x11 x45 x46 (wrap64 (x47 + 1)))) else (seqs_Width.l0 k x10 x11 x45 x46 (wrap64 (x47 + 1)))) else (none)) else (none)) else (some (0, 7))
end
def seqs_Width.f (k : Nat) (l0 : List (List (S45))) (a1 : ByteArray) (a2 : Int) : Option (Int × Int) := (seqs_all.f k l0).bind fun bt425 => (if bt425.2 = 0 then (if a2 < 0 then (some (0, 3)) else (if a2 > (a1.size : Int) then (some (0, 3)) else (if 0 ≤ a2 then (if a2 ≤ (a1.size : Int) then ((utf8_DecodeRuneInString.f k (a1.extract (a2 : Int).toNat a1.size)).bind fun bt429 => (if bt429.1 = 65533 then (seqs_Width.j0 k bt425.1 bt429.1 bt429.2 (decide (bt429.2 ≤ 1))) else (seqs_Width.j0 k bt425.1 bt429.1 bt429.2 false))) else (none)) else (none)))) else (some (0, bt425.2)))
theorem seqs_Width.calls (k : Nat) (A0 : Option Addr) (c0 : Nat) (l0 : List (List (S45))) (a1 : ByteArray) (a2 : Int) (r1 : Int) (r2 : Int) (w : World) (hr0 : Kd.C (Kd.slice 45 k45) w A0 l0.length l0) (hc0 : l0.length ≤ c0) (h : seqs_Width.f k l0 a1 a2 = some (r1, r2)) (hG : GOK w := by first | (with_reducible exact HG_.out) | exact GOK.below HG_.out (by repeat (first | (with_reducible exact Below.refl _ _) | (with_reducible first | exact HB.out | apply below_alloc | apply pw_below_drewN | apply below_drew1 | refine below_set ?_ (Aside0.out (by assumption))) | exact HB.out)) | exact GOK.drewN HG_.out _ | exact GOK.drewN (GOK.drewN HG_.out _) _ | exact GOK.drew HG_.out) :
  Calls Tryd.prog 11 #[.slice A0 l0.length c0, .string a1, .int .i64 a2] w fun e w' => e = .returned (.tuple #[.int .i64 r1, .int .i64 r2]) ∧ Below w.heap.size w w' := by
 have HG_ := x_m hG
 clear hG
 have hu55 := Tryd.underlying55
 have HR0 := x_m hr0
 have HC0 := x_m hc0
 clear hr0 hc0
 have HB := x_m (Below.refl w.heap.size w)
 have H : ((seqs_all.f k l0).bind fun bt425 => (if bt425.2 = 0 then (if a2 < 0 then (some (0, 3)) else (if a2 > (a1.size : Int) then (some (0, 3)) else (if 0 ≤ a2 then (if a2 ≤ (a1.size : Int) then ((utf8_DecodeRuneInString.f k (a1.extract (a2 : Int).toNat a1.size)).bind fun bt429 => (if bt429.1 = 65533 then (seqs_Width.j0 k bt425.1 bt429.1 bt429.2 (decide (bt429.2 ≤ 1))) else (seqs_Width.j0 k bt425.1 bt429.1 bt429.2 false))) else (none)) else (none)))) else (some (0, bt425.2)))) = some (r1, r2) := h
 clear h
 replace H := x_bi H
 obtain ⟨⟨t425, t426⟩, A40, H⟩ := H
 have A4 := x_m A40
 clear A40
 rcases x_ei H with ⟨c5, c5b0, c5b1, H⟩ | ⟨c5b0, c5b1, H⟩
 ·simp only [Option.some.injEq, Prod.mk.injEq] at H
  obtain ⟨rfl, rfl⟩ := H
  go_enter Tryd.func11, Tryd.ntmps11
  go_wp2_with (first | ((with_reducible refine gate_callee (f := 26) rfl ?_); refine goesL_ (some 16) rfl rfl Tryd.func26 (by kernel_rfl) rfl #[.slice A0 l0.length c0] rfl x_ag ?_; (with_reducible refine (seqs_all.calls k _ _ l0 t425 t426 _ ?side1 ?side2 A4.out).mono ?_); (case side1 => exact x_cc HR0.out); (case side2 => exact HC0.out); rintro e w30 ⟨v427, rfl, ho0, hb⟩; refine ⟨_, rfl, ?_⟩; have HO428 := x_m (Kd.R_lower ho0 (below_size x_bel)); replace HB := x_m (below_step x_bel hb); (try clear hb); (try clear hb2); (try clear hk); (try clear hi); (try clear ho0)))
  go_ret2
  exact ⟨x_er, x_bel⟩

 rcases x_if H with ⟨c6b0, H⟩ | ⟨c6b0, H⟩
 ·simp only [Option.some.injEq, Prod.mk.injEq] at H
  obtain ⟨rfl, rfl⟩ := H
  go_enter Tryd.func11, Tryd.ntmps11
  go_wp2_with (first | ((with_reducible refine gate_callee (f := 26) rfl ?_); refine goesL_ (some 16) rfl rfl Tryd.func26 (by kernel_rfl) rfl #[.slice A0 l0.length c0] rfl x_ag ?_; (with_reducible refine (seqs_all.calls k _ _ l0 t425 t426 _ ?side1 ?side2 A4.out).mono ?_); (case side1 => exact x_cc HR0.out); (case side2 => exact HC0.out); rintro e w7 ⟨v427, rfl, ho0, hb⟩; refine ⟨_, rfl, ?_⟩; have HO428 := x_m (Kd.R_lower ho0 (below_size x_bel)); replace HB := x_m (below_step x_bel hb); (try clear hb); (try clear hb2); (try clear hk); (try clear hi); (try clear ho0)))
  go_ret2
  exact ⟨x_er, x_bel⟩
 rcases x_if H with ⟨c8b0, H⟩ | ⟨c8b0, H⟩
 ·simp only [Option.some.injEq, Prod.mk.injEq] at H
  obtain ⟨rfl, rfl⟩ := H
  go_enter Tryd.func11, Tryd.ntmps11
  go_wp2_with (first | ((with_reducible refine gate_callee (f := 26) rfl ?_); refine goesL_ (some 16) rfl rfl Tryd.func26 (by kernel_rfl) rfl #[.slice A0 l0.length c0] rfl x_ag ?_; (with_reducible refine (seqs_all.calls k _ _ l0 t425 t426 _ ?side1 ?side2 A4.out).mono ?_); (case side1 => exact x_cc HR0.out); (case side2 => exact HC0.out); rintro e w9 ⟨v427, rfl, ho0, hb⟩; refine ⟨_, rfl, ?_⟩; have HO428 := x_m (Kd.R_lower ho0 (below_size x_bel)); replace HB := x_m (below_step x_bel hb); (try clear hb); (try clear hb2); (try clear hk); (try clear hi); (try clear ho0)))
  go_ret2
  exact ⟨x_er, x_bel⟩
 obtain ⟨c10, H⟩ := x_gp H
 have c10b0 := eq_true c10
 have c10b1 := decide_eq_true c10
 clear c10
 obtain ⟨c11, H⟩ := x_gp H
 have c11b0 := eq_true c11
 have c11b1 := decide_eq_true c11
 clear c11
 replace H := x_bi H
 obtain ⟨⟨t429, t430⟩, A120, H⟩ := H
 have A12 := x_m A120
 clear A120
 have HC13 := x_m H
 clear H
 go_enter Tryd.func11, Tryd.ntmps11
 go_upto_region 7 with (first | ((with_reducible refine gate_callee (f := 26) rfl ?_); refine goesL_ (some 16) rfl rfl Tryd.func26 (by kernel_rfl) rfl #[.slice A0 l0.length c0] rfl x_ag ?_; (with_reducible refine (seqs_all.calls k _ _ l0 t425 t426 _ ?side1 ?side2 A4.out).mono ?_); (case side1 => exact x_cc HR0.out); (case side2 => exact HC0.out); rintro e w14 ⟨v427, rfl, ho0, hb⟩; refine ⟨_, rfl, ?_⟩; have HO428 := x_m (Kd.R_lower ho0 (below_size x_bel)); replace HB := x_m (below_step x_bel hb); (try clear hb); (try clear hb2); (try clear hk); (try clear hi); (try clear ho0)) | ((with_reducible refine gate_callee (f := 28) rfl ?_); refine goesL_ (some 36) rfl rfl Tryd.func28 (by kernel_rfl) rfl #[.string (a1.extract (a2 : Int).toNat a1.size)] rfl x_ag ?_; (with_reducible refine (utf8_DecodeRuneInString.calls k (a1.extract (a2 : Int).toNat a1.size) t429 t430 _ A12.out).mono ?_); rintro e w15 ⟨rfl, hb⟩; refine ⟨_, rfl, ?_⟩; replace HO428 := x_m (Kd.R_below (x_rr HO428.out) hb); replace HB := x_m (below_step x_bel hb); (try clear hb); (try clear hb2); (try clear hk); (try clear hi)))
 (try simp only [Act.put, List.setIfInBounds_toArray, List.set_cons_zero, List.set_cons_succ])
 go_cut [44] (fun v44 wc => ∃ (kq : Nat) (x44_12 : Bool), v44 = .bool x44_12 ∧ Aside0 (seqs_Width.j0 kq t425 t429 t430 x44_12 = some (r1, r2)) ∧ Aside0 (kq ≤ k) ∧ Aside0 (Kd.R k55 55 wc w.heap.size (fun _ => True) v427 t425) ∧ Aside0 (Below w.heap.size w wc))
 case first =>
  have H := HC13.out
  clear HC13
  rcases x_ie H with ⟨c16b0, c16b1, H⟩ | ⟨c16, c16b0, c16b1, H⟩
  ·(first | rw [c16b0] | (simp only [i64_w, i32_w]; rw [c16b0]) | skip)
   have H' := x_m H
   clear H
   go_wp2
   go_meet
   case rel => exact ⟨_, (decide (t430 ≤ 1)), x_eqs, H', ⟨by first | omega | exact Nat.le_refl _⟩, ⟨x_rr HO428.out⟩, ⟨x_bel⟩⟩
  (first | rw [c16b0] | (simp only [i64_w, i32_w]; rw [c16b0]) | skip)
  have H' := x_m H
  clear H
  go_wp2
  go_meet
  case rel => exact ⟨_, (false), x_eqs, H', ⟨by first | omega | exact Nat.le_refl _⟩, ⟨x_rr HO428.out⟩, ⟨x_bel⟩⟩
 case rest =>
  clear HC13
  obtain ⟨kq, x44_12, rfl, HA, HJ12, HO_8, HB⟩ := hcut
  cases kq with
  | zero => exact absurd HA.out (by simp [seqs_Width.j0])
  | succ kj12 =>
   have H := HA.out
   clear HA
   simp only [seqs_Width.j0] at H
   by_cases c17 : x44_12 = true
   ·subst c17
    replace H : (some (0, 7)) = some (r1, r2) := by rw [if_pos rfl] at H; exact H
    simp only [Option.some.injEq, Prod.mk.injEq] at H
    obtain ⟨rfl, rfl⟩ := H
    go_wp2
    go_ret2
    exact ⟨x_er, x_bel⟩
   replace c17 := Bool.eq_false_iff.mpr c17
   subst c17
   replace H : (seqs_Width.l0 kj12 t429 t430 t425 (t425.length : Int) 0) = some (r1, r2) := by rw [if_neg (show ¬ (false = true) by decide)] at H; exact H
   have H' := x_m H
   clear H
   obtain ⟨Ao18, co18, eo18⟩ := Kd.R_slice HO_8.out
   subst eo18
   go_wp2
   go_loopg [47] kj12 (fun kq v47 w' => ∃ (x47_2 : Int), v47 = .int .i64 x47_2 ∧ Aside0 (seqs_Width.l0 kq t429 t430 t425 (t425.length : Int) x47_2 = some (r1, r2)) ∧ Aside0 (kq ≤ kj12) ∧ Aside0 (Kd.R k55 55 w' w.heap.size (fun _ => True) (.slice Ao18 t425.length co18) t425) ∧ Aside0 (Below w.heap.size w w'))
   case atStart => exact ⟨(0), x_eqs, H', ⟨Nat.le_refl _⟩, ⟨x_rr HO_8.out⟩, ⟨x_bel⟩⟩
   case round =>
    clear H'
    obtain ⟨x47_2, rfl, HA, HK2, HO_45, HB⟩ := hrel
    cases gk with
    | zero => exact absurd HA.out (by simp [seqs_Width.l0])
    | succ k2 =>
     have H := HA.out
     clear HA
     simp only [seqs_Width.l0] at H
     rcases x_fi H with ⟨c19b0, H⟩ | ⟨c19b0, H⟩
     ·simp only [Option.some.injEq, Prod.mk.injEq] at H
      obtain ⟨rfl, rfl⟩ := H
      go_wp2
      go_ret2
      exact ⟨x_er, x_bel⟩
     obtain ⟨c20b0, H⟩ := x_gd H
     obtain ⟨c21b0, H⟩ := x_gd H
     rcases x_fi H with ⟨c22b0, H⟩ | ⟨c22b0, H⟩
     ·have H' := x_m H
      clear H
      have p431 : 0 ≤ (x47_2 : Int) := x_da
      have q431 : x47_2 < (t425.length : Int) := x_da
      obtain ⟨ad431, e431, hx431_0, hx431_1⟩ := at_T55 (Kd.R_reads' HO_45.out).2.2 x47_2 p431 q431
      cases e431
      replace p431 := eq_true p431
      replace q431 := eq_true q431
      go_wp2_with (first | ((with_reducible refine gate_dst (N := 13) rfl ?_); (try (refine gate_guard (by rfl) ?_; dsimp only)); refine box_event ?hg (N := 13) ?hd (cs := #[.int .i32 0, .int .i32 0]) (t := 55) ?hr ?_; (case hd => rfl); (case hg => rfl); (case hr => first | (go_simp; done) | (go_simp; rfl)); intro gb432 hg w28 hbox hb; have n0_ := x_m (Kd.R_below (Kd.R_elderB (x_rr HO_45.out) gb432 (Nat.le_of_eq hg.symm)) hb); have n1_ := x_m (below_step x_bel hb); have n2_ := x_m (hbox); have n3_ := x_m (x_gs hg (below_size x_bel) : w.heap.size ≤ gb432); have n4_ := x_m (x_gs hg (below_size x_bel) : w.heap.size ≤ gb432); clear HO_45; clear HB; have HO_45 := n0_; have HB := n1_; have BK432 := n2_; have GW432 := n3_; have GE432 := n4_; clear n0_ n1_ n2_ n3_ n4_; clear hb hbox hg; have hcz29_0 := x_cz BK432.out 0 rfl; have hcz29_1 := x_cz BK432.out 1 rfl; have hfz29_0 := blk_frozen BK432.out 0; have hfz29_1 := blk_frozen BK432.out 1))
      go_roundg k2
      case measure => have := HJ12.out; have := HK2.out; omega
      case rel => exact ⟨(wrap64 (x47_2 + 1)), x_eqs, H', ⟨by have := HJ12.out; have := HK2.out; omega⟩, ⟨by (with_reducible repeat (first | apply Kd.R_alloc | apply Kd.R_drewN | apply Kd.R_drew)); exact Kd.R_mono (Kd.R_far (p := ⟨gb432, 1, none⟩) (Kd.R_far (p := ⟨gb432, 0, none⟩) (Kd.R_mono HO_45.out (fun k_ hk => (⟨hk, hk.2⟩ : _ ∧ k_ ≠ gb432))) (fun _ hk => hk.2) (.int .i32 ((rd_T55 t425 x47_2).f0))) (fun _ hk => hk.2) (.int .i32 ((rd_T55 t425 x47_2).f1))) (fun _ hk => trivial)⟩, ⟨by repeat (first | (with_reducible first | exact HB.out | apply below_alloc | apply pw_below_drewN | apply below_drew1 | refine below_set ?_ GE432.out) | exact HB.out)⟩⟩
     rcases x_if H with ⟨c23b0, H⟩ | ⟨c23b0, H⟩
     ·simp only [Option.some.injEq, Prod.mk.injEq] at H
      obtain ⟨rfl, rfl⟩ := H
      have p431 : 0 ≤ (x47_2 : Int) := x_da
      have q431 : x47_2 < (t425.length : Int) := x_da
      obtain ⟨ad431, e431, hx431_0, hx431_1⟩ := at_T55 (Kd.R_reads' HO_45.out).2.2 x47_2 p431 q431
      cases e431
      replace p431 := eq_true p431
      replace q431 := eq_true q431
      go_wp2_with (first | ((with_reducible refine gate_dst (N := 13) rfl ?_); (try (refine gate_guard (by rfl) ?_; dsimp only)); refine box_event ?hg (N := 13) ?hd (cs := #[.int .i32 0, .int .i32 0]) (t := 55) ?hr ?_; (case hd => rfl); (case hg => rfl); (case hr => first | (go_simp; done) | (go_simp; rfl)); intro gb432 hg w24 hbox hb; have n0_ := x_m (Kd.R_below (Kd.R_elderB (x_rr HO_45.out) gb432 (Nat.le_of_eq hg.symm)) hb); have n1_ := x_m (below_step x_bel hb); have n2_ := x_m (hbox); have n3_ := x_m (x_gs hg (below_size x_bel) : w.heap.size ≤ gb432); have n4_ := x_m (x_gs hg (below_size x_bel) : w.heap.size ≤ gb432); clear HO_45; clear HB; have HO_45 := n0_; have HB := n1_; have BK432 := n2_; have GW432 := n3_; have GE432 := n4_; clear n0_ n1_ n2_ n3_ n4_; clear hb hbox hg; have hcz25_0 := x_cz BK432.out 0 rfl; have hcz25_1 := x_cz BK432.out 1 rfl; have hfz25_0 := blk_frozen BK432.out 0; have hfz25_1 := blk_frozen BK432.out 1))
      go_ret2
      exact ⟨x_er, by repeat (first | (with_reducible first | exact HB.out | apply below_alloc | apply pw_below_drewN | apply below_drew1 | refine below_set ?_ GE432.out) | exact HB.out)⟩
     have H' := x_m H
     clear H
     have p431 : 0 ≤ (x47_2 : Int) := x_da
     have q431 : x47_2 < (t425.length : Int) := x_da
     obtain ⟨ad431, e431, hx431_0, hx431_1⟩ := at_T55 (Kd.R_reads' HO_45.out).2.2 x47_2 p431 q431
     cases e431
     replace p431 := eq_true p431
     replace q431 := eq_true q431
     go_wp2_with (first | ((with_reducible refine gate_dst (N := 13) rfl ?_); (try (refine gate_guard (by rfl) ?_; dsimp only)); refine box_event ?hg (N := 13) ?hd (cs := #[.int .i32 0, .int .i32 0]) (t := 55) ?hr ?_; (case hd => rfl); (case hg => rfl); (case hr => first | (go_simp; done) | (go_simp; rfl)); intro gb432 hg w26 hbox hb; have n0_ := x_m (Kd.R_below (Kd.R_elderB (x_rr HO_45.out) gb432 (Nat.le_of_eq hg.symm)) hb); have n1_ := x_m (below_step x_bel hb); have n2_ := x_m (hbox); have n3_ := x_m (x_gs hg (below_size x_bel) : w.heap.size ≤ gb432); have n4_ := x_m (x_gs hg (below_size x_bel) : w.heap.size ≤ gb432); clear HO_45; clear HB; have HO_45 := n0_; have HB := n1_; have BK432 := n2_; have GW432 := n3_; have GE432 := n4_; clear n0_ n1_ n2_ n3_ n4_; clear hb hbox hg; have hcz27_0 := x_cz BK432.out 0 rfl; have hcz27_1 := x_cz BK432.out 1 rfl; have hfz27_0 := blk_frozen BK432.out 0; have hfz27_1 := blk_frozen BK432.out 1))
     go_roundg k2
     case measure => have := HJ12.out; have := HK2.out; omega
     case rel => exact ⟨(wrap64 (x47_2 + 1)), x_eqs, H', ⟨by have := HJ12.out; have := HK2.out; omega⟩, ⟨by (with_reducible repeat (first | apply Kd.R_alloc | apply Kd.R_drewN | apply Kd.R_drew)); exact Kd.R_mono (Kd.R_far (p := ⟨gb432, 1, none⟩) (Kd.R_far (p := ⟨gb432, 0, none⟩) (Kd.R_mono HO_45.out (fun k_ hk => (⟨hk, hk.2⟩ : _ ∧ k_ ≠ gb432))) (fun _ hk => hk.2) (.int .i32 ((rd_T55 t425 x47_2).f0))) (fun _ hk => hk.2) (.int .i32 ((rd_T55 t425 x47_2).f1))) (fun _ hk => trivial)⟩, ⟨by repeat (first | (with_reducible first | exact HB.out | apply below_alloc | apply pw_below_drewN | apply below_drew1 | refine below_set ?_ GE432.out) | exact HB.out)⟩⟩
end Go.Proofs.YtjjcpjhnhpdgcaaDoor.XS
