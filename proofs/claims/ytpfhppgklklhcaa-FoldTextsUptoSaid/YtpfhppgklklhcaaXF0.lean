/- WRITTEN BY A PROGRAM OF THIS SESSION (wip/tools/xprint.py, over the kit's printer): contracts of the functions that the seat's laws reach. -/
import Derived.Test.YtpfhppgklklhcaaProg
import Derived.Test.YtpfhppgklklhcaaXLibMap
import Derived.Test.YtpfhppgklklhcaaXLibBool
import Derived.Test.YtpfhppgklklhcaaXLibIter
import Derived.Below
import Derived.Deep.Draws
import Derived.Deep.AppendLies
import Derived.Maps.AppendAt
import Derived.OwnWalk
import Derived.Laws.BytesArg
import Derived.Laws.MakeOwn
import Derived.Laws.OwnMore
import Derived.Deep.OwnRows
import Derived.Tactics
import Derived.Lib.ConvBytes
import Derived.Laws.Slices
import Derived.WalkKit
import Derived.KernelRfl
import Derived.RowKit3
import Derived.Deep.LoopGhost
import Derived.Deep.QuietTactic
import Derived.BigQuiet
import Derived.WideLaws
import Derived.Deep.DeepCutAuto
import Derived.Deep.CutBlock
import Derived.Deep.RegionHeld3
import Derived.Laws.Rows
import Derived.Lib.AppendStr
import Derived.ArgAppend
import Derived.Laws.IdiomCopy
import Derived.OrdersHeld
import Derived.Laws.BitsLemmas
import Derived.RowKit
import Derived.Laws.Tables
import Derived.Deep.WholeRow
import Derived.Great.Walk
import Derived.Test.YtpfhppgklklhcaaShelf
import Derived.Shelf.Strings.BuilderRune
import Derived.Lib.OthersKept
import Derived.BigCall
import Derived.Test.YtpfhppgklklhcaaWWords
import Derived.Test.YtpfhppgklklhcaaWLast
import Derived.Test.YtpfhppgklklhcaaWTab
import Derived.Test.YtpfhppgklklhcaaWFour
import Derived.Test.YtpfhppgklklhcaaWQPut
import Derived.Test.YtpfhppgklklhcaaWApart
import Derived.Test.YtpfhppgklklhcaaWArr
import Derived.Test.YtpfhppgklklhcaaWZeros
import Derived.Test.YtpfhppgklklhcaaWFoot
import Derived.Test.YtpfhppgklklhcaaWKept
import Derived.Test.YtpfhppgklklhcaaWShare
import Derived.Test.YtpfhppgklklhcaaWN
import Derived.Test.YtpfhppgklklhcaaWFootNe
import Derived.Test.YtpfhppgklklhcaaWAt
import Derived.Test.YtpfhppgklklhcaaWEqStruct
import Derived.Test.YtpfhppgklklhcaaWRepsOne
import Derived.Test.YtpfhppgklklhcaaWInv
import Derived.Test.YtpfhppgklklhcaaWInvWords
import Derived.Test.YtpfhppgklklhcaaWGuard
import Derived.Test.YtpfhppgklklhcaaWNEv
import Derived.Test.YtpfhppgklklhcaaWMore
namespace Go.Proofs.Ytpfhppgklklhcaa.XF
open Go.RowKit Go.Proofs.YtpfhppgklklhcaaW.PrintWords Go.Proofs.YtpfhppgklklhcaaW.PrintLast Go.Proofs.YtpfhppgklklhcaaW.PrintMore
attribute [local go_sem] max2_int min2_int max_two min_two max_three min_three max_four min_four   -- for this text's walks alone
set_option linter.unusedVariables false
set_option linter.unusedSimpArgs false



def errW : Option Int → Value
  | none => .nilIface
  | some c => .iface 0 (.int .i64 c)
theorem errW_none : errW none = .nilIface := rfl
theorem errW_some (c : Int) : errW (some c) = .iface 0 (.int .i64 c) := rfl

theorem info3 : (Try.prog.info? 3).map (fun i => (i.zero, i.size, i.bytes)) = some (some (.int .i64 0), 1, 8) := by kernel_rfl
theorem info5 : (Try.prog.info? 5).map (fun i => (i.zero, i.size, i.bytes)) = some (some (.int .u8 0), 1, 1) := by kernel_rfl
theorem info21 : (Try.prog.info? 21).map (fun i => (i.zero, i.size, i.bytes)) = some (some (.int .i32 0), 1, 4) := by kernel_rfl
theorem info22 : (Try.prog.info? 22).map (fun i => (i.zero, i.size, i.bytes)) = some (some (.slice none 0 0), 1, 24) := by kernel_rfl
theorem info55 : (Try.prog.info? 55).map (fun i => (i.zero, i.size, i.bytes)) = some (some (.agg #[(.int .i32 0), (.int .i32 0), (.int .i32 0), (.int .i32 0), (.int .i32 0)]), 5, 20) := by kernel_rfl
-- the values' own types
def rd_L1 (xs : List (List Int)) (i : Int) : (List Int) := xs.getD i.toNat ([] : List Int)
theorem at_L1 {w : World} {A : Option Addr} {n : Nat} {xs : List (List Int)} (h : Kd.C (Kd.slice 21 (Kd.int .i32)) w A n xs) (i : Int) (h0 : 0 ≤ i) (h1 : i < n) : ∃ ad A0 c0, A = some ad ∧ w.cell? (ad.add i.toNat) = some (.slice A0 (rd_L1 xs i).length c0) ∧ (rd_L1 xs i).length ≤ c0 ∧ (Kd.int .i32).C w A0 (rd_L1 xs i).length (rd_L1 xs i) := by
  obtain ⟨ad, c, e, _, hK, hc0⟩ := Kd.C_get h ([] : List Int) i h0 h1
  have hc : ∀ j u, c[j]? = some u → w.cell? (ad.add (i.toNat * 1 + j)) = some u := hc0
  obtain ⟨A0, c0, rfl, l0, g0⟩ := hK
  exact ⟨ad, A0, c0, e, by have hq := hc 0 _ rfl; rwa [Nat.mul_one, Nat.add_zero] at hq, l0, g0⟩

/-! #### struct type 55 -/
structure S55 where
  f0 : Int
  f1 : Int
  f2 : Int
  f3 : Int
  f4 : Int
def z55 : S55 := ⟨(0 : Int), (0 : Int), (0 : Int), (0 : Int), (0 : Int)⟩
def k55 : Kd S55 := Kd.iso (Kd.pair (Kd.int .i32) (Kd.pair (Kd.int .i32) (Kd.pair (Kd.int .i32) (Kd.pair (Kd.int .i32) (Kd.int .i32))))) (fun x : S55 => (x.f0, x.f1, x.f2, x.f3, x.f4))
theorem k55_open {w : World} {x : S55} {cs : List Value} (h : k55.K w x cs) : cs = [.int .i32 x.f0, .int .i32 x.f1, .int .i32 x.f2, .int .i32 x.f3, .int .i32 x.f4] := by
  obtain ⟨_, _, rfl, rfl, ⟨_, _, rfl, rfl, ⟨_, _, rfl, rfl, ⟨_, _, rfl, rfl, rfl⟩⟩⟩⟩ := h
  exact rfl
theorem k55_openM {w : World} {base : Nat} {ok : Nat → Prop} {x : S55} {cs : List Value} (h : k55.M w base ok x cs) : cs = [.int .i32 x.f0, .int .i32 x.f1, .int .i32 x.f2, .int .i32 x.f3, .int .i32 x.f4] := by
  obtain ⟨_, _, rfl, rfl, ⟨_, _, rfl, rfl, ⟨_, _, rfl, rfl, ⟨_, _, rfl, rfl, rfl⟩⟩⟩⟩ := h
  exact rfl
theorem k55_mk (w : World) (x : S55)  : k55.K w x [.int .i32 x.f0, .int .i32 x.f1, .int .i32 x.f2, .int .i32 x.f3, .int .i32 x.f4] := ⟨[.int .i32 x.f0], [.int .i32 x.f1, .int .i32 x.f2, .int .i32 x.f3, .int .i32 x.f4], rfl, rfl, ⟨[.int .i32 x.f1], [.int .i32 x.f2, .int .i32 x.f3, .int .i32 x.f4], rfl, rfl, ⟨[.int .i32 x.f2], [.int .i32 x.f3, .int .i32 x.f4], rfl, rfl, ⟨[.int .i32 x.f3], [.int .i32 x.f4], rfl, rfl, rfl⟩⟩⟩⟩
theorem k55_mkM (w : World) (base : Nat) (ok : Nat → Prop) (x : S55)  : k55.M w base ok x [.int .i32 x.f0, .int .i32 x.f1, .int .i32 x.f2, .int .i32 x.f3, .int .i32 x.f4] := ⟨[.int .i32 x.f0], [.int .i32 x.f1, .int .i32 x.f2, .int .i32 x.f3, .int .i32 x.f4], rfl, rfl, ⟨[.int .i32 x.f1], [.int .i32 x.f2, .int .i32 x.f3, .int .i32 x.f4], rfl, rfl, ⟨[.int .i32 x.f2], [.int .i32 x.f3, .int .i32 x.f4], rfl, rfl, ⟨[.int .i32 x.f3], [.int .i32 x.f4], rfl, rfl, rfl⟩⟩⟩⟩
theorem k55_mkF (W : World) (ok : Nat → Prop) (x : S55) : Kd.FK k55 W ok x [.int .i32 x.f0, .int .i32 x.f1, .int .i32 x.f2, .int .i32 x.f3, .int .i32 x.f4] := fun W2 _ => k55_mk W2 x
def rd_T55 (xs : List S55) (i : Int) : S55 := xs.getD i.toNat z55
theorem at_T55 {w : World} {A : Option Addr} {n : Nat} {xs : List S55} (h : Kd.C k55 w A n xs) (i : Int) (h0 : 0 ≤ i) (h1 : i < n) : ∃ ad , A = some ad ∧ w.cell? (ad.add (i.toNat * 5)) = some (.int .i32 (rd_T55 xs i).f0) ∧ w.cell? ⟨(ad.add (i.toNat * 5)).block, (ad.add (i.toNat * 5)).off + 1, none⟩ = some (.int .i32 (rd_T55 xs i).f1) ∧ w.cell? ⟨(ad.add (i.toNat * 5)).block, (ad.add (i.toNat * 5)).off + 2, none⟩ = some (.int .i32 (rd_T55 xs i).f2) ∧ w.cell? ⟨(ad.add (i.toNat * 5)).block, (ad.add (i.toNat * 5)).off + 3, none⟩ = some (.int .i32 (rd_T55 xs i).f3) ∧ w.cell? ⟨(ad.add (i.toNat * 5)).block, (ad.add (i.toNat * 5)).off + 4, none⟩ = some (.int .i32 (rd_T55 xs i).f4) := by
  obtain ⟨ad, c, e, _, hK, hc0⟩ := Kd.C_get h z55 i h0 h1
  have hc : ∀ j u, c[j]? = some u → w.cell? (ad.add (i.toNat * 5 + j)) = some u := hc0
  obtain rfl := k55_open hK
  exact ⟨ad, e, hc 0 _ rfl, by rw [← add_field _ _ 1 (by omega)]; exact hc 1 _ rfl, by rw [← add_field _ _ 2 (by omega)]; exact hc 2 _ rfl, by rw [← add_field _ _ 3 (by omega)]; exact hc 3 _ rfl, by rw [← add_field _ _ 4 (by omega)]; exact hc 4 _ rfl⟩

end Go.Proofs.Ytpfhppgklklhcaa.XF
