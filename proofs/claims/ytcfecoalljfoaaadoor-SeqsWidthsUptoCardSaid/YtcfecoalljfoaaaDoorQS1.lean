/- Contracts and lemmas for the statement, put together by a program of this session (wip/tools/pack.py). -/
import Derived.Test.YtcfecoalljfoaaaDoorQS0
import Derived.Test.YtcfecoalljfoaaaDoorProg
import Derived.Below
import Derived.Deep.Draws
import Derived.Deep.AppendLies
import Derived.Maps.AppendAt
import Derived.OwnWalk
import Derived.Laws.BytesArg
import Derived.Laws.MakeOwn
import Derived.Laws.OwnMore
import Derived.Deep.OwnRows
import Derived.Tactics
import Derived.Lib.ConvBytes
import Derived.Laws.Slices
import Derived.WalkKit
import Derived.KernelRfl
import Derived.RowKit3
import Derived.Deep.LoopGhost
import Derived.Deep.QuietTactic
import Derived.BigQuiet
import Derived.WideLaws
import Derived.Deep.DeepCutAuto
import Derived.Deep.CutBlock
import Derived.Deep.RegionHeld3
import Derived.Laws.Rows
import Derived.Lib.AppendStr
import Derived.ArgAppend
import Derived.Laws.IdiomCopy
import Derived.RowKit
import Derived.MapKept
import Derived.Carry
import Derived.Laws.StructEq
import Derived.Laws.RangeAny
import Derived.OrdersHeld
import Derived.Laws.BitsLemmas
import Derived.Deep.RegionHeld
import Derived.Laws.Strings
import Derived.WalkSpells
import Derived.Shelf.Small.Bits
import Derived.Shelf.Strconv.Itoa0
import Derived.Shelf.Unicode.Decode
import Derived.Shelf.Unicode.DecodeSlow
import Derived.Shelf.Unicode.DecodeAny
import Derived.Shelf.SlSortCmp.WholeK
import Derived.Sort.OwnSorted
import GoSem.PinnedTables
namespace Go.Proofs.YtcfecoalljfoaaaDoor.XS
open Go.Proofs.YtcfecoalljfoaaaDoor.XShort (o i)
open Go.RowKit Go.Proofs.YtcfecoalljfoaaaDoorW.PrintWords Go.Proofs.YtcfecoalljfoaaaDoorW.PrintLast Go.Proofs.YtcfecoalljfoaaaDoorW.PrintMore
attribute [local go_sem] max2_int min2_int max_two min_two max_three min_three max_four min_four   -- for this text's walks alone
set_option linter.unusedVariables false
set_option linter.unusedSimpArgs false

-- NOT PRINTED: function 52 (api_Range_52)

/-! ### sets_band: function 40 -/
def bandsL : List S30 := [⟨0, 55295⟩, ⟨57344, 1114111⟩, ⟨1114240, 1114367⟩]
theorem bands_reads {w : World} (hG : GOK w) : Kd.C k30 w (some ⟨2, 0, none⟩) 3 bandsL := by
 refine ⟨rfl, by omega, fun _ => ⟨_, rfl, ?_⟩⟩
 intro j p hj
 refine ⟨_, ?_, k30_mk w p, ?_⟩
 ·rfl
 intro i u hu
 rcases j with _ | _ | _ | j
 ·obtain rfl : p = ⟨0, 55295⟩ := by simpa [bandsL] using hj.symm
  rcases i with _ | _ | i
  ·obtain rfl := Option.some.inj hu
   exact hG.sets_bands 0 _ rfl
  ·obtain rfl := Option.some.inj hu
   exact hG.sets_bands 1 _ rfl
  ·exact absurd hu (by simp)
 ·obtain rfl : p = ⟨57344, 1114111⟩ := by simpa [bandsL] using hj.symm
  rcases i with _ | _ | i
  ·obtain rfl := Option.some.inj hu
   exact hG.sets_bands 2 _ rfl
  ·obtain rfl := Option.some.inj hu
   exact hG.sets_bands 3 _ rfl
  ·exact absurd hu (by simp)
 ·obtain rfl : p = ⟨1114240, 1114367⟩ := by simpa [bandsL] using hj.symm
  rcases i with _ | _ | i
  ·obtain rfl := Option.some.inj hu
   exact hG.sets_bands 4 _ rfl
  ·obtain rfl := Option.some.inj hu
   exact hG.sets_bands 5 _ rfl
  ·exact absurd hu (by simp)
 ·exact absurd hj (by simp [bandsL])
set_option maxHeartbeats 800000 in
theorem band_lit (x y u : Int) (g : Nat) (W : World) (hcap : W.cell? ⟨g, 0, none⟩ = some (.int .i32 u)) (hg : g < W.heap.size) :
  Calls Tryd.prog 53 #[.agg #[.int .i32 x, .int .i32 y], .pointer (some ⟨g, 0, none⟩)] W fun e w' => e = .returned (.bool (decide (x ≤ u) && decide (u ≤ y))) ∧ Below W.heap.size W w' := by
 have hu31 := Tryd.underlying30
 by_cases h1 : x ≤ u
 ·have d1 : decide (x ≤ u) = true := decide_eq_true h1
  rw [d1]; simp only [Bool.true_and]
  go_enter Tryd.func53, Tryd.ntmps53
  go_wp2
  go_ret
  exact ⟨rfl, by repeat (first | exact Below.refl _ _ | apply below_alloc | apply pw_below_drewN | apply below_drew1)⟩
 ·have d1 : decide (x ≤ u) = false := decide_eq_false h1
  rw [d1]; simp only [Bool.false_and]
  go_enter Tryd.func53, Tryd.ntmps53
  go_wp2
  go_ret
  exact ⟨rfl, by repeat (first | exact Below.refl _ _ | apply below_alloc | apply pw_below_drewN | apply below_drew1)⟩
def bandIdx (u : Int) : List S30 → Int → Int
 | [], _ => -1
 | x :: xs, i => if x.f0 ≤ u ∧ u ≤ x.f1 then i else bandIdx u xs (i + 1)
set_option maxHeartbeats 800000 in
set_option maxRecDepth 100000 in
theorem band_idx (u : Int) (g : Nat) (A : Option Addr) (c : Nat) (l : List S30) (w : World) (hr : Kd.C k30 w A l.length l) (hc : l.length ≤ c) (hcap : w.cell? ⟨g, 0, none⟩ = some (.int .i32 u)) (hg : g < w.heap.size) :
  Calls Tryd.prog 52 #[.slice A l.length c, .func (.func 53) #[] #[.pointer (some ⟨g, 0, none⟩)]] w fun e w' => e = .returned (.int .i64 (bandIdx u l 0)) ∧ Below w.heap.size w w' := by
 have hu31 := Tryd.underlying30
 have hm : l.length ≤ 9223372036854775807 := hr.2.1
 have HR := Aside0.mk hr
 clear hr
 have HG := Aside0.mk hcap
 clear hcap
 go_enter Tryd.func52, Tryd.ntmps52
 go_wp2
 go_loopw [8] (fun v wr => ∃ k : Nat, k ≤ l.length ∧ v = .int .i64 k ∧ Aside0 (bandIdx u (l.drop k) k = bandIdx u l 0) ∧ Aside0 (Below w.heap.size w wr)) (fun v _ => l.length - (intOf v).toNat)
 case atStart => exact ⟨0, Nat.zero_le _, rfl, ⟨rfl⟩, ⟨Below.refl _ _⟩⟩
 case round =>
  obtain ⟨k, hk, rfl, HI, HB⟩ := hrel
  by_cases hlt : k < l.length
  ·have hc1 := at_T30 (Kd.C_below HR.out HB.out) k (by omega) (by omega)
   obtain ⟨ad, rfl, h0, h1⟩ := hc1
   have hI := HI.out
   rw [List.drop_eq_getElem_cons hlt, bandIdx] at hI
   have hx : rd_T30 l (k : Int) = l[k] := by simp [rd_T30, hlt]
   simp only [Int.toNat_natCast] at h0 h1
   have hcw : wr.cell? ⟨g, 0, none⟩ = some (.int .i32 u) := (HB.out.cell (p := ⟨g, 0, none⟩) hg).trans HG.out
   have hgw : g < wr.heap.size := Nat.lt_of_lt_of_le hg HB.out.size
   have HC := Aside0.mk (band_lit (rd_T30 l (k : Int)).f0 (rd_T30 l (k : Int)).f1 u g wr hcw hgw)
   clear hcw
   by_cases hp : l[k].f0 ≤ u ∧ u ≤ l[k].f1
   ·rw [if_pos hp] at hI
    have HI2 := Aside0.mk hI
    have hd : (decide ((rd_T30 l (k : Int)).f0 ≤ u) && decide (u ≤ (rd_T30 l (k : Int)).f1)) = true := by rw [hx]; simp [hp]
    rw [hd] at HC
    clear hI HI hd hx hp
    go_wp2_with (refine HC.out.mono ?_; rintro e w' ⟨rfl, hb⟩; have HB2 := Aside0.mk (below_step HB.out hb); clear hb)
    go_ret
    exact ⟨by rw [← HI2.out]; rfl, HB2.out⟩
   ·rw [if_neg hp] at hI
    have HI2 := Aside0.mk hI
    have hd : (decide ((rd_T30 l (k : Int)).f0 ≤ u) && decide (u ≤ (rd_T30 l (k : Int)).f1)) = false := by rw [hx]; simp; omega
    rw [hd] at HC
    clear hI HI hd hx hp
    go_wp2_with (refine HC.out.mono ?_; rintro e w' ⟨rfl, hb⟩; have HB2 := Aside0.mk (below_step HB.out hb); clear hb)
    go_roundw
    case rel => exact ⟨k + 1, by omega, by go_num, ⟨by have := HI2.out; simpa using this⟩, HB2⟩
    case measure => simp [intOf]; omega
  ·have hkl : k = l.length := by omega
   have hI := HI.out
   rw [List.drop_eq_nil_of_le (by omega), bandIdx] at hI
   have HI2 := Aside0.mk hI
   clear hI HI hkl
   go_wp2
   go_ret
   exact ⟨by rw [← HI2.out]; rfl, HB.out⟩
/-- the number of the band that u lies in; -1: none -/
def sets_band.f (a0 : Int) : Option Int := some (bandIdx a0 bandsL 0)
set_option maxHeartbeats 800000 in
set_option maxRecDepth 100000 in
theorem sets_band.calls (a0 : Int) (r : Int) (w : World) (h : sets_band.f a0 = some r) (hG : GOK w := by first | (with_reducible exact HG_.out) | exact GOK.below HG_.out (by repeat (first | (with_reducible exact Below.refl _ _) | (with_reducible first | exact HB.out | apply below_alloc | apply pw_below_drewN | apply below_drew1 | refine below_set ?_ (Aside0.out (by assumption))) | exact HB.out)) | exact GOK.drewN HG_.out _ | exact GOK.drewN (GOK.drewN HG_.out _) _ | exact GOK.drew HG_.out) :
  Calls Tryd.prog 40 #[.int .i32 a0] w fun e w' => e = .returned (.int .i64 r) ∧ Below w.heap.size w w' := by
 have hu31 := Tryd.underlying30
 obtain rfl := Option.some.inj h
 have hA : Below w.heap.size w (w.alloc (.cells #[.int .i32 a0] 21)) := below_alloc (Below.refl _ _) _
 have HA := Aside0.mk hA
 have HC := Aside0.mk (band_idx a0 w.heap.size (some ⟨2, 0, none⟩) 3 bandsL (w.alloc (.cells #[.int .i32 a0] 21)) (bands_reads (hG.below hA)) (Nat.le_refl _) ((blk_cell (heap_alloc_new _ _) 0).trans rfl) (by simp))
 clear hA h
 have HGG := Aside0.mk hG
 clear hG
 go_enter Tryd.func40, Tryd.ntmps40
 go_wp2_with (refine HC.out.mono ?_; rintro e w' ⟨rfl, hb⟩; have HB := Aside0.mk (below_step HA.out hb); clear hb)
 go_ret
 exact ⟨rfl, HB.out⟩

/-! ### sets_Check: function 25 -/
mutual
def sets_Check.l0 : Nat → List (S30) → List (S30) → Int → Int → Option (Int)
 | 0, _, _, _, _ => none
 | k + 1, x0, x6, x7, x8 => if x8 < x7 then (if 0 ≤ x8 then (if x8 < (x6.length : Int) then ((sets_band.f ((rd_T30 x6 x8).f0)).bind fun t103 => (if t103 < 0 then (sets_Check.j1 k x0 x8 x6 x7 x8 true ((rd_T30 x6 x8).f0) ((rd_T30 x6 x8).f1)) else ((sets_band.f ((rd_T30 x6 x8).f1)).bind fun t104 => (if t103 = t104 then (sets_Check.j1 k x0 x8 x6 x7 x8 (decide (((rd_T30 x6 x8).f0) > ((rd_T30 x6 x8).f1))) ((rd_T30 x6 x8).f0) ((rd_T30 x6 x8).f1)) else (sets_Check.j1 k x0 x8 x6 x7 x8 true ((rd_T30 x6 x8).f0) ((rd_T30 x6 x8).f1)))))) else (none)) else (none)) else (some 0)
def sets_Check.j1 : Nat → List (S30) → Int → List (S30) → Int → Int → Bool → Int → Int → Option (Int)
 | 0, _, _, _, _, _, _, _, _ => none
 | k + 1, x0, x3, x6, x7, x8, x31, x103000, x103001 => if x31 = true then (some 1) else (if x3 > 0 then (if 0 ≤ (wrap64 (x3 - 1)) then (if (wrap64 (x3 - 1)) < (x0.length : Int) then (if x103000 ≤ ((rd_T30 x0 (wrap64 (x3 - 1))).f1) then (some 1) else (if x103000 = (wrap32 (((rd_T30 x0 (wrap64 (x3 - 1))).f1) + 1)) then (some 1) else (sets_Check.l0 k x0 x6 x7 (wrap64 (x8 + 1))))) else (none)) else (none)) else (sets_Check.l0 k x0 x6 x7 (wrap64 (x8 + 1))))
end
def sets_Check.f (k : Nat) (l0 : List (S30)) : Option (Int) := sets_Check.l0 k l0 l0 (l0.length : Int) 0
theorem sets_Check.mono_l : ∀ k, (∀ y0 y1 y2 y3, LeO (sets_Check.l0 k y0 y1 y2 y3) (sets_Check.l0 (k + 1) y0 y1 y2 y3)) ∧ (∀ y0 y1 y2 y3 y4 y5 y6 y7, LeO (sets_Check.j1 k y0 y1 y2 y3 y4 y5 y6 y7) (sets_Check.j1 (k + 1) y0 y1 y2 y3 y4 y5 y6 y7))
 | 0 => ⟨fun _ _ _ _ r h => by simp [sets_Check.l0] at h, fun _ _ _ _ _ _ _ _ r h => by simp [sets_Check.j1] at h⟩
 | k + 1 => by
  obtain ⟨ih0, ih1⟩ := sets_Check.mono_l k
  refine ⟨?_, ?_⟩
  ·intro y0 y1 y2 y3
   unfold sets_Check.l0
   repeat' first
   | (with_reducible exact ih0 _ _ _ _)
   | (with_reducible exact ih1 _ _ _ _ _ _ _ _)
   | (with_reducible exact LeO.refl _)
   | (with_reducible exact LeO.none _)
   | (with_reducible refine LeO.ite ?_ ?_)
   | (with_reducible refine LeO.bind ?_ (fun _ => ?_))
   | exact ih0 _ _ _ _
   | exact ih1 _ _ _ _ _ _ _ _
   | exact LeO.none _
   | refine LeO.ite ?_ ?_
   | refine LeO.bind ?_ (fun _ => ?_)
  ·intro y0 y1 y2 y3 y4 y5 y6 y7
   unfold sets_Check.j1
   repeat' first
   | (with_reducible exact ih0 _ _ _ _)
   | (with_reducible exact ih1 _ _ _ _ _ _ _ _)
   | (with_reducible exact LeO.refl _)
   | (with_reducible exact LeO.none _)
   | (with_reducible refine LeO.ite ?_ ?_)
   | (with_reducible refine LeO.bind ?_ (fun _ => ?_))
   | exact ih0 _ _ _ _
   | exact ih1 _ _ _ _ _ _ _ _
   | exact LeO.none _
   | refine LeO.ite ?_ ?_
   | refine LeO.bind ?_ (fun _ => ?_)
theorem sets_Check.mono : ∀ a0 k, LeO (sets_Check.f k a0) (sets_Check.f (k + 1) a0) := by
 intro a0 k
 obtain ⟨ih0, ih1⟩ := sets_Check.mono_l k
 unfold sets_Check.f
 repeat' first
   | (with_reducible exact ih0 _ _ _ _)
   | (with_reducible exact ih1 _ _ _ _ _ _ _ _)
   | (with_reducible exact LeO.refl _)
   | (with_reducible exact LeO.none _)
   | (with_reducible refine LeO.ite ?_ ?_)
   | (with_reducible refine LeO.bind ?_ (fun _ => ?_))
   | exact ih0 _ _ _ _
   | exact ih1 _ _ _ _ _ _ _ _
   | exact LeO.none _
   | refine LeO.ite ?_ ?_
   | refine LeO.bind ?_ (fun _ => ?_)
set_option maxHeartbeats 8000000 in
set_option maxRecDepth 100000 in
theorem sets_Check.calls (k : Nat) (A0 : Option Addr) (c0 : Nat) (l0 : List (S30)) (r : Int) (w : World) (hr0 : Kd.C k30 w A0 l0.length l0) (hc0 : l0.length ≤ c0) (h : sets_Check.f k l0 = some r) (hG : GOK w := by first | (with_reducible exact HG_.out) | exact GOK.below HG_.out (by repeat (first | (with_reducible exact Below.refl _ _) | (with_reducible first | exact HB.out | apply below_alloc | apply pw_below_drewN | apply below_drew1 | refine below_set ?_ (Aside0.out (by assumption))) | exact HB.out)) | exact GOK.drewN HG_.out _ | exact GOK.drewN (GOK.drewN HG_.out _) _ | exact GOK.drew HG_.out) :
  Calls Tryd.prog 25 #[.slice A0 l0.length c0] w fun e w' => e = .returned (.int .i64 r) ∧ Below w.heap.size w w' := by
 have HG_ := Aside0.mk hG
 clear hG
 have hu30 := Tryd.underlying30
 have HR0 := Aside0.mk hr0
 have HC0 := Aside0.mk hc0
 clear hr0 hc0
 have HB := Aside0.mk (Below.refl w.heap.size w)
 have H : (sets_Check.l0 k l0 l0 (l0.length : Int) 0) = some r := h
 clear h
 have H' := Aside0.mk H
 clear H
 go_enter Tryd.func25, Tryd.ntmps25
 go_wp2
 repeat (go_quiet (fail); try go_wp2)
 go_loopg [8] k (fun kq v8 w' => ∃ (x8_1 : Int), v8 = .int .i64 x8_1 ∧ Aside0 (sets_Check.l0 kq l0 l0 (l0.length : Int) x8_1 = some r) ∧ Aside0 (kq ≤ k) ∧ Aside0 (Below w.heap.size w w'))
 case atStart => exact ⟨(0), XShort.eqs, H', ⟨Nat.le_refl _⟩, ⟨XShort.bel⟩⟩
 case round =>
  clear H'
  obtain ⟨x8_1, rfl, HA, HK1, HB⟩ := hrel
  cases gk with
  | zero => exact absurd HA.out (by simp [sets_Check.l0])
  | succ k1 =>
   have H := HA.out
   clear HA
   simp only [sets_Check.l0] at H
   by_cases c2 : x8_1 < (l0.length : Int)
   ·rw [if_pos c2] at H
    have c2b0 : decide (x8_1 < (l0.length : Int)) = true := decide_eq_true c2
    clear c2
    by_cases c3 : 0 ≤ x8_1
    ·rw [if_pos c3] at H
     have c3b0 : decide (0 ≤ x8_1) = true := decide_eq_true c3
     clear c3
     by_cases c4 : x8_1 < (l0.length : Int)
     ·rw [if_pos c4] at H
      have c4b0 : decide (x8_1 < (l0.length : Int)) = true := decide_eq_true c4
      clear c4
      replace H := Option.bind_eq_some_iff.mp H
      obtain ⟨t103, A50, H⟩ := H
      replace H : (if t103 < 0 then (sets_Check.j1 k1 l0 x8_1 l0 (l0.length : Int) x8_1 true ((rd_T30 l0 x8_1).f0) ((rd_T30 l0 x8_1).f1)) else ((sets_band.f ((rd_T30 l0 x8_1).f1)).bind fun t104 => (if t103 = t104 then (sets_Check.j1 k1 l0 x8_1 l0 (l0.length : Int) x8_1 (decide (((rd_T30 l0 x8_1).f0) > ((rd_T30 l0 x8_1).f1))) ((rd_T30 l0 x8_1).f0) ((rd_T30 l0 x8_1).f1)) else (sets_Check.j1 k1 l0 x8_1 l0 (l0.length : Int) x8_1 true ((rd_T30 l0 x8_1).f0) ((rd_T30 l0 x8_1).f1))))) = some r := H
      have A5 := Aside0.mk A50
      clear A50
      have HC6 := Aside0.mk H
      clear H
      have p101 : 0 ≤ (x8_1 : Int) := of_decide_eq_true XShort.asm
      have q101 : x8_1 < (l0.length : Int) := of_decide_eq_true XShort.asm
      obtain ⟨ad101, e101, hx101_0, hx101_1⟩ := at_T30 HR0.out x8_1 p101 q101
      cases e101
      replace hx101_0 := (HB.out.cell (World.block_lt_of_cell? w _ hx101_0)).trans hx101_0
      replace hx101_1 := (HB.out.cell (World.block_lt_of_cell? w _ hx101_1)).trans hx101_1
      replace p101 := eq_true p101
      replace q101 := eq_true q101
      go_upto_region 5 with (first | ((with_reducible refine gate_dst (N := 4) rfl ?_); refine box_event ?hg (N := 4) ?hd (cs := #[.int .i32 0, .int .i32 0]) (t := 30) ?hr ?_; (case hd => rfl); (case hg => rfl); (case hr => first | (go_simp; done) | (go_simp; rfl)); intro gb102 hg w7 hbox hb; have n0_ := Aside0.mk (below_step XShort.bel hb); have n1_ := Aside0.mk (hbox); have n2_ := Aside0.mk ((by rw [hg]; exact (below_size XShort.bel) : w.heap.size ≤ gb102)); have n3_ := Aside0.mk ((by rw [hg]; exact (below_size XShort.bel) : w.heap.size ≤ gb102)); clear HB; have HB := n0_; have BK102 := n1_; have GW102 := n2_; have GE102 := n3_; clear n0_ n1_ n2_ n3_; clear hb hbox hg; have hcz8_0 : w7.cell? ⟨gb102, 0, none⟩ = some (.int .i32 0) := (blk_cell BK102.out 0).trans rfl; have hcz8_1 : w7.cell? ⟨gb102, 1, none⟩ = some (.int .i32 0) := (blk_cell BK102.out 1).trans rfl; have hfz8_0 := blk_frozen BK102.out 0; have hfz8_1 := blk_frozen BK102.out 1) | (go_at_call 40; (with_reducible refine (sets_band.calls ((rd_T30 l0 x8_1).f0) t103 _ A5.out).mono ?_); rintro e w9 ⟨rfl, hb⟩; have n0_ := Aside0.mk (blk_below (g := gb102) (o := .cells #[.int .i32 ((rd_T30 l0 x8_1).f0), .int .i32 ((rd_T30 l0 x8_1).f1)] 30 (0, 0)) (by (with_reducible repeat (first | refine blk_drewN ?_ _ | refine blk_drew ?_ | refine blk_alloc ?_ _)); refine blk_put (cs := #[.int .i32 ((rd_T30 l0 x8_1).f0), .int .i32 0]) ?_ 1 _ rfl; (with_reducible repeat (first | refine blk_drewN ?_ _ | refine blk_drew ?_ | refine blk_alloc ?_ _)); refine blk_put (cs := #[.int .i32 0, .int .i32 0]) ?_ 0 _ rfl; (with_reducible repeat (first | refine blk_drewN ?_ _ | refine blk_drew ?_ | refine blk_alloc ?_ _)); exact BK102.out) hb); have n1_ := Aside0.mk (below_step (by repeat (first | (with_reducible first | exact HB.out | apply below_alloc | apply pw_below_drewN | apply below_drew1 | refine below_set ?_ GE102.out) | exact HB.out)) hb); clear BK102; clear HB; have BK102 := n0_; have HB := n1_; clear n0_ n1_; (try clear hb); (try clear hb2); (try clear hk); (try clear hi)))
      repeat (go_quiet (first | ((with_reducible refine gate_dst (N := 4) rfl ?_); refine box_event ?hg (N := 4) ?hd (cs := #[.int .i32 0, .int .i32 0]) (t := 30) ?hr ?_; (case hd => rfl); (case hg => rfl); (case hr => first | (go_simp; done) | (go_simp; rfl)); intro gb102 hg w7 hbox hb; have n0_ := Aside0.mk (below_step XShort.bel hb); have n1_ := Aside0.mk (hbox); have n2_ := Aside0.mk ((by rw [hg]; exact (below_size XShort.bel) : w.heap.size ≤ gb102)); have n3_ := Aside0.mk ((by rw [hg]; exact (below_size XShort.bel) : w.heap.size ≤ gb102)); clear HB; have HB := n0_; have BK102 := n1_; have GW102 := n2_; have GE102 := n3_; clear n0_ n1_ n2_ n3_; clear hb hbox hg; have hcz8_0 : w7.cell? ⟨gb102, 0, none⟩ = some (.int .i32 0) := (blk_cell BK102.out 0).trans rfl; have hcz8_1 : w7.cell? ⟨gb102, 1, none⟩ = some (.int .i32 0) := (blk_cell BK102.out 1).trans rfl; have hfz8_0 := blk_frozen BK102.out 0; have hfz8_1 := blk_frozen BK102.out 1) | (go_at_call 40; (with_reducible refine (sets_band.calls ((rd_T30 l0 x8_1).f0) t103 _ A5.out).mono ?_); rintro e w9 ⟨rfl, hb⟩; have n0_ := Aside0.mk (blk_below (g := gb102) (o := .cells #[.int .i32 ((rd_T30 l0 x8_1).f0), .int .i32 ((rd_T30 l0 x8_1).f1)] 30 (0, 0)) (by (with_reducible repeat (first | refine blk_drewN ?_ _ | refine blk_drew ?_ | refine blk_alloc ?_ _)); refine blk_put (cs := #[.int .i32 ((rd_T30 l0 x8_1).f0), .int .i32 0]) ?_ 1 _ rfl; (with_reducible repeat (first | refine blk_drewN ?_ _ | refine blk_drew ?_ | refine blk_alloc ?_ _)); refine blk_put (cs := #[.int .i32 0, .int .i32 0]) ?_ 0 _ rfl; (with_reducible repeat (first | refine blk_drewN ?_ _ | refine blk_drew ?_ | refine blk_alloc ?_ _)); exact BK102.out) hb); have n1_ := Aside0.mk (below_step (by repeat (first | (with_reducible first | exact HB.out | apply below_alloc | apply pw_below_drewN | apply below_drew1 | refine below_set ?_ GE102.out) | exact HB.out)) hb); clear BK102; clear HB; have BK102 := n0_; have HB := n1_; clear n0_ n1_; (try clear hb); (try clear hb2); (try clear hk); (try clear hi))); go_upto_region 5 with (first | ((with_reducible refine gate_dst (N := 4) rfl ?_); refine box_event ?hg (N := 4) ?hd (cs := #[.int .i32 0, .int .i32 0]) (t := 30) ?hr ?_; (case hd => rfl); (case hg => rfl); (case hr => first | (go_simp; done) | (go_simp; rfl)); intro gb102 hg w7 hbox hb; have n0_ := Aside0.mk (below_step XShort.bel hb); have n1_ := Aside0.mk (hbox); have n2_ := Aside0.mk ((by rw [hg]; exact (below_size XShort.bel) : w.heap.size ≤ gb102)); have n3_ := Aside0.mk ((by rw [hg]; exact (below_size XShort.bel) : w.heap.size ≤ gb102)); clear HB; have HB := n0_; have BK102 := n1_; have GW102 := n2_; have GE102 := n3_; clear n0_ n1_ n2_ n3_; clear hb hbox hg; have hcz8_0 : w7.cell? ⟨gb102, 0, none⟩ = some (.int .i32 0) := (blk_cell BK102.out 0).trans rfl; have hcz8_1 : w7.cell? ⟨gb102, 1, none⟩ = some (.int .i32 0) := (blk_cell BK102.out 1).trans rfl; have hfz8_0 := blk_frozen BK102.out 0; have hfz8_1 := blk_frozen BK102.out 1) | (go_at_call 40; (with_reducible refine (sets_band.calls ((rd_T30 l0 x8_1).f0) t103 _ A5.out).mono ?_); rintro e w9 ⟨rfl, hb⟩; have n0_ := Aside0.mk (blk_below (g := gb102) (o := .cells #[.int .i32 ((rd_T30 l0 x8_1).f0), .int .i32 ((rd_T30 l0 x8_1).f1)] 30 (0, 0)) (by (with_reducible repeat (first | refine blk_drewN ?_ _ | refine blk_drew ?_ | refine blk_alloc ?_ _)); refine blk_put (cs := #[.int .i32 ((rd_T30 l0 x8_1).f0), .int .i32 0]) ?_ 1 _ rfl; (with_reducible repeat (first | refine blk_drewN ?_ _ | refine blk_drew ?_ | refine blk_alloc ?_ _)); refine blk_put (cs := #[.int .i32 0, .int .i32 0]) ?_ 0 _ rfl; (with_reducible repeat (first | refine blk_drewN ?_ _ | refine blk_drew ?_ | refine blk_alloc ?_ _)); exact BK102.out) hb); have n1_ := Aside0.mk (below_step (by repeat (first | (with_reducible first | exact HB.out | apply below_alloc | apply pw_below_drewN | apply below_drew1 | refine below_set ?_ GE102.out) | exact HB.out)) hb); clear BK102; clear HB; have BK102 := n0_; have HB := n1_; clear n0_ n1_; (try clear hb); (try clear hb2); (try clear hk); (try clear hi))))
      (try simp only [Act.put, List.setIfInBounds_toArray, List.set_cons_zero, List.set_cons_succ])
      go_cut [31] (fun v31 wc => ∃ (kq : Nat) (x31_5 : Bool), v31 = .bool x31_5 ∧ Aside0 (sets_Check.j1 kq l0 x8_1 l0 (l0.length : Int) x8_1 x31_5 ((rd_T30 l0 x8_1).f0) ((rd_T30 l0 x8_1).f1) = some r) ∧ Aside0 (kq ≤ k1) ∧ Aside0 (wc.heap[gb102]? = some (.cells #[.int .i32 ((rd_T30 l0 x8_1).f0), .int .i32 ((rd_T30 l0 x8_1).f1)] 30 (0, 0))) ∧ Aside0 (Below w.heap.size w wc))
      case first =>
       have H := HC6.out
       clear HC6
       by_cases c10 : t103 < 0
       ·rw [if_pos c10] at H
        have c10b0 : decide (t103 < 0) = true := decide_eq_true c10
        clear c10
        (first | rw [c10b0] | (simp only [i64_w, i32_w]; rw [c10b0]) | skip)
        have H' := Aside0.mk H
        clear H
        go_wp2
        repeat (go_quiet (fail); try go_wp2)
        go_meet
        case rel => exact ⟨_, (true), XShort.eqs, H', ⟨by have := HK1.out; first | omega | exact Nat.le_refl _⟩, ⟨by (with_reducible repeat (first | refine blk_drewN ?_ _ | refine blk_drew ?_ | refine blk_alloc ?_ _)); exact BK102.out⟩, ⟨by repeat (first | (with_reducible first | exact HB.out | apply below_alloc | apply pw_below_drewN | apply below_drew1 | refine below_set ?_ GE102.out) | exact HB.out)⟩⟩
       ·rw [if_neg c10] at H
        have c10b0 : decide (t103 < 0) = false := decide_eq_false c10
        clear c10
        (first | rw [c10b0] | (simp only [i64_w, i32_w]; rw [c10b0]) | skip)
        replace H := Option.bind_eq_some_iff.mp H
        obtain ⟨t104, A110, H⟩ := H
        replace H : (if t103 = t104 then (sets_Check.j1 k1 l0 x8_1 l0 (l0.length : Int) x8_1 (decide (((rd_T30 l0 x8_1).f0) > ((rd_T30 l0 x8_1).f1))) ((rd_T30 l0 x8_1).f0) ((rd_T30 l0 x8_1).f1)) else (sets_Check.j1 k1 l0 x8_1 l0 (l0.length : Int) x8_1 true ((rd_T30 l0 x8_1).f0) ((rd_T30 l0 x8_1).f1))) = some r := H
        have A11 := Aside0.mk A110
        clear A110
        by_cases c12 : t103 = t104
        ·rw [if_pos c12] at H
         have c12b0 : (t103 == t104) = true := beq_iff_eq.mpr c12
         have c12b1 : (t103 != t104) = false := bne_eq_false_iff_eq.mpr c12
         clear c12
         have H' := Aside0.mk H
         clear H
         have hcz13_0 : w9.cell? ⟨gb102, 0, none⟩ = some (.int .i32 ((rd_T30 l0 x8_1).f0)) := (blk_cell BK102.out 0).trans rfl
         have hcz13_1 : w9.cell? ⟨gb102, 1, none⟩ = some (.int .i32 ((rd_T30 l0 x8_1).f1)) := (blk_cell BK102.out 1).trans rfl
         have hfz13_0 := blk_frozen BK102.out 0
         have hfz13_1 := blk_frozen BK102.out 1
         go_wp2_with (first | (go_at_call 40; (with_reducible refine (sets_band.calls ((rd_T30 l0 x8_1).f1) t104 _ A11.out).mono ?_); rintro e w14 ⟨rfl, hb⟩; have n0_ := Aside0.mk (blk_below (g := gb102) (o := .cells #[.int .i32 ((rd_T30 l0 x8_1).f0), .int .i32 ((rd_T30 l0 x8_1).f1)] 30 (0, 0)) (by (with_reducible repeat (first | refine blk_drewN ?_ _ | refine blk_drew ?_ | refine blk_alloc ?_ _)); exact BK102.out) hb); have n1_ := Aside0.mk (below_step (by repeat (first | (with_reducible first | exact HB.out | apply below_alloc | apply pw_below_drewN | apply below_drew1 | refine below_set ?_ GE102.out) | exact HB.out)) hb); clear BK102; clear HB; have BK102 := n0_; have HB := n1_; clear n0_ n1_; (try clear hb); (try clear hb2); (try clear hk); (try clear hi); have hcz15_0 : w14.cell? ⟨gb102, 0, none⟩ = some (.int .i32 ((rd_T30 l0 x8_1).f0)) := (blk_cell BK102.out 0).trans rfl; have hcz15_1 : w14.cell? ⟨gb102, 1, none⟩ = some (.int .i32 ((rd_T30 l0 x8_1).f1)) := (blk_cell BK102.out 1).trans rfl; have hfz15_0 := blk_frozen BK102.out 0; have hfz15_1 := blk_frozen BK102.out 1))
         repeat (go_quiet (first | (go_at_call 40; (with_reducible refine (sets_band.calls ((rd_T30 l0 x8_1).f1) t104 _ A11.out).mono ?_); rintro e w14 ⟨rfl, hb⟩; have n0_ := Aside0.mk (blk_below (g := gb102) (o := .cells #[.int .i32 ((rd_T30 l0 x8_1).f0), .int .i32 ((rd_T30 l0 x8_1).f1)] 30 (0, 0)) (by (with_reducible repeat (first | refine blk_drewN ?_ _ | refine blk_drew ?_ | refine blk_alloc ?_ _)); exact BK102.out) hb); have n1_ := Aside0.mk (below_step (by repeat (first | (with_reducible first | exact HB.out | apply below_alloc | apply pw_below_drewN | apply below_drew1 | refine below_set ?_ GE102.out) | exact HB.out)) hb); clear BK102; clear HB; have BK102 := n0_; have HB := n1_; clear n0_ n1_; (try clear hb); (try clear hb2); (try clear hk); (try clear hi); have hcz15_0 : w14.cell? ⟨gb102, 0, none⟩ = some (.int .i32 ((rd_T30 l0 x8_1).f0)) := (blk_cell BK102.out 0).trans rfl; have hcz15_1 : w14.cell? ⟨gb102, 1, none⟩ = some (.int .i32 ((rd_T30 l0 x8_1).f1)) := (blk_cell BK102.out 1).trans rfl; have hfz15_0 := blk_frozen BK102.out 0; have hfz15_1 := blk_frozen BK102.out 1)); try go_wp2_with (first | (go_at_call 40; (with_reducible refine (sets_band.calls ((rd_T30 l0 x8_1).f1) t104 _ A11.out).mono ?_); rintro e w14 ⟨rfl, hb⟩; have n0_ := Aside0.mk (blk_below (g := gb102) (o := .cells #[.int .i32 ((rd_T30 l0 x8_1).f0), .int .i32 ((rd_T30 l0 x8_1).f1)] 30 (0, 0)) (by (with_reducible repeat (first | refine blk_drewN ?_ _ | refine blk_drew ?_ | refine blk_alloc ?_ _)); exact BK102.out) hb); have n1_ := Aside0.mk (below_step (by repeat (first | (with_reducible first | exact HB.out | apply below_alloc | apply pw_below_drewN | apply below_drew1 | refine below_set ?_ GE102.out) | exact HB.out)) hb); clear BK102; clear HB; have BK102 := n0_; have HB := n1_; clear n0_ n1_; (try clear hb); (try clear hb2); (try clear hk); (try clear hi); have hcz15_0 : w14.cell? ⟨gb102, 0, none⟩ = some (.int .i32 ((rd_T30 l0 x8_1).f0)) := (blk_cell BK102.out 0).trans rfl; have hcz15_1 : w14.cell? ⟨gb102, 1, none⟩ = some (.int .i32 ((rd_T30 l0 x8_1).f1)) := (blk_cell BK102.out 1).trans rfl; have hfz15_0 := blk_frozen BK102.out 0; have hfz15_1 := blk_frozen BK102.out 1)))
         go_meet
         case rel => exact ⟨_, (decide (((rd_T30 l0 x8_1).f0) > ((rd_T30 l0 x8_1).f1))), XShort.eqs, H', ⟨by have := HK1.out; first | omega | exact Nat.le_refl _⟩, ⟨by (with_reducible repeat (first | refine blk_drewN ?_ _ | refine blk_drew ?_ | refine blk_alloc ?_ _)); exact BK102.out⟩, ⟨by repeat (first | (with_reducible first | exact HB.out | apply below_alloc | apply pw_below_drewN | apply below_drew1 | refine below_set ?_ GE102.out) | exact HB.out)⟩⟩
        ·rw [if_neg c12] at H
         have c12b0 : (t103 == t104) = false := beq_eq_false_iff_ne.mpr c12
         have c12b1 : (t103 != t104) = true := bne_iff_ne.mpr c12
         have H' := Aside0.mk H
         clear H
         have hcz16_0 : w9.cell? ⟨gb102, 0, none⟩ = some (.int .i32 ((rd_T30 l0 x8_1).f0)) := (blk_cell BK102.out 0).trans rfl
         have hcz16_1 : w9.cell? ⟨gb102, 1, none⟩ = some (.int .i32 ((rd_T30 l0 x8_1).f1)) := (blk_cell BK102.out 1).trans rfl
         have hfz16_0 := blk_frozen BK102.out 0
         have hfz16_1 := blk_frozen BK102.out 1
         go_wp2_with (first | (go_at_call 40; (with_reducible refine (sets_band.calls ((rd_T30 l0 x8_1).f1) t104 _ A11.out).mono ?_); rintro e w17 ⟨rfl, hb⟩; have n0_ := Aside0.mk (blk_below (g := gb102) (o := .cells #[.int .i32 ((rd_T30 l0 x8_1).f0), .int .i32 ((rd_T30 l0 x8_1).f1)] 30 (0, 0)) (by (with_reducible repeat (first | refine blk_drewN ?_ _ | refine blk_drew ?_ | refine blk_alloc ?_ _)); exact BK102.out) hb); have n1_ := Aside0.mk (below_step (by repeat (first | (with_reducible first | exact HB.out | apply below_alloc | apply pw_below_drewN | apply below_drew1 | refine below_set ?_ GE102.out) | exact HB.out)) hb); clear BK102; clear HB; have BK102 := n0_; have HB := n1_; clear n0_ n1_; (try clear hb); (try clear hb2); (try clear hk); (try clear hi)))
         repeat (go_quiet (first | (go_at_call 40; (with_reducible refine (sets_band.calls ((rd_T30 l0 x8_1).f1) t104 _ A11.out).mono ?_); rintro e w17 ⟨rfl, hb⟩; have n0_ := Aside0.mk (blk_below (g := gb102) (o := .cells #[.int .i32 ((rd_T30 l0 x8_1).f0), .int .i32 ((rd_T30 l0 x8_1).f1)] 30 (0, 0)) (by (with_reducible repeat (first | refine blk_drewN ?_ _ | refine blk_drew ?_ | refine blk_alloc ?_ _)); exact BK102.out) hb); have n1_ := Aside0.mk (below_step (by repeat (first | (with_reducible first | exact HB.out | apply below_alloc | apply pw_below_drewN | apply below_drew1 | refine below_set ?_ GE102.out) | exact HB.out)) hb); clear BK102; clear HB; have BK102 := n0_; have HB := n1_; clear n0_ n1_; (try clear hb); (try clear hb2); (try clear hk); (try clear hi))); try go_wp2_with (first | (go_at_call 40; (with_reducible refine (sets_band.calls ((rd_T30 l0 x8_1).f1) t104 _ A11.out).mono ?_); rintro e w17 ⟨rfl, hb⟩; have n0_ := Aside0.mk (blk_below (g := gb102) (o := .cells #[.int .i32 ((rd_T30 l0 x8_1).f0), .int .i32 ((rd_T30 l0 x8_1).f1)] 30 (0, 0)) (by (with_reducible repeat (first | refine blk_drewN ?_ _ | refine blk_drew ?_ | refine blk_alloc ?_ _)); exact BK102.out) hb); have n1_ := Aside0.mk (below_step (by repeat (first | (with_reducible first | exact HB.out | apply below_alloc | apply pw_below_drewN | apply below_drew1 | refine below_set ?_ GE102.out) | exact HB.out)) hb); clear BK102; clear HB; have BK102 := n0_; have HB := n1_; clear n0_ n1_; (try clear hb); (try clear hb2); (try clear hk); (try clear hi))))
         go_meet
         case rel => exact ⟨_, (true), XShort.eqs, H', ⟨by have := HK1.out; first | omega | exact Nat.le_refl _⟩, ⟨by (with_reducible repeat (first | refine blk_drewN ?_ _ | refine blk_drew ?_ | refine blk_alloc ?_ _)); exact BK102.out⟩, ⟨by repeat (first | (with_reducible first | exact HB.out | apply below_alloc | apply pw_below_drewN | apply below_drew1 | refine below_set ?_ GE102.out) | exact HB.out)⟩⟩
      case rest =>
       clear HC6
       try clear c1
       try clear p1
       try clear q1
       try clear hx1
       try clear c2
       try clear c2b0
       try clear p2
       try clear c3
       try clear c3b0
       try clear c4
       try clear c4b0
       try clear c10
       try clear c10b0
       try clear p10
       try clear q10
       try clear hx10
       try clear c12
       try clear c12b0
       try clear c12b1
       try clear hcz13_0
       try clear hcz13_1
       try clear hcz15_0
       try clear hcz15_1
       try clear hcz16_0
       try clear hcz16_1
       try clear hcz8_0
       try clear hcz8_1
       try clear hfz13_0
       try clear hfz13_1
       try clear hfz15_0
       try clear hfz15_1
       try clear hfz16_0
       try clear hfz16_1
       try clear hfz8_0
       try clear hfz8_1
       try clear hx101_0
       try clear hx101_1
       try clear p101
       try clear q101
       obtain ⟨kq, x31_5, rfl, HA, HJ5, BK102, HB⟩ := hcut
       cases kq with
       | zero => exact absurd HA.out (by simp [sets_Check.j1])
       | succ kj5 =>
        have H := HA.out
        clear HA
        simp only [sets_Check.j1] at H
        by_cases c18 : x31_5 = true
        ·subst c18
         have H1 : (some 1) = some r := by rw [if_pos rfl] at H; exact H
         clear H
         have H := H1
         clear H1
         obtain rfl := Option.some.inj H
         go_wp2
         repeat (go_quiet (fail); try go_wp2)
         go_ret
         exact ⟨by first | rfl | (simp [errW_none, errW_some] <;> rfl) | (simp [*, errW_none, errW_some] <;> rfl), by repeat (first | (with_reducible first | exact HB.out | apply below_alloc | apply pw_below_drewN | apply below_drew1 | refine below_set ?_ GE102.out) | exact HB.out)⟩
        ·replace c18 := Bool.eq_false_iff.mpr c18
         subst c18
         have H1 : (if x8_1 > 0 then (if 0 ≤ (wrap64 (x8_1 - 1)) then (if (wrap64 (x8_1 - 1)) < (l0.length : Int) then (if ((rd_T30 l0 x8_1).f0) ≤ ((rd_T30 l0 (wrap64 (x8_1 - 1))).f1) then (some 1) else (if ((rd_T30 l0 x8_1).f0) = (wrap32 (((rd_T30 l0 (wrap64 (x8_1 - 1))).f1) + 1)) then (some 1) else (sets_Check.l0 kj5 l0 l0 (l0.length : Int) (wrap64 (x8_1 + 1))))) else (none)) else (none)) else (sets_Check.l0 kj5 l0 l0 (l0.length : Int) (wrap64 (x8_1 + 1)))) = some r := by rw [if_neg (show ¬ (false = true) by decide)] at H; exact H
         clear H
         have H := H1
         clear H1
         by_cases c19 : x8_1 > 0
         ·rw [if_pos c19] at H
          have c19b0 : decide (0 < x8_1) = true := decide_eq_true c19
          clear c19
          obtain ⟨ji20, hji20⟩ : ∃ j_ : Int, (wrap64 (x8_1 - 1)) = j_ := ⟨_, rfl⟩
          replace H : (if 0 ≤ (ji20) then (if (ji20) < (l0.length : Int) then (if ((rd_T30 l0 x8_1).f0) ≤ ((rd_T30 l0 (ji20)).f1) then (some 1) else (if ((rd_T30 l0 x8_1).f0) = (wrap32 (((rd_T30 l0 (ji20)).f1) + 1)) then (some 1) else (sets_Check.l0 kj5 l0 l0 (l0.length : Int) (wrap64 (x8_1 + 1))))) else (none)) else (none)) = some r := by first | (rw [hji20] at H; exact H) | (simp only [hji20] at H ⊢; exact H)
          have hji20w : (IntKind.i64.wrap (x8_1 - 1)) = ji20 := (i64_w _).trans hji20
          by_cases c21 : 0 ≤ (ji20)
          ·rw [if_pos c21] at H
           have c21b0 : decide (0 ≤ (ji20)) = true := decide_eq_true c21
           clear c21
           by_cases c22 : (ji20) < (l0.length : Int)
           ·rw [if_pos c22] at H
            have c22b0 : decide ((ji20) < (l0.length : Int)) = true := decide_eq_true c22
            clear c22
            by_cases c23 : ((rd_T30 l0 x8_1).f0) ≤ ((rd_T30 l0 (ji20)).f1)
            ·rw [if_pos c23] at H
             have c23b0 : decide (((rd_T30 l0 x8_1).f0) ≤ ((rd_T30 l0 (ji20)).f1)) = true := decide_eq_true c23
             clear c23
             obtain rfl := Option.some.inj H
             have hcz24_0 : wc.cell? ⟨gb102, 0, none⟩ = some (.int .i32 ((rd_T30 l0 x8_1).f0)) := (blk_cell BK102.out 0).trans rfl
             have hcz24_1 : wc.cell? ⟨gb102, 1, none⟩ = some (.int .i32 ((rd_T30 l0 x8_1).f1)) := (blk_cell BK102.out 1).trans rfl
             have hfz24_0 := blk_frozen BK102.out 0
             have hfz24_1 := blk_frozen BK102.out 1
             have p105 : 0 ≤ ((ji20) : Int) := of_decide_eq_true XShort.asm
             have q105 : (ji20) < (l0.length : Int) := of_decide_eq_true XShort.asm
             obtain ⟨ad105, e105, hx105_0, hx105_1⟩ := at_T30 HR0.out (ji20) p105 q105
             obtain rfl : ad101 = ad105 := (by injection e105)
             replace hx105_0 := (HB.out.cell (World.block_lt_of_cell? w _ hx105_0)).trans hx105_0
             replace hx105_1 := (HB.out.cell (World.block_lt_of_cell? w _ hx105_1)).trans hx105_1
             replace p105 := eq_true p105
             replace q105 := eq_true q105
             go_wp2
             repeat (go_quiet (fail); try go_wp2)
             go_ret
             exact ⟨by first | rfl | (simp [errW_none, errW_some] <;> rfl) | (simp only [← hji20]; first | rfl | (simp [errW_none, errW_some] <;> rfl)) | (simp [*, errW_none, errW_some] <;> rfl), by repeat (first | (with_reducible first | exact HB.out | apply below_alloc | apply pw_below_drewN | apply below_drew1 | refine below_set ?_ GE102.out) | exact HB.out)⟩
            ·rw [if_neg c23] at H
             have c23b0 : decide (((rd_T30 l0 x8_1).f0) ≤ ((rd_T30 l0 (ji20)).f1)) = false := decide_eq_false c23
             clear c23
             by_cases c25 : ((rd_T30 l0 x8_1).f0) = (wrap32 (((rd_T30 l0 (ji20)).f1) + 1))
             ·rw [if_pos c25] at H
              have c25b0 : (((rd_T30 l0 x8_1).f0) == (wrap32 (((rd_T30 l0 (ji20)).f1) + 1))) = true := beq_iff_eq.mpr c25
              have c25b1 : (((rd_T30 l0 x8_1).f0) != (wrap32 (((rd_T30 l0 (ji20)).f1) + 1))) = false := bne_eq_false_iff_eq.mpr c25
              clear c25
              obtain rfl := Option.some.inj H
              have hcz26_0 : wc.cell? ⟨gb102, 0, none⟩ = some (.int .i32 ((rd_T30 l0 x8_1).f0)) := (blk_cell BK102.out 0).trans rfl
              have hcz26_1 : wc.cell? ⟨gb102, 1, none⟩ = some (.int .i32 ((rd_T30 l0 x8_1).f1)) := (blk_cell BK102.out 1).trans rfl
              have hfz26_0 := blk_frozen BK102.out 0
              have hfz26_1 := blk_frozen BK102.out 1
              have p105 : 0 ≤ ((ji20) : Int) := of_decide_eq_true XShort.asm
              have q105 : (ji20) < (l0.length : Int) := of_decide_eq_true XShort.asm
              obtain ⟨ad105, e105, hx105_0, hx105_1⟩ := at_T30 HR0.out (ji20) p105 q105
              obtain rfl : ad101 = ad105 := (by injection e105)
              replace hx105_0 := (HB.out.cell (World.block_lt_of_cell? w _ hx105_0)).trans hx105_0
              replace hx105_1 := (HB.out.cell (World.block_lt_of_cell? w _ hx105_1)).trans hx105_1
              replace p105 := eq_true p105
              replace q105 := eq_true q105
              have p106 : 0 ≤ ((ji20) : Int) := of_decide_eq_true XShort.asm
              have q106 : (ji20) < (l0.length : Int) := of_decide_eq_true XShort.asm
              obtain ⟨ad106, e106, hx106_0, hx106_1⟩ := at_T30 HR0.out (ji20) p106 q106
              obtain rfl : ad101 = ad106 := (by injection e106)
              replace hx106_0 := (HB.out.cell (World.block_lt_of_cell? w _ hx106_0)).trans hx106_0
              replace hx106_1 := (HB.out.cell (World.block_lt_of_cell? w _ hx106_1)).trans hx106_1
              replace p106 := eq_true p106
              replace q106 := eq_true q106
              go_wp2
              repeat (go_quiet (fail); try go_wp2)
              go_ret
              exact ⟨by first | rfl | (simp [errW_none, errW_some] <;> rfl) | (simp only [← hji20]; first | rfl | (simp [errW_none, errW_some] <;> rfl)) | (simp [*, errW_none, errW_some] <;> rfl), by repeat (first | (with_reducible first | exact HB.out | apply below_alloc | apply pw_below_drewN | apply below_drew1 | refine below_set ?_ GE102.out) | exact HB.out)⟩
             ·rw [if_neg c25] at H
              have c25b0 : (((rd_T30 l0 x8_1).f0) == (wrap32 (((rd_T30 l0 (ji20)).f1) + 1))) = false := beq_eq_false_iff_ne.mpr c25
              have c25b1 : (((rd_T30 l0 x8_1).f0) != (wrap32 (((rd_T30 l0 (ji20)).f1) + 1))) = true := bne_iff_ne.mpr c25
              have H' := Aside0.mk H
              clear H
              have hcz27_0 : wc.cell? ⟨gb102, 0, none⟩ = some (.int .i32 ((rd_T30 l0 x8_1).f0)) := (blk_cell BK102.out 0).trans rfl
              have hcz27_1 : wc.cell? ⟨gb102, 1, none⟩ = some (.int .i32 ((rd_T30 l0 x8_1).f1)) := (blk_cell BK102.out 1).trans rfl
              have hfz27_0 := blk_frozen BK102.out 0
              have hfz27_1 := blk_frozen BK102.out 1
              have p105 : 0 ≤ ((ji20) : Int) := of_decide_eq_true XShort.asm
              have q105 : (ji20) < (l0.length : Int) := of_decide_eq_true XShort.asm
              obtain ⟨ad105, e105, hx105_0, hx105_1⟩ := at_T30 HR0.out (ji20) p105 q105
              obtain rfl : ad101 = ad105 := (by injection e105)
              replace hx105_0 := (HB.out.cell (World.block_lt_of_cell? w _ hx105_0)).trans hx105_0
              replace hx105_1 := (HB.out.cell (World.block_lt_of_cell? w _ hx105_1)).trans hx105_1
              replace p105 := eq_true p105
              replace q105 := eq_true q105
              have p106 : 0 ≤ ((ji20) : Int) := of_decide_eq_true XShort.asm
              have q106 : (ji20) < (l0.length : Int) := of_decide_eq_true XShort.asm
              obtain ⟨ad106, e106, hx106_0, hx106_1⟩ := at_T30 HR0.out (ji20) p106 q106
              obtain rfl : ad101 = ad106 := (by injection e106)
              replace hx106_0 := (HB.out.cell (World.block_lt_of_cell? w _ hx106_0)).trans hx106_0
              replace hx106_1 := (HB.out.cell (World.block_lt_of_cell? w _ hx106_1)).trans hx106_1
              replace p106 := eq_true p106
              replace q106 := eq_true q106
              go_wp2
              repeat (go_quiet (fail); try go_wp2)
              go_roundg kj5
              case measure => have := HK1.out; have := HJ5.out; omega
              case rel => exact ⟨(wrap64 (x8_1 + 1)), XShort.eqs, H', ⟨by have := HK1.out; have := HJ5.out; omega⟩, ⟨by repeat (first | (with_reducible first | exact HB.out | apply below_alloc | apply pw_below_drewN | apply below_drew1 | refine below_set ?_ GE102.out) | exact HB.out)⟩⟩
           ·rw [if_neg c22] at H
            exact absurd H (by simp)
          ·rw [if_neg c21] at H
           exact absurd H (by simp)
         ·rw [if_neg c19] at H
          have c19b0 : decide (0 < x8_1) = false := decide_eq_false c19
          clear c19
          have H' := Aside0.mk H
          clear H
          go_wp2
          repeat (go_quiet (fail); try go_wp2)
          go_roundg kj5
          case measure => have := HK1.out; have := HJ5.out; omega
          case rel => exact ⟨(wrap64 (x8_1 + 1)), XShort.eqs, H', ⟨by have := HK1.out; have := HJ5.out; omega⟩, ⟨by repeat (first | (with_reducible first | exact HB.out | apply below_alloc | apply pw_below_drewN | apply below_drew1 | refine below_set ?_ GE102.out) | exact HB.out)⟩⟩
     ·rw [if_neg c4] at H
      exact absurd H (by simp)
    ·rw [if_neg c3] at H
     exact absurd H (by simp)
   ·rw [if_neg c2] at H
    have c2b0 : decide (x8_1 < (l0.length : Int)) = false := decide_eq_false c2
    clear c2
    obtain rfl := Option.some.inj H
    go_wp2
    repeat (go_quiet (fail); try go_wp2)
    go_ret
    exact ⟨by first | rfl | (simp [errW_none, errW_some] <;> rfl) | (simp [*, errW_none, errW_some] <;> rfl), XShort.bel⟩

/-! ### slices_Clone_Span: function 41 -/
def slices_Clone_Span.f (l0 : List S54) : Option (List S54) := if l0.length < 17592186044416 then some l0 else none
theorem empty_row_spn (w : World) : k54.R 54 (w.alloc (.cells #[] 54)) w.heap.size (fun _ => True) (.slice (some ⟨w.heap.size, 0, none⟩) 0 0) [] :=
 ⟨fun _ _ => trivial, [], by
  have h := World.ownsRow_lit (base := w.heap.size) (e := 54) (size := 2) w #[] 0 (Nat.le_refl _) (by decide) (by simp)
  have h2 : (w.alloc (.cells #[] 54)).ownsRow w.heap.size 54 2 (.slice (some ⟨w.heap.size, 0, none⟩) 0 0) 0 [] := by simpa using h
  exact h2, Reps.none _ _⟩
set_option maxHeartbeats 4000000 in
set_option maxRecDepth 100000 in
theorem slices_Clone_Span.calls (A0 : Option Addr) (c0 : Nat) (l0 : List S54) (r : List S54) (w : World) (hr0 : Kd.C k54 w A0 l0.length l0) (hc0 : l0.length ≤ c0) (h : slices_Clone_Span.f l0 = some r) :
  Calls Tryd.prog 41 #[.slice A0 l0.length c0] w fun e w' => ∃ v0_ : Value, e = .returned (v0_) ∧ Kd.R k54 54 w' w.heap.size (fun _ => True) v0_ r ∧ Below w.heap.size w w' := by
 unfold slices_Clone_Span.f at h
 split at h
 case isFalse => cases h
 case isTrue hn =>
 injection h with h
 subst h
 cases A0 with
 | none =>
  obtain rfl : l0 = [] := by
   rcases Nat.eq_zero_or_pos l0.length with h0 | h0
   ·exact List.length_eq_zero_iff.1 h0
   ·obtain ⟨ad, he, _⟩ := hr0.2.2 h0
    cases he
  have hq := fun (W : World) => Go.Lib.run_eql_slice_nil (P := Tryd.prog) W 52 54 none 0 c0 0 0 Tryd.underlying52
  clear hr0 hc0 hn
  go_enter Tryd.func41, Tryd.ntmps41
  go_wp2
  go_ret
  exact ⟨_, rfl, Kd.R_nil _ _ _ _ _, Below.refl _ _⟩
 | some ad =>
  have HO := Aside0.mk (empty_row_spn w)
  have HB := Aside0.mk (below_alloc (Below.refl w.heap.size w) (.cells #[] 54))
  have HC := Aside0.mk (Kd.C_below hr0 HB.out)
  have HN := Aside0.mk hn
  have hq := fun (W : World) => Go.Lib.run_eql_slice_nil (P := Tryd.prog) W 52 54 (some ad) l0.length c0 0 0 Tryd.underlying52
  clear hr0 hc0 hn
  go_enter Tryd.func41, Tryd.ntmps41
  go_wp2_with ((with_reducible refine gate_builtin (b := .append) (xs := #[.tmp 5, .tmp 6]) rfl ?_); at_builtin; refine Kd.R_append_rows k54 (w0 := w) w.heap.size rfl (.tmp 5) (.tmp 6) 52 54 (.agg #[.int .u8 0, .int .u8 0]) 2 rfl Tryd.underlying52 (by kernel_rfl) rfl (by decide) (by decide) _ [] l0 (some ad) l0.length c0 (fun _ => True) (fun _ => False) rfl rfl HO.out HC.out (fun x cs h => by obtain rfl := k54_open h; exact k54_mkM _ _ _ x) (fun _ h => h.elim) (fun _ _ => trivial) HB.out HB.out.size (by have := HN.out; simp; omega) ?_; intro v5 w5 ho hb hg hat; have HR5 := Aside0.mk ho; have HB5 := Aside0.mk hb; clear ho hb hg hat)
  go_ret
  exact ⟨_, rfl, HR5.out, HB5.out⟩

/-! ### seqs_span: function 42 -/
def seqs_span.f (a0 : Int) (a1 : Int) (a2 : Int) : Option (Int × Int) := some ((wrap32 (a0 + a1)) % 256, (wrap32 (a0 + a2)) % 256)
set_option maxHeartbeats 8000000 in
set_option maxRecDepth 100000 in
theorem seqs_span.calls (a0 : Int) (a1 : Int) (a2 : Int) (r1 : Int) (r2 : Int) (w : World) (h : seqs_span.f a0 a1 a2 = some (r1, r2)) :
  Calls Tryd.prog 42 #[.int .i32 a0, .int .i32 a1, .int .i32 a2] w fun e w' => e = .returned (.agg #[.int .u8 r1, .int .u8 r2]) ∧ Below w.heap.size w w' := by
 have hu54 := Tryd.underlying54
 have HB := Aside0.mk (Below.refl w.heap.size w)
 have H : (some ((wrap32 (a0 + a1)) % 256, (wrap32 (a0 + a2)) % 256)) = some (r1, r2) := h
 clear h
 simp only [Option.some.injEq, Prod.mk.injEq] at H
 obtain ⟨rfl, rfl⟩ := H
 go_enter Tryd.func42, Tryd.ntmps42
 go_wp2_with (first | ((with_reducible refine gate_dst (N := 6) rfl ?_); refine box_event ?hg (N := 6) ?hd (cs := #[.int .u8 0, .int .u8 0]) (t := 54) ?hr ?_; (case hd => rfl); (case hg => rfl); (case hr => first | (go_simp; done) | (go_simp; rfl)); intro gb107 hg w4 hbox hb; have n0_ := Aside0.mk (below_step XShort.bel hb); have n1_ := Aside0.mk (hbox); have n2_ := Aside0.mk ((by rw [hg]; exact (below_size XShort.bel) : w.heap.size ≤ gb107)); have n3_ := Aside0.mk ((by rw [hg]; exact (below_size XShort.bel) : w.heap.size ≤ gb107)); clear HB; have HB := n0_; have BK107 := n1_; have GW107 := n2_; have GE107 := n3_; clear n0_ n1_ n2_ n3_; clear hb hbox hg; have hcz5_0 : w4.cell? ⟨gb107, 0, none⟩ = some (.int .u8 0) := (blk_cell BK107.out 0).trans rfl; have hcz5_1 : w4.cell? ⟨gb107, 1, none⟩ = some (.int .u8 0) := (blk_cell BK107.out 1).trans rfl; have hfz5_0 := blk_frozen BK107.out 0; have hfz5_1 := blk_frozen BK107.out 1))
 refine bodyPost_ret (results_cell_row rfl _ _ gb107 54 #[.int .u8 ((wrap32 (a0 + a1)) % 256), .int .u8 ((wrap32 (a0 + a2)) % 256)] (0, 0) _ rfl (by (with_reducible repeat (first | refine blk_drewN ?_ _ | refine blk_drew ?_ | refine blk_alloc ?_ _)); refine blk_put (cs := #[.int .u8 ((wrap32 (a0 + a1)) % 256), .int .u8 0]) ?_ 1 _ rfl; (with_reducible repeat (first | refine blk_drewN ?_ _ | refine blk_drew ?_ | refine blk_alloc ?_ _)); refine blk_put (cs := #[.int .u8 0, .int .u8 0]) ?_ 0 _ rfl; (with_reducible repeat (first | refine blk_drewN ?_ _ | refine blk_drew ?_ | refine blk_alloc ?_ _)); exact BK107.out) Tryd.underlying54 rfl (by kernel_rfl)) rfl ?_
 exact ⟨by first | rfl | (simp [errW_none, errW_some] <;> rfl) | (simp [*, errW_none, errW_some] <;> rfl), by repeat (first | (with_reducible first | exact HB.out | apply below_alloc | apply pw_below_drewN | apply below_drew1 | refine below_set ?_ GE107.out) | exact HB.out)⟩

-- NOT PRINTED: function 26 (seqs_cutter_cut)

end Go.Proofs.YtcfecoalljfoaaaDoor.XS
namespace Go.Proofs.YtcfecoalljfoaaaDoor.XS
open Go.Proofs.YtcfecoalljfoaaaDoor.XShort (o i)
open Go.RowKit Go.Proofs.YtcfecoalljfoaaaDoorW.PrintWords Go.Proofs.YtcfecoalljfoaaaDoorW.PrintLast Go.Proofs.YtcfecoalljfoaaaDoorW.PrintMore
attribute [local go_sem] max2_int min2_int max_two min_two max_three min_three max_four min_four   -- for this text's walks alone
set_option linter.unusedVariables false
set_option linter.unusedSimpArgs false

/-! ### seqs_Split: function 8 -/
namespace XCut
abbrev Sp := S54
def sp (a b : Int) : Sp := ⟨a, b⟩
def pw : Nat → Int
 | 0 => 1
 | n + 1 => 64 * pw n
theorem pw_pos : ∀ n, 0 < pw n
 | 0 => by decide
 | n + 1 => by have := pw_pos n; rw [pw]; omega
/-- a number by its first digit and the rest -/
theorem dm (v m : Int) (hm : 0 < m) : v = v / m * m + v % m ∧ 0 ≤ v % m ∧ v % m < m := by
 have h1 := Int.mul_ediv_add_emod v m
 have h2 := Int.emod_nonneg v (b := m) (by omega)
 have h3 := Int.emod_lt_of_pos v hm
 rw [Int.mul_comm] at h1
 exact ⟨h1.symm, h2, h3⟩
theorem dq (a v m : Int) (h0 : 0 ≤ v) (h1 : v < m) : (a * m + v) / m = a ∧ (a * m + v) % m = v := by
 have hm : m ≠ 0 := by omega
 constructor
 ·rw [Int.add_comm, Int.add_mul_ediv_right _ _ hm, Int.ediv_eq_zero_of_lt h0 h1, Int.zero_add]
 ·rw [Int.add_comm, Int.add_mul_emod_self_right, Int.emod_eq_of_lt h0 h1]
def enc : Nat → Int → Int → List Int
 | 0, head, v => [head + v]
 | n + 1, head, v => (head + v / pw (n + 1)) :: enc n 128 (v % pw (n + 1))
theorem enc_shift (n : Nat) (head a v : Int) (h0 : 0 ≤ v) (h1 : v < pw (n + 1)) : enc (n + 1) head (a * pw (n + 1) + v) = (head + a) :: enc n 128 v := by
 obtain ⟨e1, e2⟩ := dq a v _ h0 h1
 rw [enc, e1, e2]
theorem enc_lo : ∀ n, enc n 128 0 = List.replicate (n + 1) 128
 | 0 => rfl
 | n + 1 => by rw [enc, Int.zero_ediv, Int.zero_emod, enc_lo n]; rfl
theorem enc_hi : ∀ n, enc n 128 (pw (n + 1) - 1) = List.replicate (n + 1) 191
 | 0 => rfl
 | n + 1 => by
  have e : pw (n + 2) - 1 = 63 * pw (n + 1) + (pw (n + 1) - 1) := by rw [pw]; omega
  have := pw_pos (n + 1)
  rw [e, enc_shift n 128 63 _ (by omega) (by omega), enc_hi n]
  rfl
theorem enc_len : ∀ n head v, (enc n head v).length = n + 1
 | 0, _, _ => rfl
 | n + 1, _, _ => by rw [enc, List.length_cons, enc_len n]
def seqOf (n : Nat) (head : Int) (p : Int × Int) : List Sp := List.zipWith sp (enc n head p.1) (enc n head p.2)
theorem seq_shift (n : Nat) (head a : Int) (p : Int × Int) (h0 : 0 ≤ p.1) (h1 : p.1 < pw (n + 1)) (h2 : 0 ≤ p.2) (h3 : p.2 < pw (n + 1)) : seqOf (n + 1) head (a * pw (n + 1) + p.1, a * pw (n + 1) + p.2) = sp (head + a) (head + a) :: seqOf n 128 p := by
 unfold seqOf
 simp only
 rw [enc_shift n head a _ h0 h1, enc_shift n head a _ h2 h3]
 rfl
theorem zip_rep (a b : Int) : ∀ k, List.zipWith sp (List.replicate k a) (List.replicate k b) = List.replicate k (sp a b)
 | 0 => rfl
 | k + 1 => by rw [List.replicate_succ, List.replicate_succ, List.replicate_succ, List.zipWith_cons_cons, zip_rep a b k]
theorem seq_full (n : Nat) (head a y : Int) : seqOf (n + 1) head (a * pw (n + 1), y * pw (n + 1) + (pw (n + 1) - 1)) = sp (head + a) (head + y) :: List.replicate (n + 1) (sp 128 191) := by
 have := pw_pos (n + 1)
 unfold seqOf
 simp only
 rw [show a * pw (n + 1) = a * pw (n + 1) + 0 by omega, enc_shift n head a 0 (by omega) (by omega), enc_shift n head y _ (by omega) (by omega), enc_lo, enc_hi, List.zipWith_cons_cons, zip_rep]
theorem seq_len (n : Nat) (head : Int) (p : Int × Int) : (seqOf n head p).length = n + 1 := by
 unfold seqOf
 rw [List.length_zipWith, enc_len, enc_len, Nat.min_self]
def sh (d : Int) (p : Int × Int) : Int × Int := (d + p.1, d + p.2)
def pieces : Nat → Int → Int → List (Int × Int)
 | 0, lo, hi => [(lo, hi)]
 | n + 1, lo, hi => if lo / pw (n + 1) = hi / pw (n + 1) then (pieces n (lo % pw (n + 1)) (hi % pw (n + 1))).map (sh (lo / pw (n + 1) * pw (n + 1))) else
   (if lo % pw (n + 1) = 0 then [] else (pieces n (lo % pw (n + 1)) (pw (n + 1) - 1)).map (sh (lo / pw (n + 1) * pw (n + 1)))) ++
   ((if (if lo % pw (n + 1) = 0 then lo / pw (n + 1) else lo / pw (n + 1) + 1) ≤ (if hi % pw (n + 1) = pw (n + 1) - 1 then hi / pw (n + 1) else hi / pw (n + 1) - 1) then [((if lo % pw (n + 1) = 0 then lo / pw (n + 1) else lo / pw (n + 1) + 1) * pw (n + 1), (if hi % pw (n + 1) = pw (n + 1) - 1 then hi / pw (n + 1) else hi / pw (n + 1) - 1) * pw (n + 1) + (pw (n + 1) - 1))] else []) ++
   (if hi % pw (n + 1) = pw (n + 1) - 1 then [] else (pieces n 0 (hi % pw (n + 1))).map (sh (hi / pw (n + 1) * pw (n + 1)))))
/-- pieces that rise within lo and hi -/
def Rise (lo hi : Int) (l : List (Int × Int)) : Prop := (∀ p ∈ l, lo ≤ p.1 ∧ p.1 ≤ p.2 ∧ p.2 ≤ hi) ∧ l.Pairwise (fun p q => p.2 < q.1)
theorem Rise.nil (lo hi : Int) : Rise lo hi [] := ⟨fun _ h => (nomatch h), List.Pairwise.nil⟩
theorem Rise.one (lo hi x y : Int) (h0 : lo ≤ x) (h1 : x ≤ y) (h2 : y ≤ hi) : Rise lo hi [(x, y)] := ⟨fun p h => by rcases List.mem_singleton.1 h with rfl; exact ⟨h0, h1, h2⟩, List.pairwise_singleton _ _⟩
theorem Rise.shift {lo hi : Int} {l : List (Int × Int)} (d : Int) (h : Rise lo hi l) : Rise (d + lo) (d + hi) (l.map (sh d)) := by
 refine ⟨fun p hp => ?_, ?_⟩
 ·obtain ⟨q, hq, rfl⟩ := List.mem_map.1 hp
  have := h.1 q hq
  unfold sh
  simp only
  omega
 ·rw [List.pairwise_map]
  exact h.2.imp (fun hab => by unfold sh; simp only; omega)
theorem Rise.append {lo a b hi : Int} {l m : List (Int × Int)} (h : Rise lo a l) (g : Rise b hi m) (h1 : a < b) (h2 : lo ≤ b) (h3 : a ≤ hi) : Rise lo hi (l ++ m) := by
 refine ⟨fun p hp => ?_, ?_⟩
 ·rcases List.mem_append.1 hp with hp | hp
  ·have := h.1 p hp; omega
  ·have := g.1 p hp; omega
 ·rw [List.pairwise_append]
  exact ⟨h.2, g.2, fun p hp q hq => by have := h.1 p hp; have := g.1 q hq; omega⟩
theorem Rise.weak {lo hi lo' hi' : Int} {l : List (Int × Int)} (h : Rise lo hi l) (h1 : lo' ≤ lo) (h2 : hi ≤ hi') : Rise lo' hi' l := ⟨fun p hp => by have := h.1 p hp; omega, h.2⟩
theorem Rise.len : ∀ {l : List (Int × Int)} {lo hi : Int}, Rise lo hi l → lo ≤ hi + 1 → (l.length : Int) ≤ hi - lo + 1
 | [], lo, hi, _, h => by simp; omega
 | p :: l, lo, hi, h, hb => by
  have h0 := h.1 p List.mem_cons_self
  have h1 : Rise (p.2 + 1) hi l := ⟨fun q hq => by
   have h2 := (List.pairwise_cons.1 h.2).1 q hq
   have h3 := h.1 q (List.mem_cons_of_mem _ hq)
   omega, (List.pairwise_cons.1 h.2).2⟩
  have h2 := Rise.len h1 (by omega)
  rw [List.length_cons]
  omega
theorem mul_le (a b m : Int) (hm : 0 < m) (h : a ≤ b) : a * m ≤ b * m := Int.mul_le_mul_of_nonneg_right h (by omega)
theorem ple (lo hi m : Int) (hm : 0 < m) (h : lo ≤ hi) : lo / m ≤ hi / m := Int.ediv_le_ediv hm h
theorem pieces_ok : ∀ (n : Nat) (lo hi : Int), lo ≤ hi → Rise lo hi (pieces n lo hi) ∧ pieces n lo hi ≠ []
 | 0, lo, hi, h => ⟨Rise.one _ _ _ _ (Int.le_refl _) h (Int.le_refl _), by simp [pieces]⟩
 | n + 1, lo, hi, h => by
  have hm := pw_pos (n + 1)
  rw [pieces]
  generalize pw (n + 1) = m at hm ⊢
  obtain ⟨e1, e2, e3⟩ := dm lo m hm
  obtain ⟨f1, f2, f3⟩ := dm hi m hm
  have hle := ple lo hi m hm h
  generalize lo / m = a at e1 hle ⊢
  generalize hi / m = z at f1 hle ⊢
  generalize lo % m = r at e1 e2 e3 ⊢
  generalize hi % m = s at f1 f2 f3 ⊢
  split
  case isTrue e =>
   subst e
   obtain ⟨i1, i2⟩ := pieces_ok n r s (by omega)
   have i3 := i1.shift (a * m)
   rw [← e1, ← f1] at i3
   exact ⟨i3, by simpa using i2⟩
  case isFalse e =>
   have hz : (a + 1) * m ≤ z * m := mul_le _ _ _ hm (by omega)
   rw [Int.add_mul, Int.one_mul] at hz
   obtain ⟨i1, i2⟩ := pieces_ok n r (m - 1) (by omega)
   obtain ⟨j1, j2⟩ := pieces_ok n 0 s (by omega)
   have i3 := i1.shift (a * m)
   have j3 := j1.shift (z * m)
   have A : Rise lo (a * m + (if r = 0 then -1 else m - 1)) (if r = 0 then [] else (pieces n r (m - 1)).map (sh (a * m))) := by
    split
    ·exact Rise.nil _ _
    ·rw [← e1] at i3; exact i3
   have C : Rise (z * m + (if s = m - 1 then m else 0)) hi (if s = m - 1 then [] else (pieces n 0 s).map (sh (z * m))) := by
    split
    ·exact Rise.nil _ _
    ·rw [← f1] at j3; exact j3
   have B : Rise (a * m + (if r = 0 then 0 else m)) (z * m + (if s = m - 1 then m - 1 else -1)) (if (if r = 0 then a else a + 1) ≤ (if s = m - 1 then z else z - 1) then [((if r = 0 then a else a + 1) * m, (if s = m - 1 then z else z - 1) * m + (m - 1))] else []) := by
    have hx : (if r = 0 then a else a + 1) * m = a * m + (if r = 0 then 0 else m) := by split <;> simp only [Int.add_mul, Int.one_mul, Int.add_zero]
    have hy : (if s = m - 1 then z else z - 1) * m + (m - 1) = z * m + (if s = m - 1 then m - 1 else -1) := by split <;> simp only [Int.sub_mul, Int.one_mul] <;> omega
    generalize (if r = 0 then a else a + 1) = x at hx ⊢
    generalize (if s = m - 1 then z else z - 1) = y at hy ⊢
    by_cases hq : x ≤ y
    ·rw [if_pos hq]
     have hq2 := mul_le _ _ m hm hq
     exact Rise.one _ _ _ _ (by omega) (by omega) (by omega)
    ·rw [if_neg hq]
     exact Rise.nil _ _
   refine ⟨Rise.append A (Rise.append B C ?_ ?_ ?_) ?_ ?_ ?_, ?_⟩
   ·split <;> omega
   ·split <;> split <;> omega
   ·split <;> omega
   ·split <;> omega
   ·split <;> omega
   ·split <;> omega
   ·by_cases hr : r = 0
    ·by_cases hs : s = m - 1
     ·rw [if_pos hr, if_pos hr, if_pos hs, if_pos hs, if_pos (show a ≤ z by omega)]
      simp
     ·rw [if_neg hs (c := s = m - 1) (t := []) (e := (pieces n 0 s).map (sh (z * m)))]
      intro h9
      have h8 := (List.append_eq_nil_iff.1 (List.append_eq_nil_iff.1 h9).2).2
      exact j2 (List.map_eq_nil_iff.1 h8)
    ·rw [if_neg hr]
     simp [i2]
def cutR (n : Nat) (ahead : List Sp) (head lo hi : Int) : List (List Sp) := (pieces n lo hi).map fun p => ahead ++ seqOf n head p
theorem cut_shift (n : Nat) (ahead : List Sp) (head a lo hi : Int) (h0 : 0 ≤ lo) (h1 : lo ≤ hi) (h2 : hi < pw (n + 1)) :
  ((pieces n lo hi).map (sh (a * pw (n + 1)))).map (fun p => ahead ++ seqOf (n + 1) head p) = cutR n (ahead ++ [sp (head + a) (head + a)]) 128 lo hi := by
 unfold cutR
 rw [List.map_map]
 refine List.map_congr_left (fun p hp => ?_)
 have h3 := (pieces_ok n lo hi h1).1.1 p hp
 rw [Function.comp_apply]
 unfold sh
 rw [seq_shift n head a p (by omega) (by omega) (by omega) (by omega), List.append_assoc]
 rfl
theorem cut_same (n : Nat) (ahead : List Sp) (head lo hi : Int) (h : lo ≤ hi) (e : lo / pw (n + 1) = hi / pw (n + 1)) :
  cutR (n + 1) ahead head lo hi = cutR n (ahead ++ [sp (head + lo / pw (n + 1)) (head + lo / pw (n + 1))]) 128 (lo - lo / pw (n + 1) * pw (n + 1)) (hi - lo / pw (n + 1) * pw (n + 1)) := by
 have hm := pw_pos (n + 1)
 obtain ⟨e1, e2, e3⟩ := dm lo (pw (n + 1)) hm
 obtain ⟨f1, f2, f3⟩ := dm hi (pw (n + 1)) hm
 rw [← e] at f1
 rw [show lo - lo / pw (n + 1) * pw (n + 1) = lo % pw (n + 1) by omega, show hi - lo / pw (n + 1) * pw (n + 1) = hi % pw (n + 1) by omega]
 rw [← cut_shift n ahead head _ _ _ e2 (by omega) f3]
 conv => lhs; unfold cutR
 rw [pieces, if_pos e]
theorem cut_parts (n : Nat) (ahead : List Sp) (head lo hi : Int) (h : lo ≤ hi) (e : ¬ lo / pw (n + 1) = hi / pw (n + 1)) :
  cutR (n + 1) ahead head lo hi = (if lo % pw (n + 1) = 0 then [] else cutR (n + 1) ahead head lo (lo / pw (n + 1) * pw (n + 1) + pw (n + 1) - 1)) ++
   ((if (if lo % pw (n + 1) = 0 then lo / pw (n + 1) else lo / pw (n + 1) + 1) ≤ (if hi % pw (n + 1) = pw (n + 1) - 1 then hi / pw (n + 1) else hi / pw (n + 1) - 1) then [ahead ++ sp (head + (if lo % pw (n + 1) = 0 then lo / pw (n + 1) else lo / pw (n + 1) + 1)) (head + (if hi % pw (n + 1) = pw (n + 1) - 1 then hi / pw (n + 1) else hi / pw (n + 1) - 1)) :: List.replicate (n + 1) (sp 128 191)] else []) ++
   (if hi % pw (n + 1) = pw (n + 1) - 1 then [] else cutR (n + 1) ahead head (hi / pw (n + 1) * pw (n + 1)) hi)) := by
 have hm := pw_pos (n + 1)
 obtain ⟨e1, e2, e3⟩ := dm lo (pw (n + 1)) hm
 obtain ⟨f1, f2, f3⟩ := dm hi (pw (n + 1)) hm
 have hq := dq (lo / pw (n + 1)) (pw (n + 1) - 1) (pw (n + 1)) (by omega) (by omega)
 have hq2 := dq (hi / pw (n + 1)) 0 (pw (n + 1)) (by omega) (by omega)
 have c1 : cutR (n + 1) ahead head lo (lo / pw (n + 1) * pw (n + 1) + pw (n + 1) - 1) = ((pieces n (lo % pw (n + 1)) (pw (n + 1) - 1)).map (sh (lo / pw (n + 1) * pw (n + 1)))).map (fun p => ahead ++ seqOf (n + 1) head p) := by
  conv => lhs; unfold cutR
  rw [show lo / pw (n + 1) * pw (n + 1) + pw (n + 1) - 1 = lo / pw (n + 1) * pw (n + 1) + (pw (n + 1) - 1) by omega, pieces, if_pos hq.1.symm, hq.2]
 have c2 : cutR (n + 1) ahead head (hi / pw (n + 1) * pw (n + 1)) hi = ((pieces n 0 (hi % pw (n + 1))).map (sh (hi / pw (n + 1) * pw (n + 1)))).map (fun p => ahead ++ seqOf (n + 1) head p) := by
  conv => lhs; unfold cutR
  rw [Int.add_zero] at hq2
  rw [pieces, if_pos hq2.1, hq2.2, hq2.1]
 rw [c1, c2]
 conv => lhs; unfold cutR
 rw [pieces, if_neg e, List.map_append, List.map_append]
 congr 1
 ·split <;> rfl
 ·congr 1
  ·generalize (if lo % pw (n + 1) = 0 then lo / pw (n + 1) else lo / pw (n + 1) + 1) = x
   generalize (if hi % pw (n + 1) = pw (n + 1) - 1 then hi / pw (n + 1) else hi / pw (n + 1) - 1) = y
   by_cases hq : x ≤ y
   ·rw [if_pos hq, if_pos hq, List.map_cons, List.map_nil, seq_full]
   ·rw [if_neg hq, if_neg hq]
    rfl
  ·split <;> rfl
end XCut
namespace CU
open XCut
abbrev Sp := S54
abbrev kOut : Kd (List Sp) := Kd.slice 54 k54
abbrev RowS (w : World) (b : Nat) (v : Value) (l : List Sp) : Prop := Kd.R k54 54 w b (fun _ => True) v l
structure St (w0 w : World) (bc : Nat) (v : Value) (acc : List (List Sp)) : Prop where
 base : Below w0.heap.size w0 w
 cell : w.heap[bc]? = some (.cells #[v] 66 (0, 0))
 row : Kd.S kOut 52 w w0.heap.size (fun k => k ≠ bc) v acc
 lo : w0.heap.size ≤ bc
theorem blt {w : World} {g : Nat} {o : Obj} (h : w.heap[g]? = some o) : g < w.heap.size := (Array.getElem?_eq_some_iff.1 h).1
theorem St.below {w0 w w1 : World} {bc : Nat} {v : Value} {acc : List (List Sp)} (h : St w0 w bc v acc) (hb : Below w.heap.size w w1) : St w0 w1 bc v acc :=
 ⟨below_step h.base hb, (hb.block bc (blt h.cell)).trans h.cell, Kd.S_below h.row hb, h.lo⟩
theorem St.cellv {w0 w : World} {bc : Nat} {v : Value} {acc : List (List Sp)} (h : St w0 w bc v acc) : w.cell? ⟨bc, 0, none⟩ = some v := by rw [cell_of_row w bc 0 _ _ (0, 0) h.cell]; rfl
/-- what is new is neither the variable's block nor its row's -/
theorem St.fresh {w0 w : World} {bc k : Nat} {v : Value} {acc : List (List Sp)} (h : St w0 w bc v acc) (hk : w.heap.size ≤ k) : k ≠ bc ∧ some k ≠ v.ownBlock :=
 ⟨fun e => by have := blt h.cell; omega, fun e => by have := Kd.S_lt h.row k e.symm; omega⟩
/-- no block of the list is one of a row that is new -/
theorem St.apart {w0 w w1 : World} {bc : Nat} {v v5 : Value} {acc : List (List Sp)} (h : St w0 w bc v acc) (hb : Below w.heap.size w w1) (hv : ∀ k, v5.ownBlock = some k → w.heap.size ≤ k) : Kd.S kOut 52 w1 w0.heap.size (fun k => k ≠ bc ∧ ¬ some k = v5.ownBlock) v acc :=
 Kd.S_mono (Kd.S_below (Kd.S_bound h.row) hb) (fun k hk => ⟨hk.1, fun e => by have := hv k e.symm; have := hk.2.2.1; omega⟩)
/-- all old blocks but the variable's and its row's stand -/
structure Far (w w1 : World) (bc : Nat) (v v1 : Value) : Prop where
 size : w.heap.size ≤ w1.heap.size
 blk : ∀ q, q < w.heap.size → q ≠ bc → some q ≠ v.ownBlock → w1.heap[q]? = w.heap[q]?
 own : v1.ownBlock = v.ownBlock ∨ ∃ b, v1.ownBlock = some b ∧ w.heap.size ≤ b
theorem Far.of_below {w w1 : World} {bc : Nat} {v : Value} (h : Below w.heap.size w w1) : Far w w1 bc v v := ⟨h.size, fun q hq _ _ => h.block q hq, .inl rfl⟩
theorem Far.trans {w w1 w2 : World} {bc : Nat} {v v1 v2 : Value} (h : Far w w1 bc v v1) (g : Far w1 w2 bc v1 v2) : Far w w2 bc v v2 := by
 refine ⟨Nat.le_trans h.size g.size, fun q hq h1 h2 => (g.blk q (Nat.lt_of_lt_of_le hq h.size) h1 ?_).trans (h.blk q hq h1 h2), ?_⟩
 ·rcases h.own with e | ⟨b, e, hb⟩
  ·rw [e]; exact h2
  ·rw [e]; intro e2; injection e2 with e2; omega
 ·rcases g.own with e | ⟨b, e, hb⟩
  ·rw [e]; exact h.own
  ·exact .inr ⟨b, e, Nat.le_trans h.size hb⟩
theorem Far.push {w w1 : World} {bc : Nat} {v v1 : Value} (hg : w.grownBy w1 v.ownBlock) (hat : v1.ownBlock = v.ownBlock ∨ ∃ b, v1.ownBlock = some b ∧ w.heap.size ≤ b) : Far w (w1.setCell ⟨bc, 0, none⟩ v1) bc v v1 :=
 ⟨by rw [show (w1.setCell ⟨bc, 0, none⟩ v1).heap.size = w1.heap.size by simp [World.setCell]]; exact hg.size, fun q hq h1 h2 => (Below.heap_setCell w1 ⟨bc, 0, none⟩ v1 q h1).trans (hg.block q hq h2), hat⟩
/-- a row of spans of one's own stands where another row and the variable change -/
theorem row_far {w w1 : World} {bc b B : Nat} {v v1 va : Value} {l : List Sp} {acc : List (List Sp)} {ok : Nat → Prop} {cs : Array Value} (h : RowS w b va l) (hf : Far w w1 bc v v1) (hv : Kd.S kOut 52 w B ok v acc) (hc : w.heap[bc]? = some (.cells cs 66 (0, 0))) : RowS w1 b va l := by
 have h1 : ∀ k, va.ownBlock = some k → w1.heap[k]? = w.heap[k]? := fun k hk => by
  obtain ⟨cells, hcl⟩ := Kd.R_typed h k hk
  refine hf.blk k (blt hcl) ?_ ?_
  ·rintro rfl
   rw [hcl] at hc
   injection hc with hc
   injection hc with _ hc
   exact absurd hc (by decide)
  ·intro e
   obtain ⟨cells2, hcl2⟩ := Kd.S_typed hv k e.symm
   rw [hcl] at hcl2
   injection hcl2 with hcl2
   injection hcl2 with _ hcl2
   exact absurd hcl2 (by decide)
 exact Kd.R_mono (Kd.R_move (Kd.R_tight rfl h) (fun k hk => h1 k hk.symm)) (fun _ _ => trivial)
theorem St.grown {w0 w w1 : World} {bc : Nat} {v : Value} {acc : List (List Sp)} (h : St w0 w bc v acc) (hg : w.grownBy w1 v.ownBlock) : w1.cell? ⟨bc, 0, none⟩ = some v ∧ w1.frozen? ⟨bc, 0, none⟩ = false := by
 have hc := (hg.block bc (blt h.cell) (fun e => ((Kd.S_R h.row).1 bc e.symm) rfl)).trans h.cell
 exact ⟨by rw [cell_of_row w1 bc 0 _ _ (0, 0) hc]; rfl, blk_frozen hc 0⟩
/-- one sequence more in the variable -/
theorem St.push {w0 w w1 : World} {bc : Nat} {v v1 : Value} {acc : List (List Sp)} {x : List Sp} (h : St w0 w bc v acc)
  (ho : Kd.S kOut 52 w1 w0.heap.size (fun k => k ≠ bc) v1 (acc ++ [x])) (hg : w.grownBy w1 v.ownBlock) : St w0 (w1.setCell ⟨bc, 0, none⟩ v1) bc v1 (acc ++ [x]) := by
 have hne : some bc ≠ v.ownBlock := fun e => ((Kd.S_R h.row).1 bc e.symm) rfl
 have hc1 := (hg.block bc (blt h.cell) hne).trans h.cell
 refine ⟨⟨hg.os.trans h.base.os, hg.tape.trans h.base.tape, hg.output.trans h.base.output, ?_, fun k hk => ?_⟩, XLib.set_cell hc1 0 v1, Kd.S_far ho (fun _ hk => hk) v1, h.lo⟩
 ·rw [show (w1.setCell ⟨bc, 0, none⟩ v1).heap.size = w1.heap.size by simp [World.setCell]]
  exact Nat.le_trans h.base.size hg.size
 ·rw [Below.heap_setCell w1 ⟨bc, 0, none⟩ v1 k (by have := h.lo; show k ≠ bc; omega), hg.block k (Nat.lt_of_lt_of_le hk h.base.size) (fun e => by have := Kd.S_base h.row k e.symm; omega)]
  exact h.base.block k hk
end CU
namespace CU
open XCut
set_option maxHeartbeats 8000000 in
set_option maxRecDepth 100000 in
theorem cut_one (w0 w : World) (bc : Nat) (v va : Value) (ahead : List Sp) (acc : List (List Sp)) (head lo hi : Int) (hS : St w0 w bc v acc) (hA : RowS w w0.heap.size va ahead) (hl : ahead.length ≤ 10) (h0 : 0 ≤ head) (h1 : 0 ≤ lo) (h2 : lo ≤ hi) (h3 : head + hi ≤ 255) (hacc : acc.length < 1000000000) :
  Calls Tryd.prog 26 #[.pointer (some ⟨bc, 0, none⟩), va, .int .i32 head, .int .i32 lo, .int .i32 hi, .int .i64 1] w fun e w' => e = .returned (.tuple #[]) ∧ ∃ v', St w0 w' bc v' (acc ++ [ahead ++ [sp (head + lo) (head + hi)]]) ∧ Far w w' bc v v' := by
 obtain ⟨Aa, ca, rfl, hca, hC⟩ := Kd.R_reads hA
 have HS := Aside0.mk hS
 have HA := Aside0.mk hA
 have HCN := Aside0.mk hca
 clear hS hA hca hC
 go_enter Tryd.func26, Tryd.ntmps26
 go_wp2_with fail
 go_quiet (fail)
 go_wp2_with fail
 refine XLib.region_l (T := fun W => W.cell? ⟨bc, 0, none⟩ = some v) 17 (by kernel_rfl) ?_
 have hb2 : Below w.heap.size w (w.drewN nq).drew := below_drew1 (pw_below_drewN (Below.refl _ _) nq)
 have HS2 := Aside0.mk (HS.out.below hb2)
 have HA2 : Aside0 (RowS (w.drewN nq).drew w0.heap.size (.slice Aa ahead.length ca) ahead) := ⟨Kd.R_below HA.out hb2⟩
 have HF2 := Aside0.mk (Far.of_below (bc := bc) (v := v) hb2)
 clear hb2
 generalize (w.drewN nq).drew = w2 at HS2 HA2 HF2 ⊢
 have hT := HS2.out.cellv
 have hCl := slices_Clone_Span.calls Aa ca ahead ahead w2 (Kd.R_reads' HA2.out).2.2 HCN.out (by unfold slices_Clone_Span.f; rw [if_pos (by omega)])
 have hSp := fun (W : World) => seqs_span.calls head lo hi (head + lo) (head + hi) W (by unfold seqs_span.f wrap32; simp only [Option.some.injEq, Prod.mk.injEq]; constructor <;> omega)
 have HCl := Aside0.mk hCl
 have HSp := Aside0.mk hSp
 clear hCl hSp
 refine XLib.take_l (i := 0) (N := 29) (v := ?_) (l' := #[o,i,i,i,i,i,i,i,i,i,i,i,i,i,i,i,i,i]) (a' := ?_) rfl rfl (by kernel_rfl) (by kernel_rfl) (by kernel_rfl) (by kernel_rfl) (by rfl) (by rfl) (fun _ _ _ h => h) (by rfl) ?_ (by assumption) rfl ?_ ?_
 rotate_left 2
 ·intro W hSw
  (try dsimp only at hSw)
  go_simp
  (try with_reducible rfl)
 ·simp only [Act.put, List.setIfInBounds_toArray, List.set_cons_zero, List.set_cons_succ]
  rfl
 refine XLib.take_l (i := 1) (N := 30) (v := ?_) (l' := #[o,o,i,i,i,i,i,i,i,i,i,i,i,i,i,i,i,i]) (a' := ?_) rfl rfl (by kernel_rfl) (by kernel_rfl) (by kernel_rfl) (by kernel_rfl) (by rfl) (by rfl) (fun _ _ _ h => h) (by rfl) ?_ (by assumption) rfl ?_ ?_
 rotate_left 2
 ·intro W hSw
  (try dsimp only at hSw)
  go_simp
  (try with_reducible rfl)
 ·simp only [Act.put, List.setIfInBounds_toArray, List.set_cons_zero, List.set_cons_succ]
  rfl
 refine XLib.take_l (i := 2) (N := 31) (v := ?_) (l' := #[o,o,o,i,i,i,i,i,i,i,i,i,i,i,i,i,i,i]) (a' := ?_) rfl rfl (by kernel_rfl) (by kernel_rfl) (by kernel_rfl) (by kernel_rfl) (by rfl) (by rfl) (fun _ _ _ h => h) (by rfl) ?_ (by assumption) rfl ?_ ?_
 rotate_left 2
 ·intro W hSw
  (try dsimp only at hSw)
  go_simp
  (try with_reducible rfl)
 ·simp only [Act.put, List.setIfInBounds_toArray, List.set_cons_zero, List.set_cons_succ]
  rfl
 refine XLib.take_l (i := 3) (N := 32) (v := ?_) (l' := #[o,o,o,o,i,i,i,i,i,i,i,i,i,i,i,i,i,i]) (a' := ?_) rfl rfl (by kernel_rfl) (by kernel_rfl) (by kernel_rfl) (by kernel_rfl) (by rfl) (by rfl) (fun _ _ _ h => h) (by rfl) ?_ (by assumption) rfl ?_ ?_
 rotate_left 2
 ·intro W hSw
  (try dsimp only at hSw)
  go_simp
  (try with_reducible rfl)
 ·simp only [Act.put, List.setIfInBounds_toArray, List.set_cons_zero, List.set_cons_succ]
  rfl
 refine XLib.take_l (i := 4) (N := 33) (v := ?_) (l' := #[o,o,o,o,o,i,i,i,i,i,i,i,i,i,i,i,i,i]) (a' := ?_) rfl rfl (by kernel_rfl) (by kernel_rfl) (by kernel_rfl) (by kernel_rfl) (by rfl) (by rfl) (fun _ _ _ h => h) (by rfl) ?_ (by assumption) rfl ?_ ?_
 rotate_left 2
 ·intro W hSw
  (try dsimp only at hSw)
  go_simp
  (try with_reducible rfl)
 ·simp only [Act.put, List.setIfInBounds_toArray, List.set_cons_zero, List.set_cons_succ]
  rfl
 refine XLib.take_l (i := 5) (N := 34) (v := ?_) (l' := #[o,o,o,o,o,o,i,i,i,i,i,i,i,i,i,i,i,i]) (a' := ?_) rfl rfl (by kernel_rfl) (by kernel_rfl) (by kernel_rfl) (by kernel_rfl) (by rfl) (by rfl) (fun _ _ _ h => h) (by rfl) ?_ (by assumption) rfl ?_ ?_
 rotate_left 2
 ·intro W hSw
  (try dsimp only at hSw)
  go_simp
  (try with_reducible rfl)
 ·simp only [Act.put, List.setIfInBounds_toArray, List.set_cons_zero, List.set_cons_succ]
  rfl
 refine XLib.take_l (i := 7) (N := 36) (v := ?_) (l' := #[o,o,o,o,o,o,i,o,i,i,i,i,i,i,i,i,i,i]) (a' := ?_) rfl rfl (by kernel_rfl) (by kernel_rfl) (by kernel_rfl) (by kernel_rfl) (by rfl) (by rfl) (fun _ _ _ h => h) (by rfl) ?_ (by assumption) rfl ?_ ?_
 rotate_left 2
 ·intro W hSw
  (try dsimp only at hSw)
  go_simp
  (try with_reducible rfl)
 ·simp only [Act.put, List.setIfInBounds_toArray, List.set_cons_zero, List.set_cons_succ]
  rfl
 refine XLib.take_l (i := 8) (N := 37) (v := ?_) (l' := #[o,o,o,o,o,o,i,o,o,i,i,i,i,i,i,i,i,i]) (a' := ?_) rfl rfl (by kernel_rfl) (by kernel_rfl) (by kernel_rfl) (by kernel_rfl) (by rfl) (by rfl) (fun _ _ _ h => h) (by rfl) ?_ (by assumption) rfl ?_ ?_
 rotate_left 2
 ·intro W hSw
  (try dsimp only at hSw)
  go_simp
  (try with_reducible rfl)
 ·simp only [Act.put, List.setIfInBounds_toArray, List.set_cons_zero, List.set_cons_succ]
  rfl
 refine XLib.take_l (i := 9) (N := 38) (v := ?_) (l' := #[o,o,o,o,o,o,i,o,o,o,i,i,i,i,i,i,i,i]) (a' := ?_) rfl rfl (by kernel_rfl) (by kernel_rfl) (by kernel_rfl) (by kernel_rfl) (by rfl) (by rfl) (fun _ _ _ h => h) (by rfl) ?_ (by assumption) rfl ?_ ?_
 rotate_left 2
 ·intro W hSw
  (try dsimp only at hSw)
  go_simp
  (try with_reducible rfl)
 ·simp only [Act.put, List.setIfInBounds_toArray, List.set_cons_zero, List.set_cons_succ]
  rfl
 refine XLib.ready_l (i := 6) (l' := #[o,o,o,o,o,o,o,o,o,o,i,i,i,i,i,i,i,i]) (by kernel_rfl) rfl rfl (fun K hK => ?_)
 go_simp
 refine HCl.out.mono ?_
 rintro e w3 ⟨v3, rfl, hr3, hb3⟩
 have HR3 := Aside0.mk hr3
 have HB3 := Aside0.mk hb3
 have hT3 := (HS2.out.below hb3).cellv
 clear hr3 hb3 HCl
 go_simp
 refine hK.out _ _ (fun _ => hT3) ?_
 clear hK
 try simp only [Act.put, List.setIfInBounds_toArray, List.set_cons_zero, List.set_cons_succ]
 refine XLib.ready_l (i := 10) (l' := #[o,o,o,o,o,o,o,o,o,o,o,i,i,i,i,i,i,i]) (by kernel_rfl) rfl rfl (fun K hK => ?_)
 go_simp
 refine (HSp.out w3).mono ?_
 rintro e w4 ⟨rfl, hb4⟩
 have HR4 : Aside0 (RowS w4 w2.heap.size v3 ahead) := ⟨Kd.R_below HR3.out hb4⟩
 have HB4 := Aside0.mk (below_step HB3.out hb4)
 have hT4 := (HS2.out.below HB4.out).cellv
 clear hb4 HR3 HB3 HSp hT3
 go_simp
 refine hK.out _ _ (fun _ => hT4) ?_
 clear hK
 try simp only [Act.put, List.setIfInBounds_toArray, List.set_cons_zero, List.set_cons_succ]
 refine XLib.ready_l (i := 11) (l' := #[o,o,o,o,o,o,o,o,o,o,o,o,i,i,i,i,i,i]) (by kernel_rfl) rfl rfl (fun K hK => ?_)
 go_simp
 refine hK.out _ _ (fun _ => (HS2.out.below (below_alloc HB4.out _)).cellv) ?_
 clear hK
 try simp only [Act.put, List.setIfInBounds_toArray, List.set_cons_zero, List.set_cons_succ]
 refine XLib.ready_l (i := 12) (l' := #[o,o,o,o,o,o,o,o,o,o,o,o,o,i,i,i,i,i]) (by kernel_rfl) rfl rfl (fun K hK => ?_)
 refine Kd.R_append_step k54 (w0 := w2) (W := w4) w2.heap.size (by rfl) (.tmp 35) (.tmp 40) 52 54 (.agg #[.int .u8 0, .int .u8 0]) 2 rfl Tryd.underlying52 (by kernel_rfl) rfl (by decide) (by decide) v3 ahead (sp (head + lo) (head + hi)) [.int .u8 (head + lo), .int .u8 (head + hi)] (fun _ => True) (fun _ => False) rfl rfl (k54_mkM _ _ _ (sp (head + lo) (head + hi))) (fun _ h => h.elim) (fun _ _ => trivial) HR4.out HB4.out HB4.out.size (by omega) ?_
 intro v5 w5 hr5 hb5 _ _
 obtain ⟨A5, c5, rfl⟩ := Kd.R_slice hr5
 generalize (ahead ++ [sp (head + lo) (head + hi)]).length = n5 at hr5 ⊢
 have HR5 := Aside0.mk hr5
 have HB5 := Aside0.mk hb5
 have HS5 := Aside0.mk (HS2.out.below hb5)
 have HF5 := Aside0.mk (HF2.out.trans (Far.of_below hb5))
 have hT5 := HS5.out.cellv
 clear hr5 hb5 HR4 HB4 hT4
 go_simp
 refine hK.out _ _ (fun _ => hT5) ?_
 clear hK
 try simp only [Act.put, List.setIfInBounds_toArray, List.set_cons_zero, List.set_cons_succ]
 refine XLib.ready_l (i := 13) (l' := #[o,o,o,o,o,o,o,o,o,o,o,o,o,o,i,i,i,i]) (by kernel_rfl) rfl rfl (fun K hK => ?_)
 go_simp
 refine hK.out _ _ (fun _ => (HS5.out.below (below_alloc (Below.refl _ _) _)).cellv) ?_
 clear hK
 try simp only [Act.put, List.setIfInBounds_toArray, List.set_cons_zero, List.set_cons_succ]
 refine XLib.ready_l (i := 14) (l' := #[o,o,o,o,o,o,o,o,o,o,o,o,o,o,o,i,i,i]) (by kernel_rfl) rfl rfl (fun K hK => ?_)
 refine Kd.S_append_step kOut (w0 := w0) (W := w5) w0.heap.size (by rfl) (.tmp 33) (.tmp 42) 31 52 (.slice none 0 0) 24 rfl Tryd.underlying31 (by kernel_rfl) rfl (by decide) (by decide) v acc (ahead ++ [sp (head + lo) (head + hi)]) [.slice A5 n5 c5] (fun k => k ≠ bc) (fun k => some k = (Value.slice A5 n5 c5).ownBlock) rfl rfl ⟨_, rfl, Kd.R_lower (Kd.R_tight rfl HR5.out) HS2.out.base.size⟩ (fun k hk => HS2.out.fresh (Kd.R_base HR5.out k hk.symm)) (fun k hk => by have := blt HS5.out.cell; omega) (HS2.out.apart HB5.out (Kd.R_base HR5.out)) HS5.out.base HS5.out.base.size (by omega) ?_
 intro v6 w6 hr6 hb6 hg6 hat6
 obtain ⟨A6, c6, rfl⟩ := Kd.S_slice hr6
 generalize (acc ++ [ahead ++ [sp (head + lo) (head + hi)]]).length = n6 at hr6 hat6 ⊢
 have hne : some bc ≠ v.ownBlock := fun e => ((Kd.S_R HS5.out.row).1 bc e.symm) rfl
 have hc6 := (hg6.block bc (blt HS5.out.cell) hne).trans HS5.out.cell
 have hT6 : w6.cell? ⟨bc, 0, none⟩ = some v := by rw [cell_of_row w6 bc 0 _ _ (0, 0) hc6]; rfl
 have hz6 : w6.frozen? ⟨bc, 0, none⟩ = false := blk_frozen hc6 0
 have HR6 := Aside0.mk hr6
 have HG6 := Aside0.mk hg6
 have HAT6 := Aside0.mk hat6
 clear hr6 hb6 hg6 hat6 hne hc6 hT5
 go_simp
 refine hK.out _ _ (fun _ => hT6) ?_
 clear hK
 try simp only [Act.put, List.setIfInBounds_toArray, List.set_cons_zero, List.set_cons_succ]
 refine XLib.ready_l (i := 15) (l' := #[o,o,o,o,o,o,o,o,o,o,o,o,o,o,o,o,i,i]) (by kernel_rfl) rfl rfl (fun K hK => ?_)
 go_simp
 refine hK.out _ _ (fun _ => hT6) ?_
 clear hK
 try simp only [Act.put, List.setIfInBounds_toArray, List.set_cons_zero, List.set_cons_succ]
 refine XLib.ready_l (i := 16) (l' := #[o,o,o,o,o,o,o,o,o,o,o,o,o,o,o,o,o,i]) (by kernel_rfl) rfl rfl (fun K hK => ?_)
 go_simp
 refine hK.out _ _ (fun _ => hT6) ?_
 clear hK
 try simp only [Act.put, List.setIfInBounds_toArray, List.set_cons_zero, List.set_cons_succ]
 refine XLib.ready_l (i := 17) (l' := #[o,o,o,o,o,o,o,o,o,o,o,o,o,o,o,o,o,o]) (by kernel_rfl) rfl rfl (fun K hK => ?_)
 go_simp
 refine hK.out _ _ (fun h => by cases h) ?_
 clear hK
 try simp only [Act.put, List.setIfInBounds_toArray, List.set_cons_zero, List.set_cons_succ]
 refine XLib.done_l (by kernel_rfl) ?_ _
 go_wp2_with fail
 (try simp only [Exit.inBlock, Exit.then])
 refine bodyPost_ret (results_none rfl _ _ _) rfl ?_
 exact ⟨rfl, _, HS5.out.push HR6.out HG6.out, HF5.out.trans (Far.push HG6.out HAT6.out)⟩
end CU
namespace CU
open XCut
set_option maxHeartbeats 8000000 in
set_option maxRecDepth 100000 in
theorem same_walk (m N N1 : Int) (hm : 0 < m) (hN : ¬ N = 1) (hN1 : wrap64 (N - 1) = N1) (hsh : ∀ W : World, Sem.run Tryd.prog (Op.shift .shl .i32 1 .i64 (wrap64 (6 * N1))) W = .ok (.int .i32 m) W) (w0 w : World) (bc : Nat) (v va : Value) (ahead : List Sp) (acc res : List (List Sp)) (head lo hi a : Int) (hS : St w0 w bc v acc) (hA : RowS w w0.heap.size va ahead) (hl : ahead.length ≤ 10) (h0 : 0 ≤ head) (ha : wrap32 (lo.tdiv m) = a) (hz : wrap32 (hi.tdiv m) = a) (h3 : 0 ≤ a) (h4 : head + a ≤ 255) (hw1 : wrap32 (a * m) = a * m) (hw2 : wrap32 (lo - a * m) = lo - a * m) (hw3 : wrap32 (hi - a * m) = hi - a * m)
  (IH : ∀ w5 v5, St w0 w5 bc v acc → RowS w5 w0.heap.size v5 (ahead ++ [sp (head + a) (head + a)]) → Calls Tryd.prog 26 #[.pointer (some ⟨bc, 0, none⟩), v5, .int .i32 128, .int .i32 (lo - a * m), .int .i32 (hi - a * m), .int .i64 N1] w5 fun e w' => e = .returned (.tuple #[]) ∧ ∃ v', St w0 w' bc v' res ∧ Far w5 w' bc v v') :
  Calls Tryd.prog 26 #[.pointer (some ⟨bc, 0, none⟩), va, .int .i32 head, .int .i32 lo, .int .i32 hi, .int .i64 N] w fun e w' => e = .returned (.tuple #[]) ∧ ∃ v', St w0 w' bc v' res ∧ Far w w' bc v v' := by
 obtain ⟨Aa, ca, rfl, hca, hC⟩ := Kd.R_reads hA
 have HS := Aside0.mk hS
 have HA := Aside0.mk hA
 have HCN := Aside0.mk hca
 have HIH := Aside0.mk IH
 have hm0 : ¬ m = 0 := by omega
 clear hS hA hca hC IH
 go_enter Tryd.func26, Tryd.ntmps26
 go_wp2_with fail
 go_quiet (fail)
 try rw [ha, hz]
 have hb2 : Below w.heap.size w (w.drewN nq) := pw_below_drewN (Below.refl _ _) nq
 have HS2 := Aside0.mk (HS.out.below hb2)
 have HA2 : Aside0 (RowS (w.drewN nq) w0.heap.size (.slice Aa ahead.length ca) ahead) := ⟨Kd.R_below HA.out hb2⟩
 have HF2 := Aside0.mk (Far.of_below (bc := bc) (v := v) hb2)
 clear hb2 hsh
 generalize w.drewN nq = w2 at HS2 HA2 HF2 ⊢
 have HCl := Aside0.mk (slices_Clone_Span.calls Aa ca ahead ahead w2 (Kd.R_reads' HA2.out).2.2 HCN.out (by unfold slices_Clone_Span.f; rw [if_pos (by omega)]))
 have HSp := Aside0.mk (fun (W : World) => seqs_span.calls head a a (head + a) (head + a) W (by unfold seqs_span.f wrap32; simp only [Option.some.injEq, Prod.mk.injEq]; constructor <;> omega))
 go_wp2_with fail
 refine HCl.out.mono ?_
 rintro e w3 ⟨v3, rfl, hr3, hb3⟩
 have HR3 := Aside0.mk hr3
 have HB3 := Aside0.mk hb3
 clear hr3 hb3 HCl
 go_wp2_with fail
 refine (HSp.out w3).mono ?_
 rintro e w4 ⟨rfl, hb4⟩
 have HR4 : Aside0 (RowS w4 w2.heap.size v3 ahead) := ⟨Kd.R_below HR3.out hb4⟩
 have HB4 := Aside0.mk (below_step HB3.out hb4)
 clear hb4 HR3 HB3 HSp
 go_wp2_with ((with_reducible refine gate_builtin (b := .append) (xs := #[.tmp 51, .tmp 56]) rfl ?_); at_builtin; refine Kd.R_append k54 (w0 := w2) (W := w4) w2.heap.size rfl (.tmp 51) (.tmp 56) 52 54 (.agg #[.int .u8 0, .int .u8 0]) 2 rfl Tryd.underlying52 (by kernel_rfl) rfl (by decide) (by decide) v3 ahead (sp (head + a) (head + a)) [.int .u8 (head + a), .int .u8 (head + a)] (fun _ => True) (fun _ => False) rfl rfl (k54_mkM _ _ _ (sp (head + a) (head + a))) (fun _ h => h.elim) (fun _ _ => trivial) HR4.out HB4.out HB4.out.size (by omega) ?_; intro v5 w5 hr5 hb5 hg5 hat5; clear hg5 hat5; have HR5 := Aside0.mk (Kd.R_lower hr5 HS2.out.base.size); have HS5 := Aside0.mk (HS2.out.below hb5); have HF5 := Aside0.mk (HF2.out.trans (Far.of_below (bc := bc) (v := v) hb5)); clear hr5 hb5)
 refine (HIH.out w5 v5 HS5.out HR5.out).mono ?_
 rintro e w6 ⟨rfl, v6, hs6, hf6⟩
 have HS6 := Aside0.mk hs6
 have HF6 := Aside0.mk (HF5.out.trans hf6)
 clear hs6 hf6
 go_wp2_with fail
 (try simp only [Exit.inBlock, Exit.then])
 refine bodyPost_ret (results_none rfl _ _ _) rfl ?_
 exact ⟨rfl, v6, HS6.out, HF6.out⟩
end CU
namespace CU
open XCut
theorem lim1 {n : Nat} (h : n ≤ 10) : n < 17592186044416 := by omega
theorem lim2 {n : Nat} (h : n ≤ 10) : (n + 1) * 2 ≤ 140737488355328 := by omega
theorem lim3 {n : Nat} (h : n < 1000000000) : (n + 1) * 24 ≤ 140737488355328 := by omega
theorem lim4 {i k : Nat} {x y : Sp} {l : List Sp} (h : l.length ≤ 10) (h1 : i < k) (h2 : k ≤ 3) : ((l ++ x :: List.replicate i y).length + 1) * 2 ≤ 140737488355328 := by
 rw [List.length_append, List.length_cons, List.length_replicate]
 omega
theorem eq_of_not_lt {i k : Nat} (h : i ≤ k) (h1 : ¬ i < k) : i = k := by omega
theorem wrap_succ {i : Nat} (h : i < 3) : wrap64 ((i : Int) + 1) = ((i + 1 : Nat) : Int) := by unfold wrap64; omega
theorem meas_dec {i k : Nat} (h : i < k) : k - ((i + 1 : Nat) : Int).toNat < k - ((i : Nat) : Int).toNat := by omega
theorem rep_snoc (l : List Sp) (x y : Sp) (i : Nat) : (l ++ x :: List.replicate i y) ++ [y] = l ++ x :: List.replicate (i + 1) y := by rw [List.append_assoc, List.cons_append, List.replicate_succ']
theorem bne_of_eq {x y : Int} (h : x = y) : (x != y) = false := by subst h; simp
theorem ne_pred {y z : Int} (h : y = z - 1) : ¬ y = z := by omega
theorem span_ok (head a y : Int) (h0 : 0 ≤ head) (h1 : 0 ≤ a) (h2 : a ≤ y) (h3 : head + y ≤ 255) : seqs_span.f head a y = some (head + a, head + y) := by
 unfold seqs_span.f wrap32
 simp only [Option.some.injEq, Prod.mk.injEq]
 constructor <;> omega
set_option maxHeartbeats 16000000 in
set_option maxRecDepth 100000 in
theorem parts_walk (m N : Int) (k : Nat) (hk : k ≤ 3) (hm : 0 < m) (hN : ¬ N = 1) (hN1 : wrap64 (N - 1) = (k : Int)) (hsh : ∀ W : World, Sem.run Tryd.prog (Op.shift .shl .i32 1 .i64 (wrap64 (6 * (k : Int)))) W = .ok (.int .i32 m) W) (w0 w : World) (bc : Nat) (v va : Value) (ahead : List Sp) (acc acc1 acc2 res : List (List Sp)) (head lo hi a z a1 y : Int) (hS : St w0 w bc v acc) (hA : RowS w w0.heap.size va ahead) (hl : ahead.length ≤ 10) (h0 : 0 ≤ head) (ha : wrap32 (lo.tdiv m) = a) (hz : wrap32 (hi.tdiv m) = z) (haz : ¬ a = z) (hzz : ¬ z - 1 = z) (h3 : 0 ≤ a1) (h4 : head + y ≤ 255) (hacc : acc1.length < 1000000000)
    (hw1 : wrap32 (a * m) = a * m) (hw2 : wrap32 (a * m + m) = a * m + m) (hw3 : wrap32 (a * m + m - 1) = a * m + m - 1) (hw4 : wrap32 (z * m) = z * m) (hw5 : wrap32 (z * m + m) = z * m + m) (hw6 : wrap32 (z * m + m - 1) = z * m + m - 1) (hw7 : wrap32 (a + 1) = a + 1) (hw8 : wrap32 (z - 1) = z - 1)
    (hp1 : (lo = a * m ∧ a1 = a ∧ acc1 = acc) ∨ (¬ lo = a * m ∧ a1 = a + 1 ∧ ∀ w5, St w0 w5 bc v acc → RowS w5 w0.heap.size va ahead → Calls Tryd.prog 26 #[.pointer (some ⟨bc, 0, none⟩), va, .int .i32 head, .int .i32 lo, .int .i32 (a * m + m - 1), .int .i64 N] w5 fun e w' => e = .returned (.tuple #[]) ∧ ∃ v', St w0 w' bc v' acc1 ∧ Far w5 w' bc v v'))
    (hp3 : (¬ a1 ≤ y ∧ acc2 = acc1) ∨ (a1 ≤ y ∧ acc2 = acc1 ++ [ahead ++ sp (head + a1) (head + y) :: List.replicate k (sp 128 191)]))
    (hp2 : (hi = z * m + m - 1 ∧ y = z ∧ res = acc2) ∨ (¬ hi = z * m + m - 1 ∧ y = z - 1 ∧ ∀ w5 v5, St w0 w5 bc v5 acc2 → RowS w5 w0.heap.size va ahead → Calls Tryd.prog 26 #[.pointer (some ⟨bc, 0, none⟩), va, .int .i32 head, .int .i32 (z * m), .int .i32 hi, .int .i64 N] w5 fun e w' => e = .returned (.tuple #[]) ∧ ∃ v', St w0 w' bc v' res ∧ Far w5 w' bc v5 v')) :
    Calls Tryd.prog 26 #[.pointer (some ⟨bc, 0, none⟩), va, .int .i32 head, .int .i32 lo, .int .i32 hi, .int .i64 N] w fun e w' => e = .returned (.tuple #[]) ∧ ∃ v', St w0 w' bc v' res ∧ Far w w' bc v v' := by
  obtain ⟨Aa, ca, rfl, hca, hC⟩ := Kd.R_reads hA
  have HS := Aside0.mk hS
  have HA := Aside0.mk hA
  have HCN := Aside0.mk hca
  have hm0 : ¬ m = 0 := by omega
  have HAC := Aside0.mk hacc
  have HHL := Aside0.mk hl
  have HH0 := Aside0.mk h0
  have HH3 := Aside0.mk h3
  have HH4 := Aside0.mk h4
  have HK := Aside0.mk hk
  clear hS hA hca hC hacc hl h0 h3 h4 hm hk
  obtain ⟨p1, ea, IH1⟩ | ⟨p1, ea, IH1⟩ := hp1 <;> obtain ⟨p3, e3⟩ | ⟨p3, e3⟩ := hp3 <;> obtain ⟨p2, ey, IH2⟩ | ⟨p2, ey, IH2⟩ := hp2
  all_goals try have p1f : (lo != a * m) = false := bne_of_eq p1
  all_goals try have p2f : (hi != z * m + m - 1) = false := bne_of_eq p2
  all_goals first | (have p1g := Aside0.mk p1f; clear p1g; clear p1) | skip
  all_goals first | (have p2g := Aside0.mk p2f; clear p2g; clear p2) | skip
  all_goals have p3s := p3
  all_goals rw [ea, ey] at p3s
  all_goals have HP3 := Aside0.mk p3
  all_goals have HEA := Aside0.mk ea
  all_goals have HEY := Aside0.mk ey
  all_goals clear ea ey
  all_goals have HI1 := Aside0.mk IH1
  all_goals have HI2 := Aside0.mk IH2
  all_goals have HE3 := Aside0.mk e3
  all_goals clear IH1 IH2 e3
  all_goals go_enter Tryd.func26, Tryd.ntmps26
  all_goals go_wp2_with fail
  all_goals go_quiet (fail)
  all_goals try rw [ha, hz]
  all_goals have hb2 : Below w.heap.size w (w.drewN nq) := pw_below_drewN (Below.refl _ _) nq
  all_goals have HS2 := Aside0.mk (HS.out.below hb2)
  all_goals have HA2 : Aside0 (RowS (w.drewN nq) w0.heap.size (.slice Aa ahead.length ca) ahead) := ⟨Kd.R_below HA.out hb2⟩
  all_goals have HF2 := Aside0.mk (Far.of_below (bc := bc) (v := v) hb2)
  all_goals clear hb2 hsh
  all_goals generalize w.drewN nq = w2 at HS2 HA2 HF2 ⊢
  all_goals go_wp2_with fail
  -- the first part
  all_goals first
    | (refine (HI1.out w2 HS2.out HA2.out).mono ?_
       rintro e w3 ⟨rfl, v3, hs3, hf3⟩
       have HA3 : Aside0 (RowS w3 w0.heap.size (.slice Aa ahead.length ca) ahead) := ⟨row_far HA2.out hf3 HS2.out.row HS2.out.cell⟩
       have HS3 := Aside0.mk hs3
       have HF3 := Aside0.mk (HF2.out.trans hf3)
       clear hs3 hf3 HI1 HS2 HA2 HF2
       go_wp2_with fail)
    | (obtain ⟨w3, hw3_⟩ : ∃ w3, w3 = w2 := ⟨_, rfl⟩
       obtain ⟨v3, hv3_⟩ : ∃ v3, v3 = v := ⟨_, rfl⟩
       have HA3 : Aside0 (RowS w3 w0.heap.size (.slice Aa ahead.length ca) ahead) := ⟨by rw [hw3_]; exact HA2.out⟩
       have HS3 : Aside0 (St w0 w3 bc v3 acc1) := ⟨by rw [hw3_, hv3_, HI1.out]; exact HS2.out⟩
       have HF3 : Aside0 (Far w w3 bc v v3) := ⟨by rw [hw3_, hv3_]; exact HF2.out⟩
       rw [← hw3_]
       clear hw3_ hv3_ HI1 HS2 HA2 HF2)
  -- the middle part
  all_goals have ea := HEA.out
  all_goals have ey := HEY.out
  all_goals try simp only [hw7, hw8]
  all_goals try simp only [← ea, ← ey]
  all_goals try have hyz : ¬ y = z := ne_pred ey
  all_goals clear ea ey
  all_goals first
    | (have HCl := Aside0.mk (slices_Clone_Span.calls Aa ca ahead ahead w3 (Kd.R_reads' HA3.out).2.2 HCN.out (by unfold slices_Clone_Span.f; rw [if_pos (lim1 HHL.out)]))
       refine HCl.out.mono ?_
       rintro e w4 ⟨v4, rfl, hr4, hb4⟩
       have HR4 := Aside0.mk hr4
       have HB4 := Aside0.mk hb4
       clear hr4 hb4 HCl
       go_wp2_with fail
       refine (seqs_span.calls head a1 y (head + a1) (head + y) w4 (span_ok head a1 y HH0.out HH3.out HP3.out HH4.out)).mono ?_
       rintro e w5 ⟨rfl, hb5⟩
       have HR5 : Aside0 (RowS w5 w3.heap.size v4 ahead) := ⟨Kd.R_below HR4.out hb5⟩
       have HB5 := Aside0.mk (below_step HB4.out hb5)
       clear hb5 HR4 HB4
       go_wp2_with ((with_reducible refine gate_builtin (b := .append) (xs := #[.tmp 105, .tmp 110]) rfl ?_); at_builtin; refine Kd.R_append k54 (w0 := w3) (W := w5) w3.heap.size rfl (.tmp 105) (.tmp 110) 52 54 (.agg #[.int .u8 0, .int .u8 0]) 2 rfl Tryd.underlying52 (by kernel_rfl) rfl (by decide) (by decide) v4 ahead (sp (head + a1) (head + y)) [.int .u8 (head + a1), .int .u8 (head + y)] (fun _ => True) (fun _ => False) rfl rfl (k54_mkM _ _ _ (sp (head + a1) (head + y))) (fun _ h => h.elim) (fun _ _ => trivial) HR5.out HB5.out HB5.out.size (lim2 HHL.out) ?_; intro v6 w6 hr6 hb6 hg6 hat6; clear hg6 hat6; have HR6 := Aside0.mk hr6; have HB6 := Aside0.mk hb6; clear hr6 hb6 HR5 HB5)
       try simp only [hN1]
       go_loopw [16, 114] (fun v16 v114 wr => ∃ (i : Nat), i ≤ k ∧ v114 = .int .i64 (i : Int) ∧ Aside0 (Below w3.heap.size w3 wr) ∧ Aside0 (RowS wr w3.heap.size v16 (ahead ++ sp (head + a1) (head + y) :: List.replicate i (sp 128 191)))) (fun _ v114 _ => k - (intOf v114).toNat)
       case atStart => exact ⟨0, Nat.zero_le _, rfl, HB6, HR6⟩
       case round =>
         clear HB6 HR6
         obtain ⟨i, hi, rfl, HB, HR⟩ := hrel
         obtain ⟨A16, c16, hs16⟩ := Kd.R_slice HR.out
         subst hs16
         by_cases hlt : i < k
         · have hlt2 : (i : Int) < (k : Int) := Int.ofNat_lt.2 hlt
           have HLT := Aside0.mk hlt
           have HL16 := Aside0.mk (lim4 (x := sp (head + a1) (head + y)) (y := sp 128 191) HHL.out HLT.out HK.out)
           clear hi hlt
           generalize (ahead ++ sp (head + a1) (head + y) :: List.replicate i (sp 128 191)).length = n16 at HR ⊢
           go_wp2_with ((with_reducible refine gate_builtin (b := .append) (xs := #[.tmp 116, .tmp 118]) rfl ?_); at_builtin; refine Kd.R_append k54 (w0 := w3) (W := wr) w3.heap.size rfl (.tmp 116) (.tmp 118) 52 54 (.agg #[.int .u8 0, .int .u8 0]) 2 rfl Tryd.underlying52 (by kernel_rfl) rfl (by decide) (by decide) (.slice A16 n16 c16) (ahead ++ sp (head + a1) (head + y) :: List.replicate i (sp 128 191)) (sp 128 191) [.int .u8 128, .int .u8 191] (fun _ => True) (fun _ => False) rfl rfl (k54_mkM _ _ _ (sp 128 191)) (fun _ h => h.elim) (fun _ _ => trivial) HR.out HB.out HB.out.size HL16.out ?_; intro v7 w7 hr7 hb7 hg7 hat7; clear hg7 hat7; have HR7 := Aside0.mk hr7; have HB7 := Aside0.mk hb7; clear hr7 hb7)
           go_roundw
           case measure =>
             show k - (intOf (.int .i64 (wrap64 ((i : Int) + 1)))).toNat < k - (intOf (.int .i64 (i : Int))).toNat
             rw [wrap_succ (Nat.lt_of_lt_of_le HLT.out HK.out)]
             exact meas_dec HLT.out
           case rel =>
             rw [wrap_succ (Nat.lt_of_lt_of_le HLT.out HK.out)]
             exact ⟨i + 1, HLT.out, rfl, HB7, Aside0.mk (by have := HR7.out; rwa [rep_snoc] at this)⟩
         · obtain rfl : i = k := eq_of_not_lt hi hlt
           have hlt2 : ¬ ((i : Int) < (i : Int)) := Int.lt_irrefl _
           clear hi hlt
           have HS7 := Aside0.mk (HS3.out.below HB.out)
           have HF7 := Aside0.mk (HF3.out.trans (Far.of_below (bc := bc) (v := v3) HB.out))
           have HA7 : Aside0 (RowS wr w0.heap.size (.slice Aa ahead.length ca) ahead) := ⟨Kd.R_below HA3.out HB.out⟩
           have hcell := HS7.out.cellv
           generalize (ahead ++ sp (head + a1) (head + y) :: List.replicate i (sp 128 191)).length = n16 at HR ⊢
           have hM : kOut.M wr w0.heap.size (fun q => some q = (Value.slice A16 n16 c16).ownBlock) (ahead ++ sp (head + a1) (head + y) :: List.replicate i (sp 128 191)) [.slice A16 n16 c16] := ⟨_, rfl, Kd.R_lower (Kd.R_tight rfl HR.out) HS3.out.base.size⟩
           have hO : ∀ q, some q = (Value.slice A16 n16 c16).ownBlock → q ≠ bc ∧ some q ≠ v3.ownBlock := fun q hq => HS3.out.fresh (Kd.R_base HR.out q hq.symm)
           have HM := Aside0.mk hM
           have HO := Aside0.mk hO
           clear hM hO
           go_wp2_with ((with_reducible refine gate_builtin (b := .append) (xs := #[.tmp 125, .tmp 127]) rfl ?_); at_builtin; refine Kd.S_append kOut (w0 := w0) (W := wr) w0.heap.size rfl (.tmp 125) (.tmp 127) 31 52 (.slice none 0 0) 24 rfl Tryd.underlying31 (by kernel_rfl) rfl (by decide) (by decide) v3 acc1 (ahead ++ sp (head + a1) (head + y) :: List.replicate i (sp 128 191)) [.slice A16 n16 c16] (fun q => q ≠ bc) (fun q => some q = (Value.slice A16 n16 c16).ownBlock) rfl rfl HM.out HO.out (fun q hq => (HS7.out.fresh hq).1) (HS3.out.apart HB.out (Kd.R_base HR.out)) HS7.out.base HS7.out.base.size (lim3 HAC.out) ?_; intro v8 w8 hr8 hb8 hg8 hat8; obtain ⟨A8, c8, hs8⟩ := Kd.S_slice hr8; subst hs8; obtain ⟨hcell8, hz8⟩ := HS7.out.grown hg8; generalize (acc1 ++ [ahead ++ sp (head + a1) (head + y) :: List.replicate i (sp 128 191)]).length = n8 at hr8 hat8 ⊢; have HR8 := Aside0.mk hr8; have HG8 := Aside0.mk hg8; have HAT8 := Aside0.mk hat8; clear hr8 hb8 hg8 hat8)
           have hs9 := HS7.out.push HR8.out HG8.out
           rw [← HE3.out] at hs9
           have hf9 := Far.push (bc := bc) HG8.out HAT8.out
           have ha9 := row_far HA7.out hf9 HS7.out.row HS7.out.cell
           have HS9 := Aside0.mk hs9
           have HA9 : Aside0 (RowS _ w0.heap.size (.slice Aa ahead.length ca) ahead) := ⟨ha9⟩
           have HF9 := Aside0.mk (HF7.out.trans hf9)
           clear hs9 ha9 hf9 HR8 HG8 HAT8 HS7 HF7 HA7 hcell hcell8 hz8
           generalize w8.setCell ⟨bc, 0, none⟩ (.slice A8 n8 c8) = w9 at HS9 HA9 HF9 ⊢
           generalize Value.slice A8 n8 c8 = v9 at HS9 HF9
           first
           | (refine (HI2.out w9 v9 HS9.out HA9.out).mono ?_
              rintro e w10 ⟨rfl, v10, hs10, hf10⟩
              have HS10 := Aside0.mk hs10
              have HF10 := Aside0.mk (HF9.out.trans hf10)
              clear hs10 hf10 HI2 HS9 HA9 HF9
              go_wp2_with fail
              go_end0
              exact ⟨rfl, v10, HS10.out, HF10.out⟩)
           | (go_end0
              exact ⟨rfl, v9, by rw [HI2.out]; exact HS9.out, HF9.out⟩))
    | (have hE3 := HE3.out
       obtain ⟨w9, hw9_⟩ : ∃ w9, w9 = w3 := ⟨_, rfl⟩
       obtain ⟨v9, hv9_⟩ : ∃ v9, v9 = v3 := ⟨_, rfl⟩
       have HS9 : Aside0 (St w0 w9 bc v9 acc2) := ⟨by rw [hw9_, hv9_, hE3]; exact HS3.out⟩
       have HA9 : Aside0 (RowS w9 w0.heap.size (.slice Aa ahead.length ca) ahead) := ⟨by rw [hw9_]; exact HA3.out⟩
       have HF9 : Aside0 (Far w w9 bc v v9) := ⟨by rw [hw9_, hv9_]; exact HF3.out⟩
       rw [← hw9_]
       clear hw9_ hv9_ hE3
       first
       | (refine (HI2.out w9 v9 HS9.out HA9.out).mono ?_
          rintro e w10 ⟨rfl, v10, hs10, hf10⟩
          have HS10 := Aside0.mk hs10
          have HF10 := Aside0.mk (HF9.out.trans hf10)
          clear hs10 hf10 HI2 HS9 HA9 HF9
          go_wp2_with fail
          go_end0
          exact ⟨rfl, v10, HS10.out, HF10.out⟩)
       | (go_end0
          exact ⟨rfl, v9, by rw [HI2.out]; exact HS9.out, HF9.out⟩))
end CU
namespace CU
open XCut
theorem shl_run : ∀ k : Nat, 1 ≤ k → k ≤ 3 → ∀ W : World, Sem.run Tryd.prog (Op.shift .shl .i32 1 .i64 (wrap64 (6 * (k : Int)))) W = .ok (.int .i32 (pw k)) W
 | 1, _, _, _ => by kernel_rfl
 | 2, _, _, _ => by kernel_rfl
 | 3, _, _, _ => by kernel_rfl
 | 0, h, _, _ => absurd h (by decide)
 | _ + 4, _, h, _ => absurd h (by omega)
theorem pw_le : ∀ k : Nat, k ≤ 3 → pw k ≤ 262144
 | 0, _ => by decide
 | 1, _ => by decide
 | 2, _ => by decide
 | 3, _ => by decide
 | _ + 4, h => absurd h (by omega)
theorem w32_id {x : Int} (h0 : -2147483648 ≤ x) (h1 : x ≤ 2147483647) : wrap32 x = x := by unfold wrap32; omega
theorem tdiv_ok {x m : Int} (h0 : 0 ≤ x) (h1 : x ≤ 16777215) (hm : 0 < m) : wrap32 (x.tdiv m) = x / m ∧ 0 ≤ x / m ∧ x / m ≤ 16777215 := by
 have h2 := Int.ediv_nonneg h0 (Int.le_of_lt hm)
 have h3 := Int.ediv_le_self m h0
 rw [Int.tdiv_eq_ediv_of_nonneg h0]
 exact ⟨w32_id (by omega) (by omega), h2, by omega⟩
def CutOk (n : Nat) : Prop := ∀ (w0 w : World) (bc : Nat) (v va : Value) (ahead : List Sp) (acc : List (List Sp)) (head lo hi : Int), St w0 w bc v acc → RowS w w0.heap.size va ahead → ahead.length + n ≤ 10 → 0 ≤ head → 0 ≤ lo → lo ≤ hi → hi ≤ 16777215 → head + hi / pw n ≤ 255 → acc.length + (cutR n ahead head lo hi).length < 1000000000 →
 Calls Tryd.prog 26 #[.pointer (some ⟨bc, 0, none⟩), va, .int .i32 head, .int .i32 lo, .int .i32 hi, .int .i64 ((n + 1 : Nat) : Int)] w fun e w' => e = .returned (.tuple #[]) ∧ ∃ v', St w0 w' bc v' (acc ++ cutR n ahead head lo hi) ∧ Far w w' bc v v'
theorem same_ok (n : Nat) (hn : n ≤ 2) (ih : CutOk n) (w0 w : World) (bc : Nat) (v va : Value) (ahead : List Sp) (acc : List (List Sp)) (head lo hi : Int) (hS : St w0 w bc v acc) (hA : RowS w w0.heap.size va ahead) (hl : ahead.length + (n + 1) ≤ 10) (h0 : 0 ≤ head) (h1 : 0 ≤ lo) (h2 : lo ≤ hi) (h3 : hi ≤ 16777215) (h4 : head + hi / pw (n + 1) ≤ 255) (h5 : acc.length + (cutR (n + 1) ahead head lo hi).length < 1000000000) (e : lo / pw (n + 1) = hi / pw (n + 1)) :
  Calls Tryd.prog 26 #[.pointer (some ⟨bc, 0, none⟩), va, .int .i32 head, .int .i32 lo, .int .i32 hi, .int .i64 ((n + 1 + 1 : Nat) : Int)] w fun e w' => e = .returned (.tuple #[]) ∧ ∃ v', St w0 w' bc v' (acc ++ cutR (n + 1) ahead head lo hi) ∧ Far w w' bc v v' := by
 rw [cut_same n ahead head lo hi h2 e] at h5 ⊢
 have hm := pw_pos (n + 1)
 have hm2 := pw_le (n + 1) (by omega)
 obtain ⟨t1, t2, t3⟩ := tdiv_ok (x := lo) h1 (by omega) hm
 obtain ⟨t4, t5, t6⟩ := tdiv_ok (x := hi) (by omega) h3 hm
 obtain ⟨e1, e2, e3⟩ := dm lo (pw (n + 1)) hm
 obtain ⟨f1, f2, f3⟩ := dm hi (pw (n + 1)) hm
 rw [← e] at t4 f1 h4
 have hq : (hi - lo / pw (n + 1) * pw (n + 1)) / pw n < 64 := by
  have hp := pw_pos n
  refine Int.ediv_lt_of_lt_mul hp ?_
  rw [show 64 * pw n = pw (n + 1) from rfl]
  omega
 refine same_walk (pw (n + 1)) _ ((n + 1 : Nat) : Int) hm (by omega) (by unfold wrap64; omega) (shl_run (n + 1) (by omega) (by omega)) w0 w bc v va ahead acc _ head lo hi (lo / pw (n + 1)) hS hA (by omega) h0 t1 t4 t2 h4 (w32_id (by omega) (by omega)) (w32_id (by omega) (by omega)) (w32_id (by omega) (by omega)) ?_
 intro w5 v5 hs hr
 exact ih w0 w5 bc v v5 _ acc 128 _ _ hs hr (by rw [List.length_append, List.length_singleton]; omega) (by omega) (by omega) (by omega) (by omega) (by omega) h5
theorem cut_ok : ∀ n : Nat, n ≤ 3 → CutOk n
 | 0, _ => by
  intro w0 w bc v va ahead acc head lo hi hS hA hl h0 h1 h2 h3 h4 h5
  rw [show pw 0 = 1 from rfl, Int.ediv_one] at h4
  exact cut_one w0 w bc v va ahead acc head lo hi hS hA (by omega) h0 h1 h2 h4 (by omega)
 | n + 1, hn => by
  have ih := cut_ok n (by omega)
  intro w0 w bc v va ahead acc head lo hi hS hA hl h0 h1 h2 h3 h4 h5
  by_cases e : lo / pw (n + 1) = hi / pw (n + 1)
  ·exact same_ok n (by omega) ih w0 w bc v va ahead acc head lo hi hS hA hl h0 h1 h2 h3 h4 h5 e
  have hso := same_ok n (by omega) ih
  have hcp := cut_parts n ahead head lo hi h2 e
  have hm := pw_pos (n + 1)
  have hm2 := pw_le (n + 1) (by omega)
  obtain ⟨t1, t2, t3⟩ := tdiv_ok (x := lo) h1 (by omega) hm
  obtain ⟨t4, t5, t6⟩ := tdiv_ok (x := hi) (by omega) h3 hm
  obtain ⟨e1, e2, e3⟩ := dm lo (pw (n + 1)) hm
  obtain ⟨f1, f2, f3⟩ := dm hi (pw (n + 1)) hm
  have hle := ple lo hi (pw (n + 1)) hm h2
  have hzm := mul_le (lo / pw (n + 1) + 1) (hi / pw (n + 1)) (pw (n + 1)) hm (by omega)
  rw [Int.add_mul, Int.one_mul] at hzm
  have hqa := dq (lo / pw (n + 1)) (pw (n + 1) - 1) (pw (n + 1)) (by omega) (by omega)
  have hqz := dq (hi / pw (n + 1)) 0 (pw (n + 1)) (by omega) (by omega)
  rw [Int.add_zero] at hqz
  have hsh := shl_run (n + 1) (by omega) (by omega)
  generalize cutR (n + 1) ahead head lo hi = RR at hcp h5 ⊢
  generalize pw (n + 1) = m at *
  have hla : ∃ q, lo / m = q := ⟨_, rfl⟩
  obtain ⟨q, hla⟩ := hla
  have hlq := hla
  generalize lo / m = a at e t1 t2 t3 e1 hle hzm hqa hla hcp
  subst hla
  obtain ⟨q2, hzz⟩ : ∃ q, hi / m = q := ⟨_, rfl⟩
  have hzq := hzz
  generalize hi / m = z at e t4 t5 t6 f1 hle hzm hqz h4 hzz hcp
  subst hzz
  generalize lo % m = r at *
  generalize hi % m = s at *
  have hp1 : ∃ X, ((r = 0 ∧ X = []) ∨ (¬ r = 0 ∧ X = cutR (n + 1) ahead head lo (a * m + m - 1))) ∧ X = (if r = 0 then [] else cutR (n + 1) ahead head lo (a * m + m - 1)) := ⟨_, by by_cases hr : r = 0 <;> simp [hr], rfl⟩
  obtain ⟨X, hX, hX2⟩ := hp1
  rw [← hX2] at hcp
  have hp2 : ∃ Z, ((s = m - 1 ∧ Z = []) ∨ (¬ s = m - 1 ∧ Z = cutR (n + 1) ahead head (z * m) hi)) ∧ Z = (if s = m - 1 then [] else cutR (n + 1) ahead head (z * m) hi) := ⟨_, by by_cases hr : s = m - 1 <;> simp [hr], rfl⟩
  obtain ⟨Z, hZ, hZ2⟩ := hp2
  rw [← hZ2] at hcp
  have hp4 : ∃ a1, ((r = 0 ∧ a1 = a) ∨ (¬ r = 0 ∧ a1 = a + 1)) ∧ a1 = (if r = 0 then a else a + 1) := ⟨_, by by_cases hr : r = 0 <;> simp [hr], rfl⟩
  obtain ⟨a1, ha1, ha2⟩ := hp4
  rw [← ha2] at hcp
  have hp5 : ∃ y, ((s = m - 1 ∧ y = z) ∨ (¬ s = m - 1 ∧ y = z - 1)) ∧ y = (if s = m - 1 then z else z - 1) := ⟨_, by by_cases hr : s = m - 1 <;> simp [hr], rfl⟩
  obtain ⟨y, hy1, hy2⟩ := hp5
  rw [← hy2] at hcp
  have hp6 : ∃ Y, ((¬ a1 ≤ y ∧ Y = []) ∨ (a1 ≤ y ∧ Y = [ahead ++ sp (head + a1) (head + y) :: List.replicate (n + 1) (sp 128 191)])) ∧ Y = (if a1 ≤ y then [ahead ++ sp (head + a1) (head + y) :: List.replicate (n + 1) (sp 128 191)] else []) := ⟨_, by by_cases hr : a1 ≤ y <;> simp [hr], rfl⟩
  obtain ⟨Y, hY, hY2⟩ := hp6
  rw [← hY2] at hcp
  clear hX2 hZ2 ha2 hy2 hY2
  have hlen : acc.length + (X.length + (Y.length + Z.length)) < 1000000000 := by rw [hcp, List.length_append, List.length_append] at h5; exact h5
  refine parts_walk m _ (n + 1) (by omega) hm (by omega) (by unfold wrap64; omega) hsh w0 w bc v va ahead acc (acc ++ X) (acc ++ X ++ Y) (acc ++ RR) head lo hi a z a1 y hS hA (by omega) h0 t1 t4 e (by omega) (by omega) (by omega) (by rw [List.length_append]; omega)
   (w32_id (by omega) (by omega)) (w32_id (by omega) (by omega)) (w32_id (by omega) (by omega)) (w32_id (by omega) (by omega)) (w32_id (by omega) (by omega)) (w32_id (by omega) (by omega)) (w32_id (by omega) (by omega)) (w32_id (by omega) (by omega)) ?_ ?_ ?_
  ·rcases hX with ⟨hr, rfl⟩ | ⟨hr, rfl⟩
   ·exact .inl ⟨by omega, by omega, by simp⟩
   ·refine .inr ⟨by omega, by omega, fun w5 hs hr5 => ?_⟩
    rw [show a * m + m - 1 = a * m + (m - 1) by omega] at *
    exact hso w0 w5 bc v va ahead acc head lo (a * m + (m - 1)) hs hr5 hl h0 h1 (by omega) (by omega) (by rw [hqa.1]; omega) (by omega) (by rw [hqa.1]; exact hlq)
  ·rcases hY with ⟨hr, rfl⟩ | ⟨hr, rfl⟩
   ·exact .inl ⟨hr, by simp⟩
   ·exact .inr ⟨hr, rfl⟩
  ·rcases hZ with ⟨hr, rfl⟩ | ⟨hr, rfl⟩
   ·exact .inl ⟨by omega, by omega, by rw [hcp]; simp⟩
   ·refine .inr ⟨by omega, by omega, fun w5 v5 hs hr5 => ?_⟩
    rw [hcp, show acc ++ (X ++ (Y ++ cutR (n + 1) ahead head (z * m) hi)) = (acc ++ X ++ Y) ++ cutR (n + 1) ahead head (z * m) hi by simp]
    exact hso w0 w5 bc v5 va ahead (acc ++ X ++ Y) head (z * m) hi hs hr5 hl h0 (by omega) (by omega) h3 (by rw [hzq]; exact h4) (by rw [List.length_append, List.length_append]; omega) (by rw [hqz.1, hzq])
end CU
namespace CU
open XCut
abbrev Rg := S30
def topF : Nat → Int
 | 0 => 127
 | 1 => 2047
 | 2 => 65535
 | _ => 1114111
def headF : Nat → Int
 | 0 => 0
 | 1 => 192
 | 2 => 224
 | _ => 240
def lowF : Nat → Int
 | 0 => 0
 | n + 1 => topF n + 1
def loF (r : Rg) (i : Nat) : Int := if r.f0 < lowF i then lowF i else r.f0
def hiF (r : Rg) (i : Nat) : Int := if topF i < r.f1 then topF i else r.f1
def pc (r : Rg) (i : Nat) : List (List Sp) := if loF r i ≤ hiF r i then cutR i [] (headF i) (loF r i) (hiF r i) else []
def partsTo (r : Rg) : Nat → List (List Sp)
 | 0 => []
 | i + 1 => partsTo r i ++ pc r i
def splitL (l : List Rg) : List (List Sp) := l.flatMap fun r => partsTo r 4
def lastHi (l : List Rg) : Int := if 0 < l.length then (rd_T30 l ((l.length : Int) - 1)).f1 else 0
theorem bounds (r : Rg) (i : Nat) (hi : i ≤ 3) (h : loF r i ≤ hiF r i) : 0 ≤ headF i ∧ 0 ≤ loF r i ∧ hiF r i ≤ 16777215 ∧ headF i + hiF r i / pw i ≤ 255 := by
 have h1 : lowF i ≤ loF r i := by unfold loF; split <;> omega
 have h2 : hiF r i ≤ topF i := by unfold hiF; split <;> omega
 have h3 : hiF r i / pw i ≤ topF i / pw i := Int.ediv_le_ediv (pw_pos i) h2
 generalize hiF r i / pw i = q at h3
 have h4 : 0 ≤ headF i ∧ 0 ≤ lowF i ∧ topF i ≤ 16777215 ∧ headF i + topF i / pw i ≤ 255 := by
  match i, hi with
  | 0, _ => decide
  | 1, _ => decide
  | 2, _ => decide
  | 3, _ => decide
  | _ + 4, h => omega
 omega
theorem box_far {w w1 : World} {bc br B : Nat} {v v1 : Value} {acc : List (List Sp)} {ok : Nat → Prop} {cs cs2 : Array Value} (h : w.heap[br]? = some (.cells cs2 30 (0, 0))) (hf : Far w w1 bc v v1) (hv : Kd.S kOut 52 w B ok v acc) (hc : w.heap[bc]? = some (.cells cs 66 (0, 0))) : w1.heap[br]? = some (.cells cs2 30 (0, 0)) := by
 refine (hf.blk br (blt h) ?_ ?_).trans h
 ·rintro rfl
  rw [h] at hc
  injection hc with hc
  injection hc with _ hc
  exact absurd hc (by decide)
 ·intro e
  obtain ⟨cells2, hcl2⟩ := Kd.S_typed hv br e.symm
  rw [h] at hcl2
  injection hcl2 with hcl2
  injection hcl2 with _ hcl2
  exact absurd hcl2 (by decide)
theorem wrap_s {i : Nat} (h : i < 1000000000) : wrap64 ((i : Int) + 1) = ((i + 1 : Nat) : Int) := by unfold wrap64; omega
theorem split_succ (l : List Rg) (n : Nat) (h : n < l.length) : splitL (l.take (n + 1)) = splitL (l.take n) ++ partsTo (rd_T30 l (n : Int)) 4 := by
 have e : rd_T30 l (n : Int) = l[n] := by unfold rd_T30; rw [Int.toNat_natCast, List.getD_eq_getElem?_getD, List.getElem?_eq_getElem h]; rfl
 unfold splitL
 rw [e, List.take_succ_eq_append_getElem h, List.flatMap_append]
 simp
theorem split_len (l : List Rg) (n : Nat) : (splitL (l.take n)).length ≤ (splitL l).length := by
 conv => rhs; rw [← List.take_append_drop n l]
 unfold splitL
 rw [List.flatMap_append, List.length_append]
 omega
theorem parts_len (r : Rg) : ∀ (j i : Nat), i ≤ j → (partsTo r i).length ≤ (partsTo r j).length
  | 0, i, h => by obtain rfl : i = 0 := by omega
                  exact Nat.le_refl _
  | j + 1, i, h => by
    rcases Nat.lt_or_ge j i with h1 | h1
    · obtain rfl : i = j + 1 := by omega
      exact Nat.le_refl _
    · have := parts_len r j i h1
      rw [partsTo, List.length_append]
      omega
end CU
def seqs_Split.f (k : Nat) (l0 : List S30) : Option (List (List S54) × Int) :=
 if l0.length < 1000000000 then (sets_Check.f k l0).bind fun e => if e = 0 then (if 1114111 < CU.lastHi l0 then some ([], 2) else if (CU.splitL l0).length < 1000000000 then some (CU.splitL l0, 0) else none) else some ([], e) else none
theorem seqs_Split.mono : ∀ a0 k, LeO (seqs_Split.f k a0) (seqs_Split.f (k + 1) a0) := by
 intro a0 k
 unfold seqs_Split.f
 split
 ·exact LeO.bind (sets_Check.mono _ k) (fun e => LeO.refl _)
 ·exact LeO.refl _
set_option maxHeartbeats 16000000 in
set_option maxRecDepth 100000 in
theorem seqs_Split.calls (k : Nat) (A0 : Option Addr) (c0 : Nat) (l0 : List S30) (r1 : List (List S54)) (r2 : Int) (w : World) (hr0 : Kd.C k30 w A0 l0.length l0) (hc0 : l0.length ≤ c0) (h : seqs_Split.f k l0 = some (r1, r2)) (hG : GOK w := by first | (with_reducible exact HG_.out) | exact GOK.below HG_.out (by repeat (first | (with_reducible exact Below.refl _ _) | (with_reducible first | exact HB.out | apply below_alloc | apply pw_below_drewN | apply below_drew1 | refine below_set ?_ (Aside0.out (by assumption))) | exact HB.out)) | exact GOK.drewN HG_.out _ | exact GOK.drewN (GOK.drewN HG_.out _) _ | exact GOK.drew HG_.out) :
  Calls Tryd.prog 8 #[.slice A0 l0.length c0] w fun e w' => ∃ v0_ : Value, e = .returned (.tuple #[v0_, .int .i64 r2]) ∧ Kd.S (Kd.slice 54 k54) 52 w' w.heap.size (fun _ => True) v0_ r1 ∧ Below w.heap.size w w' := by
 have HG_ := Aside0.mk hG
 unfold seqs_Split.f at h
 split at h
 case isFalse => cases h
 case isTrue hlen =>
 obtain ⟨e1, he1, h⟩ := Option.bind_eq_some_iff.1 h
 have HC := Aside0.mk hr0
 have HCL := Aside0.mk hc0
 have HLEN := Aside0.mk hlen
 have HCH := Aside0.mk (sets_Check.calls k A0 c0 l0 e1 w hr0 hc0 he1 hG)
 clear hr0 hc0 hG he1 hlen
 by_cases hz : e1 = 0
 ·subst hz
  rw [if_pos rfl] at h
  have HF := Aside0.mk h
  clear h
  have hcase : (l0 = [] ∧ A0 = A0) ∨ ∃ (j : Int) (ad : Addr), wrap64 ((l0.length : Int) - 1) = j ∧ 0 ≤ j ∧ j < (l0.length : Int) ∧ A0 = some ad ∧ CU.lastHi l0 = (rd_T30 l0 j).f1 ∧ w.cell? ⟨(ad.add (j.toNat * 2)).block, (ad.add (j.toNat * 2)).off + 1, none⟩ = some (.int .i32 (rd_T30 l0 j).f1) := by
   rcases Nat.eq_zero_or_pos l0.length with h0 | h0
   ·exact .inl ⟨List.length_eq_zero_iff.1 h0, rfl⟩
   ·have hlen := HLEN.out
    have hw : wrap64 ((l0.length : Int) - 1) = (l0.length : Int) - 1 := by unfold wrap64; omega
    obtain ⟨ad, e, _, hx⟩ := at_T30 HC.out ((l0.length : Int) - 1) (by omega) (by omega)
    exact .inr ⟨_, ad, hw, by omega, by omega, e, by unfold CU.lastHi; rw [if_pos h0], hx⟩
  rcases hcase with ⟨hnil, _⟩ | ⟨j, ad, hj, hj0, hj1, hA, hlast, hx⟩
  ·subst hnil
   have hF := HF.out
   rw [if_neg (by decide), if_pos (by decide)] at hF
   have h2 := Option.some.inj hF
   simp only [Prod.mk.injEq] at h2
   obtain ⟨rfl, rfl⟩ := h2
   clear hF HF
   go_enter Tryd.func8, Tryd.ntmps8
   go_wp2_with fail
   refine HCH.out.mono ?_
   rintro e w1 ⟨rfl, hb⟩
   have HB1 := Aside0.mk hb
   clear hb HCH
   go_wp2_with fail
   have HS1 : Aside0 (CU.St w (w1.alloc (.cells #[.slice none 0 0] 66)) w1.heap.size (.slice none 0 0) []) := ⟨⟨below_alloc HB1.out _, blk_new w1 _, Kd.S_nil _ _ _ _ _, HB1.out.size⟩⟩
   have hcell := HS1.out.cellv
   generalize w1.alloc (.cells #[.slice none 0 0] 66) = W1 at HS1 hcell ⊢
   go_loopw [36] (fun v36 wr => v36 = .int .i64 0 ∧ wr = W1) (fun _ _ => 0)
   case atStart => exact ⟨rfl, rfl⟩
   case round =>
    obtain ⟨rfl, rfl⟩ := hrel
    go_wp2_with fail
    go_ret2
    exact ⟨_, rfl, Kd.S_nil _ _ _ _ _, HS1.out.base⟩
  ·subst hA
   by_cases hbig : 1114111 < CU.lastHi l0
   ·have hF := HF.out
    rw [if_pos hbig] at hF
    have h2 := Option.some.inj hF
    simp only [Prod.mk.injEq] at h2
    obtain ⟨rfl, rfl⟩ := h2
    go_enter Tryd.func8, Tryd.ntmps8
    go_wp2_with fail
    refine HCH.out.mono ?_
    rintro e w1 ⟨rfl, hb⟩
    have HB1 := Aside0.mk hb
    replace hx := (hb.cell (World.block_lt_of_cell? w _ hx)).trans hx
    rw [hlast] at hbig
    have hj0b : decide (0 ≤ j) = true := decide_eq_true hj0
    have hj1b : decide (j < (l0.length : Int)) = true := decide_eq_true hj1
    have hbb : decide (1114111 < (rd_T30 l0 j).f1) = true := decide_eq_true hbig
    have hjw : (IntKind.i64.wrap ((l0.length : Int) - 1)) = j := (i64_w _).trans hj
    have hpos : 0 < l0.length := by omega
    clear hb HCH hF
    go_wp2_with fail
    go_ret2
    exact ⟨_, rfl, Kd.S_nil _ _ _ _ _, HB1.out⟩
   ·go_enter Tryd.func8, Tryd.ntmps8
    go_wp2_with fail
    refine HCH.out.mono ?_
    rintro e w1 ⟨rfl, hb⟩
    have HB1 := Aside0.mk hb
    replace hx := (hb.cell (World.block_lt_of_cell? w _ hx)).trans hx
    rw [hlast] at hbig
    replace hbig : ¬ 1114111 < (rd_T30 l0 j).f1 := by omega
    have HBIG := Aside0.mk hbig
    have hj0b : decide (0 ≤ j) = true := decide_eq_true hj0
    have hj1b : decide (j < (l0.length : Int)) = true := decide_eq_true hj1
    have hbb : decide (1114111 < (rd_T30 l0 j).f1) = false := decide_eq_false hbig
    have hjw : (IntKind.i64.wrap ((l0.length : Int) - 1)) = j := (i64_w _).trans hj
    have hpos : 0 < l0.length := by omega
    clear hb HCH
    go_wp2_with fail
    have HS1 : Aside0 (CU.St w (w1.alloc (.cells #[.slice none 0 0] 66)) w1.heap.size (.slice none 0 0) (CU.splitL (l0.take 0))) := ⟨⟨below_alloc HB1.out _, blk_new w1 _, Kd.S_nil _ _ _ _ _, HB1.out.size⟩⟩
    clear hx HB1 hj0b hj1b hbb hjw hbig
    generalize w1.alloc (.cells #[.slice none 0 0] 66) = W1 at HS1 ⊢
    generalize w1.heap.size = bc at HS1 ⊢
    go_loopw [36] (fun v36 wr => ∃ (n : Nat) (v : Value), n ≤ l0.length ∧ v36 = .int .i64 (n : Int) ∧ Aside0 (CU.St w wr bc v (CU.splitL (l0.take n)))) (fun v36 _ => l0.length - (intOf v36).toNat)
    case atStart => exact ⟨0, _, Nat.zero_le _, rfl, HS1⟩
    case round =>
     clear HS1
     obtain ⟨n, v, hn, rfl, HS⟩ := hrel
     by_cases hlt : n < l0.length
     ·have hlt2 : (n : Int) < (l0.length : Int) := Int.ofNat_lt.2 hlt
      have hn0 : (0 : Int) ≤ (n : Int) := Int.natCast_nonneg n
      obtain ⟨ad2, e2, hx0, hx1⟩ := at_T30 HC.out (n : Int) hn0 hlt2
      cases e2
      replace hx0 := (HS.out.base.cell (World.block_lt_of_cell? w _ hx0)).trans hx0
      replace hx1 := (HS.out.base.cell (World.block_lt_of_cell? w _ hx1)).trans hx1
      simp only [Int.toNat_natCast] at hx0 hx1
      have HSP := Aside0.mk (CU.split_succ l0 n hlt)
      have HLT := Aside0.mk hlt
      clear hn hlt
      generalize rd_T30 l0 (n : Int) = r at hx0 hx1 HSP
      obtain ⟨lo, hi⟩ := r
      simp only at hx0 hx1
      have hG4 := HG_.out.below (below_alloc HS.out.base (.cells #[.int .i32 lo, .int .i32 hi] 30))
      have t0 := hG4.seqs_tops 0 _ rfl
      have t1 := hG4.seqs_tops 1 _ rfl
      have t2 := hG4.seqs_tops 2 _ rfl
      have t3 := hG4.seqs_tops 3 _ rfl
      have HBR := Aside0.mk (blk_new wr (.cells #[.int .i32 lo, .int .i32 hi] 30))
      have HS2 : Aside0 (CU.St w (wr.alloc (.cells #[.int .i32 lo, .int .i32 hi] 30)) bc v (CU.splitL (l0.take n) ++ CU.partsTo ⟨lo, hi⟩ 0)) := ⟨by rw [show CU.partsTo ⟨lo, hi⟩ 0 = [] from rfl, List.append_nil]; exact HS.out.below (below_alloc (Below.refl _ _) _)⟩
      have HLO : Aside0 (w.heap.size ≤ wr.heap.size) := ⟨HS.out.base.size⟩
      have HLIM : Aside0 (∀ i, i ≤ 3 → CU.loF ⟨lo, hi⟩ i ≤ CU.hiF ⟨lo, hi⟩ i → ∀ x y, CU.loF ⟨lo, hi⟩ i = x → CU.hiF ⟨lo, hi⟩ i = y → ((CU.splitL (l0.take n) ++ CU.partsTo ⟨lo, hi⟩ i) ++ XCut.cutR i [] (CU.headF i) x y).length < 1000000000) := ⟨by
       intro i hi3 hle x y hx hy
       have h1 := CU.parts_len ⟨lo, hi⟩ 4 (i + 1) (by omega)
       have h2 := CU.split_len l0 (n + 1)
       rw [HSP.out] at h2
       have h3 := HF.out
       rw [if_neg (by rw [hlast]; have := HBIG.out; omega)] at h3
       split at h3
       case isFalse => cases h3
       case isTrue hlim =>
       rw [CU.partsTo, CU.pc, if_pos hle, hx, hy] at h1
       simp only [List.length_append] at h1 h2 ⊢
       omega⟩
      clear HS hG4
      go_wp2_with fail
      clear hx0 hx1 t0 t1 t2 t3
      generalize wr.alloc (.cells #[.int .i32 lo, .int .i32 hi] 30) = W2 at HBR HS2 ⊢
      generalize wr.heap.size = br at HBR HLO ⊢
      go_loopw [9, 41] (fun v9 v41 wi => ∃ (i : Nat) (v : Value), i ≤ 4 ∧ v41 = .int .i64 (i : Int) ∧ v9 = .int .i32 (CU.lowF i) ∧ Aside0 (CU.St w wi bc v (CU.splitL (l0.take n) ++ CU.partsTo ⟨lo, hi⟩ i)) ∧ Aside0 (wi.heap[br]? = some (.cells #[.int .i32 lo, .int .i32 hi] 30 (0, 0)))) (fun _ v41 _ => 4 - (intOf v41).toNat)
      case atStart => exact ⟨0, _, Nat.zero_le _, rfl, rfl, HS2, HBR⟩
      case round =>
       clear HS2 HBR
       obtain ⟨i, v, hi4, rfl, rfl, HS, HBR⟩ := hrel
       obtain rfl | rfl | rfl | rfl | rfl : i = 0 ∨ i = 1 ∨ i = 2 ∨ i = 3 ∨ i = 4 := by omega
       ·obtain ⟨x, hx⟩ : ∃ x, CU.loF ⟨lo, hi⟩ 0 = x := ⟨_, rfl⟩
        obtain ⟨y, hy⟩ : ∃ y, CU.hiF ⟨lo, hi⟩ 0 = y := ⟨_, rfl⟩
        have HX := Aside0.mk hx
        have HY := Aside0.mk hy
        replace hx : (if lo < 0 then 0 else lo) = x := hx
        replace hy : (if 127 < hi then 127 else hi) = y := hy
        have q0 : wr.cell? ⟨br, 0, none⟩ = some (.int .i32 lo) := by rw [cell_of_row wr br 0 _ _ (0, 0) HBR.out]; rfl
        have q1 : wr.cell? ⟨br, 1, none⟩ = some (.int .i32 hi) := by rw [cell_of_row wr br 1 _ _ (0, 0) HBR.out]; rfl
        clear hi4
        have hidx : ∀ W : World, Sem.run Tryd.prog (Instr.index 67 (.agg #[.int .i32 127, .int .i32 2047, .int .i32 65535, .int .i32 1114111]) (.int .i64 0)) W = .ok (.int .i32 127) W := fun W => by kernel_rfl
        rw [show ((0 : Nat) : Int) = 0 from rfl, show CU.lowF 0 = 0 from rfl]
        go_wp2_with fail
        go_quiet (fail)
        have hb5 : Below wr.heap.size wr (wr.drewN nq) := pw_below_drewN (Below.refl _ _) nq
        have HS5 := Aside0.mk (HS.out.below hb5)
        have HBR5 := Aside0.mk (blk_below HBR.out hb5)
        clear hb5 q0 q1 HS HBR hidx
        try rw [hx]
        try rw [hy]
        generalize wr.drewN nq = w5 at HS5 HBR5 ⊢
        have h0 := (HG_.out.below HS5.out.base).seqs_heads 0 _ rfl
        by_cases hc : x ≤ y
        ·have hB := CU.bounds ⟨lo, hi⟩ 0 (by decide) (by rw [HX.out, HY.out]; exact hc)
         rw [HX.out, HY.out] at hB
         have HCT := Aside0.mk (CU.cut_ok 0 (by decide) w w5 bc v (.slice none 0 0) [] _ 0 x y HS5.out (Kd.R_nil _ _ _ _ _) (by decide) hB.1 hB.2.1 hc hB.2.2.1 hB.2.2.2 (by rw [← List.length_append]; exact HLIM.out 0 (by decide) (by rw [HX.out, HY.out]; exact hc) x y HX.out HY.out))
         clear hB
         go_wp2_with fail
         refine HCT.out.mono ?_
         rintro e w6 ⟨rfl, v6, hs6, hf6⟩
         have HBR6 := Aside0.mk (CU.box_far HBR5.out hf6 HS5.out.row HS5.out.cell)
         have hp : CU.partsTo ⟨lo, hi⟩ 1 = CU.partsTo ⟨lo, hi⟩ 0 ++ XCut.cutR 0 [] 0 x y := by
          show CU.partsTo ⟨lo, hi⟩ 0 ++ CU.pc ⟨lo, hi⟩ 0 = _
          unfold CU.pc
          rw [HX.out, HY.out, if_pos hc]
          rfl
         have HS6 : Aside0 (CU.St w w6 bc v6 (CU.splitL (l0.take n) ++ CU.partsTo ⟨lo, hi⟩ 1)) := ⟨by rw [hp, ← List.append_assoc]; exact hs6⟩
         clear hs6 hf6 hp HCT HS5 HBR5
         go_wp2_with fail
         go_roundw
         case measure =>
          show 4 - (intOf (.int .i64 1)).toNat < 4 - (intOf (.int .i64 0)).toNat
          decide
         case rel => exact ⟨1, v6, by decide, rfl, rfl, HS6, HBR6⟩
        ·have hp : CU.partsTo ⟨lo, hi⟩ 1 = CU.partsTo ⟨lo, hi⟩ 0 := by
          show CU.partsTo ⟨lo, hi⟩ 0 ++ CU.pc ⟨lo, hi⟩ 0 = _
          unfold CU.pc
          rw [HX.out, HY.out, if_neg hc, List.append_nil]
         have HS6 : Aside0 (CU.St w w5 bc v (CU.splitL (l0.take n) ++ CU.partsTo ⟨lo, hi⟩ 1)) := ⟨by rw [hp]; exact HS5.out⟩
         clear hp HS5
         go_wp2_with fail
         go_roundw
         case measure =>
          show 4 - (intOf (.int .i64 1)).toNat < 4 - (intOf (.int .i64 0)).toNat
          decide
         case rel => exact ⟨1, v, by decide, rfl, rfl, HS6, HBR5⟩
       ·obtain ⟨x, hx⟩ : ∃ x, CU.loF ⟨lo, hi⟩ 1 = x := ⟨_, rfl⟩
        obtain ⟨y, hy⟩ : ∃ y, CU.hiF ⟨lo, hi⟩ 1 = y := ⟨_, rfl⟩
        have HX := Aside0.mk hx
        have HY := Aside0.mk hy
        replace hx : (if lo < 128 then 128 else lo) = x := hx
        replace hy : (if 2047 < hi then 2047 else hi) = y := hy
        have q0 : wr.cell? ⟨br, 0, none⟩ = some (.int .i32 lo) := by rw [cell_of_row wr br 0 _ _ (0, 0) HBR.out]; rfl
        have q1 : wr.cell? ⟨br, 1, none⟩ = some (.int .i32 hi) := by rw [cell_of_row wr br 1 _ _ (0, 0) HBR.out]; rfl
        clear hi4
        have hidx : ∀ W : World, Sem.run Tryd.prog (Instr.index 67 (.agg #[.int .i32 127, .int .i32 2047, .int .i32 65535, .int .i32 1114111]) (.int .i64 1)) W = .ok (.int .i32 2047) W := fun W => by kernel_rfl
        rw [show ((1 : Nat) : Int) = 1 from rfl, show CU.lowF 1 = 128 from rfl]
        go_wp2_with fail
        go_quiet (fail)
        have hb5 : Below wr.heap.size wr (wr.drewN nq) := pw_below_drewN (Below.refl _ _) nq
        have HS5 := Aside0.mk (HS.out.below hb5)
        have HBR5 := Aside0.mk (blk_below HBR.out hb5)
        clear hb5 q0 q1 HS HBR hidx
        try rw [hx]
        try rw [hy]
        generalize wr.drewN nq = w5 at HS5 HBR5 ⊢
        have h0 := (HG_.out.below HS5.out.base).seqs_heads 1 _ rfl
        by_cases hc : x ≤ y
        ·have hB := CU.bounds ⟨lo, hi⟩ 1 (by decide) (by rw [HX.out, HY.out]; exact hc)
         rw [HX.out, HY.out] at hB
         have HCT := Aside0.mk (CU.cut_ok 1 (by decide) w w5 bc v (.slice none 0 0) [] _ 192 x y HS5.out (Kd.R_nil _ _ _ _ _) (by decide) hB.1 hB.2.1 hc hB.2.2.1 hB.2.2.2 (by rw [← List.length_append]; exact HLIM.out 1 (by decide) (by rw [HX.out, HY.out]; exact hc) x y HX.out HY.out))
         clear hB
         go_wp2_with fail
         refine HCT.out.mono ?_
         rintro e w6 ⟨rfl, v6, hs6, hf6⟩
         have HBR6 := Aside0.mk (CU.box_far HBR5.out hf6 HS5.out.row HS5.out.cell)
         have hp : CU.partsTo ⟨lo, hi⟩ 2 = CU.partsTo ⟨lo, hi⟩ 1 ++ XCut.cutR 1 [] 192 x y := by
          show CU.partsTo ⟨lo, hi⟩ 1 ++ CU.pc ⟨lo, hi⟩ 1 = _
          unfold CU.pc
          rw [HX.out, HY.out, if_pos hc]
          rfl
         have HS6 : Aside0 (CU.St w w6 bc v6 (CU.splitL (l0.take n) ++ CU.partsTo ⟨lo, hi⟩ 2)) := ⟨by rw [hp, ← List.append_assoc]; exact hs6⟩
         clear hs6 hf6 hp HCT HS5 HBR5
         go_wp2_with fail
         go_roundw
         case measure =>
          show 4 - (intOf (.int .i64 2)).toNat < 4 - (intOf (.int .i64 1)).toNat
          decide
         case rel => exact ⟨2, v6, by decide, rfl, rfl, HS6, HBR6⟩
        ·have hp : CU.partsTo ⟨lo, hi⟩ 2 = CU.partsTo ⟨lo, hi⟩ 1 := by
          show CU.partsTo ⟨lo, hi⟩ 1 ++ CU.pc ⟨lo, hi⟩ 1 = _
          unfold CU.pc
          rw [HX.out, HY.out, if_neg hc, List.append_nil]
         have HS6 : Aside0 (CU.St w w5 bc v (CU.splitL (l0.take n) ++ CU.partsTo ⟨lo, hi⟩ 2)) := ⟨by rw [hp]; exact HS5.out⟩
         clear hp HS5
         go_wp2_with fail
         go_roundw
         case measure =>
          show 4 - (intOf (.int .i64 2)).toNat < 4 - (intOf (.int .i64 1)).toNat
          decide
         case rel => exact ⟨2, v, by decide, rfl, rfl, HS6, HBR5⟩
       ·obtain ⟨x, hx⟩ : ∃ x, CU.loF ⟨lo, hi⟩ 2 = x := ⟨_, rfl⟩
        obtain ⟨y, hy⟩ : ∃ y, CU.hiF ⟨lo, hi⟩ 2 = y := ⟨_, rfl⟩
        have HX := Aside0.mk hx
        have HY := Aside0.mk hy
        replace hx : (if lo < 2048 then 2048 else lo) = x := hx
        replace hy : (if 65535 < hi then 65535 else hi) = y := hy
        have q0 : wr.cell? ⟨br, 0, none⟩ = some (.int .i32 lo) := by rw [cell_of_row wr br 0 _ _ (0, 0) HBR.out]; rfl
        have q1 : wr.cell? ⟨br, 1, none⟩ = some (.int .i32 hi) := by rw [cell_of_row wr br 1 _ _ (0, 0) HBR.out]; rfl
        clear hi4
        have hidx : ∀ W : World, Sem.run Tryd.prog (Instr.index 67 (.agg #[.int .i32 127, .int .i32 2047, .int .i32 65535, .int .i32 1114111]) (.int .i64 2)) W = .ok (.int .i32 65535) W := fun W => by kernel_rfl
        rw [show ((2 : Nat) : Int) = 2 from rfl, show CU.lowF 2 = 2048 from rfl]
        go_wp2_with fail
        go_quiet (fail)
        have hb5 : Below wr.heap.size wr (wr.drewN nq) := pw_below_drewN (Below.refl _ _) nq
        have HS5 := Aside0.mk (HS.out.below hb5)
        have HBR5 := Aside0.mk (blk_below HBR.out hb5)
        clear hb5 q0 q1 HS HBR hidx
        try rw [hx]
        try rw [hy]
        generalize wr.drewN nq = w5 at HS5 HBR5 ⊢
        have h0 := (HG_.out.below HS5.out.base).seqs_heads 2 _ rfl
        by_cases hc : x ≤ y
        ·have hB := CU.bounds ⟨lo, hi⟩ 2 (by decide) (by rw [HX.out, HY.out]; exact hc)
         rw [HX.out, HY.out] at hB
         have HCT := Aside0.mk (CU.cut_ok 2 (by decide) w w5 bc v (.slice none 0 0) [] _ 224 x y HS5.out (Kd.R_nil _ _ _ _ _) (by decide) hB.1 hB.2.1 hc hB.2.2.1 hB.2.2.2 (by rw [← List.length_append]; exact HLIM.out 2 (by decide) (by rw [HX.out, HY.out]; exact hc) x y HX.out HY.out))
         clear hB
         go_wp2_with fail
         refine HCT.out.mono ?_
         rintro e w6 ⟨rfl, v6, hs6, hf6⟩
         have HBR6 := Aside0.mk (CU.box_far HBR5.out hf6 HS5.out.row HS5.out.cell)
         have hp : CU.partsTo ⟨lo, hi⟩ 3 = CU.partsTo ⟨lo, hi⟩ 2 ++ XCut.cutR 2 [] 224 x y := by
          show CU.partsTo ⟨lo, hi⟩ 2 ++ CU.pc ⟨lo, hi⟩ 2 = _
          unfold CU.pc
          rw [HX.out, HY.out, if_pos hc]
          rfl
         have HS6 : Aside0 (CU.St w w6 bc v6 (CU.splitL (l0.take n) ++ CU.partsTo ⟨lo, hi⟩ 3)) := ⟨by rw [hp, ← List.append_assoc]; exact hs6⟩
         clear hs6 hf6 hp HCT HS5 HBR5
         go_wp2_with fail
         go_roundw
         case measure =>
          show 4 - (intOf (.int .i64 3)).toNat < 4 - (intOf (.int .i64 2)).toNat
          decide
         case rel => exact ⟨3, v6, by decide, rfl, rfl, HS6, HBR6⟩
        ·have hp : CU.partsTo ⟨lo, hi⟩ 3 = CU.partsTo ⟨lo, hi⟩ 2 := by
          show CU.partsTo ⟨lo, hi⟩ 2 ++ CU.pc ⟨lo, hi⟩ 2 = _
          unfold CU.pc
          rw [HX.out, HY.out, if_neg hc, List.append_nil]
         have HS6 : Aside0 (CU.St w w5 bc v (CU.splitL (l0.take n) ++ CU.partsTo ⟨lo, hi⟩ 3)) := ⟨by rw [hp]; exact HS5.out⟩
         clear hp HS5
         go_wp2_with fail
         go_roundw
         case measure =>
          show 4 - (intOf (.int .i64 3)).toNat < 4 - (intOf (.int .i64 2)).toNat
          decide
         case rel => exact ⟨3, v, by decide, rfl, rfl, HS6, HBR5⟩
       ·obtain ⟨x, hx⟩ : ∃ x, CU.loF ⟨lo, hi⟩ 3 = x := ⟨_, rfl⟩
        obtain ⟨y, hy⟩ : ∃ y, CU.hiF ⟨lo, hi⟩ 3 = y := ⟨_, rfl⟩
        have HX := Aside0.mk hx
        have HY := Aside0.mk hy
        replace hx : (if lo < 65536 then 65536 else lo) = x := hx
        replace hy : (if 1114111 < hi then 1114111 else hi) = y := hy
        have q0 : wr.cell? ⟨br, 0, none⟩ = some (.int .i32 lo) := by rw [cell_of_row wr br 0 _ _ (0, 0) HBR.out]; rfl
        have q1 : wr.cell? ⟨br, 1, none⟩ = some (.int .i32 hi) := by rw [cell_of_row wr br 1 _ _ (0, 0) HBR.out]; rfl
        clear hi4
        have hidx : ∀ W : World, Sem.run Tryd.prog (Instr.index 67 (.agg #[.int .i32 127, .int .i32 2047, .int .i32 65535, .int .i32 1114111]) (.int .i64 3)) W = .ok (.int .i32 1114111) W := fun W => by kernel_rfl
        rw [show ((3 : Nat) : Int) = 3 from rfl, show CU.lowF 3 = 65536 from rfl]
        go_wp2_with fail
        go_quiet (fail)
        have hb5 : Below wr.heap.size wr (wr.drewN nq) := pw_below_drewN (Below.refl _ _) nq
        have HS5 := Aside0.mk (HS.out.below hb5)
        have HBR5 := Aside0.mk (blk_below HBR.out hb5)
        clear hb5 q0 q1 HS HBR hidx
        try rw [hx]
        try rw [hy]
        generalize wr.drewN nq = w5 at HS5 HBR5 ⊢
        have h0 := (HG_.out.below HS5.out.base).seqs_heads 3 _ rfl
        by_cases hc : x ≤ y
        ·have hB := CU.bounds ⟨lo, hi⟩ 3 (by decide) (by rw [HX.out, HY.out]; exact hc)
         rw [HX.out, HY.out] at hB
         have HCT := Aside0.mk (CU.cut_ok 3 (by decide) w w5 bc v (.slice none 0 0) [] _ 240 x y HS5.out (Kd.R_nil _ _ _ _ _) (by decide) hB.1 hB.2.1 hc hB.2.2.1 hB.2.2.2 (by rw [← List.length_append]; exact HLIM.out 3 (by decide) (by rw [HX.out, HY.out]; exact hc) x y HX.out HY.out))
         clear hB
         go_wp2_with fail
         refine HCT.out.mono ?_
         rintro e w6 ⟨rfl, v6, hs6, hf6⟩
         have HBR6 := Aside0.mk (CU.box_far HBR5.out hf6 HS5.out.row HS5.out.cell)
         have hp : CU.partsTo ⟨lo, hi⟩ 4 = CU.partsTo ⟨lo, hi⟩ 3 ++ XCut.cutR 3 [] 240 x y := by
          show CU.partsTo ⟨lo, hi⟩ 3 ++ CU.pc ⟨lo, hi⟩ 3 = _
          unfold CU.pc
          rw [HX.out, HY.out, if_pos hc]
          rfl
         have HS6 : Aside0 (CU.St w w6 bc v6 (CU.splitL (l0.take n) ++ CU.partsTo ⟨lo, hi⟩ 4)) := ⟨by rw [hp, ← List.append_assoc]; exact hs6⟩
         clear hs6 hf6 hp HCT HS5 HBR5
         go_wp2_with fail
         go_roundw
         case measure =>
          show 4 - (intOf (.int .i64 4)).toNat < 4 - (intOf (.int .i64 3)).toNat
          decide
         case rel => exact ⟨4, v6, by decide, rfl, rfl, HS6, HBR6⟩
        ·have hp : CU.partsTo ⟨lo, hi⟩ 4 = CU.partsTo ⟨lo, hi⟩ 3 := by
          show CU.partsTo ⟨lo, hi⟩ 3 ++ CU.pc ⟨lo, hi⟩ 3 = _
          unfold CU.pc
          rw [HX.out, HY.out, if_neg hc, List.append_nil]
         have HS6 : Aside0 (CU.St w w5 bc v (CU.splitL (l0.take n) ++ CU.partsTo ⟨lo, hi⟩ 4)) := ⟨by rw [hp]; exact HS5.out⟩
         clear hp HS5
         go_wp2_with fail
         go_roundw
         case measure =>
          show 4 - (intOf (.int .i64 4)).toNat < 4 - (intOf (.int .i64 3)).toNat
          decide
         case rel => exact ⟨4, v, by decide, rfl, rfl, HS6, HBR5⟩
       ·have HS7 : Aside0 (CU.St w wr bc v (CU.splitL (l0.take (n + 1)))) := ⟨by rw [HSP.out]; exact HS.out⟩
        clear hi4 HS HBR
        rw [show ((4 : Nat) : Int) = 4 from rfl]
        go_wp2_with fail
        go_roundw
        case measure =>
         have hlt := HLT.out
         have hl9 := HLEN.out
         show l0.length - (intOf (.int .i64 (wrap64 ((n : Int) + 1)))).toNat < l0.length - (intOf (.int .i64 (n : Int))).toNat
         rw [CU.wrap_s (Nat.lt_trans hlt hl9)]
         exact CU.meas_dec hlt
        case rel =>
         rw [CU.wrap_s (Nat.lt_trans HLT.out HLEN.out)]
         exact ⟨n + 1, v, HLT.out, rfl, HS7⟩
     ·obtain rfl : n = l0.length := CU.eq_of_not_lt hn hlt
      have HS7 := Aside0.mk HS.out
      have hcell := HS7.out.cellv
      have hF := HF.out
      rw [if_neg (by rw [hlast]; have := HBIG.out; omega)] at hF
      split at hF
      case isFalse => cases hF
      case isTrue hlim =>
      obtain ⟨A7, c7, rfl⟩ := Kd.S_slice HS7.out.row
      have hR := HS7.out.row
      have h2 := Option.some.inj hF
      simp only [Prod.mk.injEq] at h2
      obtain ⟨rfl, rfl⟩ := h2
      have HB7 := Aside0.mk HS7.out.base
      rw [List.take_length] at hR hcell
      have HR7 := Aside0.mk (Kd.S_mono hR (fun _ _ => trivial))
      have hlt2 : ¬ ((l0.length : Int) < (l0.length : Int)) := Int.lt_irrefl _
      clear hn hlt HS HS7 hF hR hlim HF
      try rw [List.take_length]
      go_wp2_with fail
      go_ret2
      exact ⟨_, rfl, HR7.out, HB7.out⟩
 ·rw [if_neg hz] at h
  have h2 := Option.some.inj h
  simp only [Prod.mk.injEq] at h2
  obtain ⟨rfl, rfl⟩ := h2
  have hz1 : (e1 != 0) = true := by simpa using hz
  clear h hz
  go_enter Tryd.func8, Tryd.ntmps8
  go_wp2_with fail
  refine HCH.out.mono ?_
  rintro e w1 ⟨rfl, hb⟩
  have HB1 := Aside0.mk hb
  clear hb HCH
  go_wp2_with fail
  go_ret2
  exact ⟨_, rfl, Kd.S_nil _ _ _ _ _, HB1.out⟩

end Go.Proofs.YtcfecoalljfoaaaDoor.XS
namespace Go.Proofs.YtcfecoalljfoaaaDoor.XS
open Go.Proofs.YtcfecoalljfoaaaDoor.XShort (o i)
open Go.RowKit Go.Proofs.YtcfecoalljfoaaaDoorW.PrintWords Go.Proofs.YtcfecoalljfoaaaDoorW.PrintLast Go.Proofs.YtcfecoalljfoaaaDoorW.PrintMore
attribute [local go_sem] max2_int min2_int max_two min_two max_three min_three max_four min_four   -- for this text's walks alone
set_option linter.unusedVariables false
set_option linter.unusedSimpArgs false

theorem eqA54 (d : Nat) (w : World) (x0 y0 : Int) (x1 y1 : Int) :
  (Op.equalIn (d + 2) 54 (.agg #[.int .u8 x0, .int .u8 x1]) (.agg #[.int .u8 y0, .int .u8 y1])).run Tryd.prog w = .ok (x0 == y0 && (x1 == y1)) w := by
 refine eqA_of Tryd.underlying54 (by kernel_rfl) ?_
 refine eqf_cons (by rfl) (by go_simp; rfl) (by go_simp; rfl) (by go_simp) ?_
 exact eqf_last (by rfl) (by go_simp; rfl) (by go_simp; rfl) (by go_simp)
end Go.Proofs.YtcfecoalljfoaaaDoor.XS
namespace Go.Proofs.YtcfecoalljfoaaaDoor.XS
open Go.Proofs.YtcfecoalljfoaaaDoor.XShort (o i)
open Go.RowKit Go.Proofs.YtcfecoalljfoaaaDoorW.PrintWords Go.Proofs.YtcfecoalljfoaaaDoorW.PrintLast Go.Proofs.YtcfecoalljfoaaaDoorW.PrintMore
attribute [local go_sem] max2_int min2_int max_two min_two max_three min_three max_four min_four   -- for this text's walks alone
set_option linter.unusedVariables false
set_option linter.unusedSimpArgs false

attribute [local go_sem high] eqA54
/-! ### thistlelaw05_sameSpans: function 20 -/
def thistlelaw05_sameSpans.l0 : Nat → List (S54) → List (S54) → Int → Option (Bool)
 | 0, _, _, _ => none
 | k + 1, x0, x1, x5 => if x5 < (x0.length : Int) then (if 0 ≤ x5 then (if x5 < (x1.length : Int) then (if (!(((rd_T54 x0 x5).f0) == ((rd_T54 x1 x5).f0)) || (!(((rd_T54 x0 x5).f1) == ((rd_T54 x1 x5).f1)))) = true then (some false) else (thistlelaw05_sameSpans.l0 k x0 x1 (wrap64 (x5 + 1)))) else (none)) else (none)) else (some true)
def thistlelaw05_sameSpans.f (k : Nat) (l0 : List (S54)) (l1 : List (S54)) : Option (Bool) := if (l0.length : Int) = (l1.length : Int) then (thistlelaw05_sameSpans.l0 k l0 l1 0) else (some false)
theorem thistlelaw05_sameSpans.mono_l : ∀ k, (∀ y0 y1 y2, LeO (thistlelaw05_sameSpans.l0 k y0 y1 y2) (thistlelaw05_sameSpans.l0 (k + 1) y0 y1 y2))
 | 0 => fun _ _ _ r h => by simp [thistlelaw05_sameSpans.l0] at h
 | k + 1 => by
  have ih0 := thistlelaw05_sameSpans.mono_l k
  ·intro y0 y1 y2
   unfold thistlelaw05_sameSpans.l0
   repeat' first
   | (with_reducible exact ih0 _ _ _)
   | (with_reducible exact LeO.refl _)
   | (with_reducible exact LeO.none _)
   | (with_reducible refine LeO.ite ?_ ?_)
   | (with_reducible refine LeO.bind ?_ (fun _ => ?_))
   | exact ih0 _ _ _
   | exact LeO.none _
   | refine LeO.ite ?_ ?_
   | refine LeO.bind ?_ (fun _ => ?_)
theorem thistlelaw05_sameSpans.mono : ∀ a0 a1 k, LeO (thistlelaw05_sameSpans.f k a0 a1) (thistlelaw05_sameSpans.f (k + 1) a0 a1) := by
 intro a0 a1 k
 have ih0 := thistlelaw05_sameSpans.mono_l k
 unfold thistlelaw05_sameSpans.f
 repeat' first
   | (with_reducible exact ih0 _ _ _)
   | (with_reducible exact LeO.refl _)
   | (with_reducible exact LeO.none _)
   | (with_reducible refine LeO.ite ?_ ?_)
   | (with_reducible refine LeO.bind ?_ (fun _ => ?_))
   | exact ih0 _ _ _
   | exact LeO.none _
   | refine LeO.ite ?_ ?_
   | refine LeO.bind ?_ (fun _ => ?_)
set_option maxHeartbeats 8000000 in
set_option maxRecDepth 100000 in
theorem thistlelaw05_sameSpans.calls (k : Nat) (A0 : Option Addr) (c0 : Nat) (l0 : List (S54)) (A1 : Option Addr) (c1 : Nat) (l1 : List (S54)) (r : Bool) (w : World) (hr0 : Kd.C k54 w A0 l0.length l0) (hc0 : l0.length ≤ c0) (hr1 : Kd.C k54 w A1 l1.length l1) (hc1 : l1.length ≤ c1) (h : thistlelaw05_sameSpans.f k l0 l1 = some r) :
  Calls Tryd.prog 20 #[.slice A0 l0.length c0, .slice A1 l1.length c1] w fun e w' => e = .returned (.bool r) ∧ Drawn0 w w' := by
 have hu54 := Tryd.underlying54
 have HR0 := Aside0.mk hr0
 have HC0 := Aside0.mk hc0
 clear hr0 hc0
 have HR1 := Aside0.mk hr1
 have HC1 := Aside0.mk hc1
 clear hr1 hc1
 have H : (if (l0.length : Int) = (l1.length : Int) then (thistlelaw05_sameSpans.l0 k l0 l1 0) else (some false)) = some r := h
 clear h
 by_cases c3 : (l0.length : Int) = (l1.length : Int)
 ·rw [if_pos c3] at H
  have c3b0 : ((l0.length : Int) == (l1.length : Int)) = true := beq_iff_eq.mpr c3
  have c3b1 : ((l0.length : Int) != (l1.length : Int)) = false := bne_eq_false_iff_eq.mpr c3
  have c3b2 : (l0.length == l1.length) = true := by first | simpa using c3 | (simp at c3 ⊢; omega)
  clear c3
  have H' := Aside0.mk H
  clear H
  go_enter Tryd.func20, Tryd.ntmps20
  go_wp2
  repeat (go_quiet (fail); try go_wp2)
  go_loopg [5] k (fun kq v5 w' => ∃ (x5_1 : Int), v5 = .int .i64 x5_1 ∧ Aside0 (thistlelaw05_sameSpans.l0 kq l0 l1 x5_1 = some r) ∧ Aside0 (kq ≤ k) ∧ Drawn0 w w')
  case atStart => exact ⟨(0), XShort.eqs, H', ⟨Nat.le_refl _⟩, by repeat (first | exact Drawn0.refl _ | apply Drawn0.step)⟩
  case round =>
   clear H'
   try clear c1
   try clear c2
   try clear p2
   try clear c3
   try clear c3b0
   try clear c3b1
   try clear c3b2
   obtain ⟨x5_1, rfl, HA, HK1, ⟨m1, rfl⟩⟩ := hrel
   cases gk with
   | zero => exact absurd HA.out (by simp [thistlelaw05_sameSpans.l0])
   | succ k1 =>
    have H := HA.out
    clear HA
    simp only [thistlelaw05_sameSpans.l0] at H
    by_cases c4 : x5_1 < (l0.length : Int)
    ·rw [if_pos c4] at H
     have c4b0 : decide (x5_1 < (l0.length : Int)) = true := decide_eq_true c4
     clear c4
     by_cases c5 : 0 ≤ x5_1
     ·rw [if_pos c5] at H
      have c5b0 : decide (0 ≤ x5_1) = true := decide_eq_true c5
      clear c5
      by_cases c6 : x5_1 < (l1.length : Int)
      ·rw [if_pos c6] at H
       have c6b0 : decide (x5_1 < (l1.length : Int)) = true := decide_eq_true c6
       clear c6
       by_cases c7 : (!(((rd_T54 l0 x5_1).f0) == ((rd_T54 l1 x5_1).f0)) || (!(((rd_T54 l0 x5_1).f1) == ((rd_T54 l1 x5_1).f1)))) = true
       ·rw [if_pos c7] at H
        have c7b0 : (!(((rd_T54 l0 x5_1).f0) == ((rd_T54 l1 x5_1).f0)) || (!(((rd_T54 l0 x5_1).f1) == ((rd_T54 l1 x5_1).f1)))) = true := c7
        clear c7
        obtain rfl := Option.some.inj H
        have p116 : 0 ≤ (x5_1 : Int) := of_decide_eq_true XShort.asm
        have q116 : x5_1 < (l0.length : Int) := of_decide_eq_true XShort.asm
        obtain ⟨ad116, e116, hx116_0, hx116_1⟩ := at_T54 HR0.out x5_1 p116 q116
        cases e116
        replace p116 := eq_true p116
        replace q116 := eq_true q116
        have p117 : 0 ≤ (x5_1 : Int) := of_decide_eq_true XShort.asm
        have q117 : x5_1 < (l1.length : Int) := of_decide_eq_true XShort.asm
        obtain ⟨ad117, e117, hx117_0, hx117_1⟩ := at_T54 HR1.out x5_1 p117 q117
        cases e117
        replace p117 := eq_true p117
        replace q117 := eq_true q117
        go_wp2
        repeat (go_quiet (fail); try go_wp2)
        go_ret
        exact ⟨XShort.eqs, by repeat (first | exact Drawn0.refl _ | apply Drawn0.step)⟩
       ·rw [if_neg c7] at H
        have c7b0 : (!(((rd_T54 l0 x5_1).f0) == ((rd_T54 l1 x5_1).f0)) || (!(((rd_T54 l0 x5_1).f1) == ((rd_T54 l1 x5_1).f1)))) = false := by simpa using c7
        clear c7
        have H' := Aside0.mk H
        clear H
        have p116 : 0 ≤ (x5_1 : Int) := of_decide_eq_true XShort.asm
        have q116 : x5_1 < (l0.length : Int) := of_decide_eq_true XShort.asm
        obtain ⟨ad116, e116, hx116_0, hx116_1⟩ := at_T54 HR0.out x5_1 p116 q116
        cases e116
        replace p116 := eq_true p116
        replace q116 := eq_true q116
        have p117 : 0 ≤ (x5_1 : Int) := of_decide_eq_true XShort.asm
        have q117 : x5_1 < (l1.length : Int) := of_decide_eq_true XShort.asm
        obtain ⟨ad117, e117, hx117_0, hx117_1⟩ := at_T54 HR1.out x5_1 p117 q117
        cases e117
        replace p117 := eq_true p117
        replace q117 := eq_true q117
        go_wp2
        repeat (go_quiet (fail); try go_wp2)
        go_roundg k1
        case measure => have := HK1.out; omega
        case rel => exact ⟨(wrap64 (x5_1 + 1)), XShort.eqs, H', ⟨by have := HK1.out; omega⟩, by repeat (first | exact Drawn0.refl _ | apply Drawn0.step)⟩
      ·rw [if_neg c6] at H
       exact absurd H (by simp)
     ·rw [if_neg c5] at H
      exact absurd H (by simp)
    ·rw [if_neg c4] at H
     have c4b0 : decide (x5_1 < (l0.length : Int)) = false := decide_eq_false c4
     clear c4
     obtain rfl := Option.some.inj H
     go_wp2
     repeat (go_quiet (fail); try go_wp2)
     go_ret
     exact ⟨XShort.eqs, by repeat (first | exact Drawn0.refl _ | apply Drawn0.step)⟩
 ·rw [if_neg c3] at H
  have c3b0 : ((l0.length : Int) == (l1.length : Int)) = false := beq_eq_false_iff_ne.mpr c3
  have c3b1 : ((l0.length : Int) != (l1.length : Int)) = true := bne_iff_ne.mpr c3
  have c3b2 : (l0.length == l1.length) = false := by first | simpa using c3 | (simp at c3 ⊢; omega)
  obtain rfl := Option.some.inj H
  go_enter Tryd.func20, Tryd.ntmps20
  go_wp2
  repeat (go_quiet (fail); try go_wp2)
  go_ret
  exact ⟨XShort.eqs, by repeat (first | exact Drawn0.refl _ | apply Drawn0.step)⟩

/-! ### thistlelaw05_wakes: function 5 -/
def thistlelaw05_wakes.f (k : Nat)  : Option (Bool) := (seqs_Split.f k (([(⟨233, 233⟩ : S30)] : List (S30)))).bind fun bt121 => (if bt121.2 = 0 then (if (bt121.1.length : Int) = 1 then (if 0 < (bt121.1.length : Int) then ((thistlelaw05_sameSpans.f k (rd_L5 bt121.1 0) (([(⟨195, 195⟩ : S54), (⟨169, 169⟩ : S54)] : List (S54)))).bind fun t129 => (some t129)) else (none)) else (some false)) else (some false))
theorem thistlelaw05_wakes.mono : ∀ k, LeO (thistlelaw05_wakes.f k ) (thistlelaw05_wakes.f (k + 1) ) := by
 intro  k
 unfold thistlelaw05_wakes.f
 repeat' first
   | (with_reducible exact seqs_Split.mono _ _)
   | (with_reducible exact thistlelaw05_sameSpans.mono _ _ _)
   | (with_reducible exact LeO.refl _)
   | (with_reducible exact LeO.none _)
   | (with_reducible refine LeO.ite ?_ ?_)
   | (with_reducible refine LeO.bind ?_ (fun _ => ?_))
   | exact seqs_Split.mono _ _
   | exact thistlelaw05_sameSpans.mono _ _ _
   | exact LeO.none _
   | refine LeO.ite ?_ ?_
   | refine LeO.bind ?_ (fun _ => ?_)
set_option maxHeartbeats 8000000 in
set_option maxRecDepth 100000 in
theorem thistlelaw05_wakes.calls (k : Nat)  (r : Bool) (w : World) (h : thistlelaw05_wakes.f k  = some r) (hG : GOK w := by first | (with_reducible exact HG_.out) | exact GOK.below HG_.out (by repeat (first | (with_reducible exact Below.refl _ _) | (with_reducible first | exact HB.out | apply below_alloc | apply pw_below_drewN | apply below_drew1 | refine below_set ?_ (Aside0.out (by assumption))) | exact HB.out)) | exact GOK.drewN HG_.out _ | exact GOK.drewN (GOK.drewN HG_.out _) _ | exact GOK.drew HG_.out) :
  Calls Tryd.prog 5 #[] w fun e w' => e = .returned (.bool r) ∧ Below w.heap.size w w' := by
 have HG_ := Aside0.mk hG
 clear hG
 have hu30 := Tryd.underlying30
 have hu54 := Tryd.underlying54
 have HB := Aside0.mk (Below.refl w.heap.size w)
 have H : ((seqs_Split.f k (([(⟨233, 233⟩ : S30)] : List (S30)))).bind fun bt121 => (if bt121.2 = 0 then (if (bt121.1.length : Int) = 1 then (if 0 < (bt121.1.length : Int) then ((thistlelaw05_sameSpans.f k (rd_L5 bt121.1 0) (([(⟨195, 195⟩ : S54), (⟨169, 169⟩ : S54)] : List (S54)))).bind fun t129 => (some t129)) else (none)) else (some false)) else (some false))) = some r := h
 clear h
 obtain ⟨y118, hy118⟩ : ∃ y_ : List (S30), y_ = (([(⟨233, 233⟩ : S30)] : List (S30))) := ⟨_, rfl⟩
 replace H : ((seqs_Split.f k y118).bind fun bt121 => (if bt121.2 = 0 then (if (bt121.1.length : Int) = 1 then (if 0 < (bt121.1.length : Int) then ((thistlelaw05_sameSpans.f k (rd_L5 bt121.1 0) (([(⟨195, 195⟩ : S54), (⟨169, 169⟩ : S54)] : List (S54)))).bind fun t129 => (some t129)) else (none)) else (some false)) else (some false))) = some r := by first | (rw [hy118]; with_reducible exact H) | (have H2_ := (Option.bind_some _ _).symm.trans H; rw [hy118]; with_reducible exact H2_) | (have H2_ := (Option.bind_some _ _).symm.trans H; with_reducible exact H2_) | with_reducible exact H | (rw [hy118]; exact H) | exact H
 have Ny118 := Aside0.mk hy118
 clear hy118
 replace H := Option.bind_eq_some_iff.mp H
 obtain ⟨⟨t121, t122⟩, A10, H⟩ := H
 replace H : (if t122 = 0 then (if (t121.length : Int) = 1 then (if 0 < (t121.length : Int) then ((thistlelaw05_sameSpans.f k (rd_L5 t121 0) (([(⟨195, 195⟩ : S54), (⟨169, 169⟩ : S54)] : List (S54)))).bind fun t129 => (some t129)) else (none)) else (some false)) else (some false)) = some r := H
 have A1 := Aside0.mk A10
 clear A10
 by_cases c2 : t122 = 0
 ·rw [if_pos c2] at H
  have c2b0 : (t122 == 0) = true := beq_iff_eq.mpr c2
  have c2b1 : (t122 != 0) = false := bne_eq_false_iff_eq.mpr c2
  clear c2
  by_cases c3 : (t121.length : Int) = 1
  ·rw [if_pos c3] at H
   have c3b0 : ((t121.length : Int) == 1) = true := beq_iff_eq.mpr c3
   have c3b1 : ((t121.length : Int) != 1) = false := bne_eq_false_iff_eq.mpr c3
   clear c3
   by_cases c4 : 0 < (t121.length : Int)
   ·rw [if_pos c4] at H
    have c4b0 : decide (0 < (t121.length : Int)) = true := decide_eq_true c4
    have c4b1 : decide (0 < t121.length) = true := decide_eq_true (by omega)
    clear c4
    obtain ⟨y126, hy126⟩ : ∃ y_ : List (S54), y_ = (([(⟨195, 195⟩ : S54), (⟨169, 169⟩ : S54)] : List (S54))) := ⟨_, rfl⟩
    replace H : ((thistlelaw05_sameSpans.f k (rd_L5 t121 0) y126).bind fun t129 => (some t129)) = some r := by first | (rw [hy126]; with_reducible exact H) | (have H2_ := (Option.bind_some _ _).symm.trans H; rw [hy126]; with_reducible exact H2_) | (have H2_ := (Option.bind_some _ _).symm.trans H; with_reducible exact H2_) | with_reducible exact H | (rw [hy126]; exact H) | exact H
    have Ny126 := Aside0.mk hy126
    clear hy126
    replace H := Option.bind_eq_some_iff.mp H
    obtain ⟨t129, A50, H⟩ := H
    replace H : (some t129) = some r := H
    have A5 := Aside0.mk A50
    clear A50
    obtain rfl := Option.some.inj H
    go_enter Tryd.func5, Tryd.ntmps5
    go_wp2_with (first | ((with_reducible refine gate_dst (N := 5) rfl ?_); (try (refine gate_guard (by rfl) ?_; dsimp only)); refine Kd.R_lit k30 _ 30 ?hg (N := 5) ?hd (xs := ([(⟨233, 233⟩ : S30)] : List (S30))) (inner := [.int .i32 233, .int .i32 233]) (ok := fun _ => True) (okp := fun _ => True) ?hr ?hp (fun _ hk => hk) trivial (Below.refl _ _) (Nat.le_refl _) (by simp) ?_; (case hd => rfl); (case hg => rfl); (case hr => first | (go_simp; done) | (go_simp; rfl)); (case hp => exact (Reps.c2 (show Kd.M k30 _ _ _ (⟨233, 233⟩ : S30) [.int .i32 233, .int .i32 233] from (k30_mkM _ _ _ (⟨233, 233⟩ : S30) )) (Reps.none _ _))); intro v119 w6 ho7 hb hg_ hnew_; clear hg_ hnew_; (first | rw [← Ny118.out] at ho7 | (simp only [Int.reduceToNat] at ho7; rw [← Ny118.out] at ho7)); have n0_ := Aside0.mk (Kd.R_lower ho7 (below_size XShort.bel)); have n1_ := Aside0.mk (below_step XShort.bel hb); clear HB; have HO120 := n0_; have HB := n1_; clear n0_ n1_; clear hb ho7; obtain ⟨Ao8, co8, eo8⟩ := Kd.R_slice HO120.out; subst eo8) | ((with_reducible refine gate_callee (f := 8) rfl ?_); refine goesL_ (some 6) rfl rfl Tryd.func8 (by kernel_rfl) rfl #[.slice Ao8 y118.length co8] rfl (by (try simp only [List.map_toArray, List.map_cons, List.map_nil]); first | done | rfl | (simp only [List.length_drop, List.length_take]; rfl)) ?_; (with_reducible refine (seqs_Split.calls k _ _ y118 t121 t122 _ ?side1 ?side2 A1.out).mono ?_); (case side1 => repeat (first | exact (Kd.R_reads' HO120.out).2.2 | (with_reducible refine Kd.C_alloc ?_ _) | (with_reducible refine Kd.C_drewN ?_ _) | (with_reducible refine Kd.C_drew ?_))); (case side2 => exact (Kd.R_reads' HO120.out).2.1); rintro e w9 ⟨v123, rfl, ho0, hb⟩; refine ⟨_, rfl, ?_⟩; have n0_ := Aside0.mk (Kd.R_below (XShort.rr HO120.out) hb); have n1_ := Aside0.mk (Kd.S_lower ho0 (below_size XShort.bel)); have n2_ := Aside0.mk (below_step XShort.bel hb); clear HO120; clear HB; have HO120 := n0_; have HO124 := n1_; have HB := n2_; clear n0_ n1_ n2_; (try clear hb); (try clear hb2); (try clear hk); (try clear hi); (try clear ho0); obtain ⟨Ao10, co10, eo10⟩ := Kd.S_slice HO124.out; subst eo10; have p125 : 0 ≤ (0 : Int) := (by omega); have q125 : 0 < (t121.length : Int) := of_decide_eq_true XShort.asm; obtain ⟨ad125, A125_0, c125_0, e125, hx125_0, hl125_0, hi125_0⟩ := at_L5 (Kd.S_reads' HO124.out).2.2 0 p125 q125; cases e125; obtain ⟨ce125, hce125, hMe125, hcc125⟩ := Kd.S_get HO124.out [] 0 p125 (by first | exact q125 | exact of_decide_eq_true XShort.asm | (have e_ := (Kd.S_reads' HO124.out).1; omega)); obtain ⟨ve125_0, rfl, ge125_0⟩ := hMe125; have hv125_0 := hcc125 0 _ rfl; rw [Nat.add_zero, show ((Kd.slice 54 k54)).sz = 1 from rfl, Nat.mul_one] at hv125_0; replace hv125_0 := Option.some.inj (hv125_0.symm.trans hx125_0); rw [hv125_0] at ge125_0; have HL125_0 := Aside0.mk (show Kd.R k54 54 _ _ _ _ (rd_L5 t121 0) from ge125_0); clear hv125_0 ge125_0; clear hcc125 hce125; have qi125 : (0 < t121.length) = True := eq_true (by omega); (try rw [show ((0 : Int)).toNat = 0 from rfl] at hx125_0); (try rw [Addr.add_zero'] at hx125_0); have HR125_0 := Aside0.mk hi125_0; have HC125_0 := Aside0.mk hl125_0; clear hi125_0 hl125_0; replace p125 := eq_true p125; replace q125 := eq_true q125) | ((with_reducible refine gate_dst (N := 22) rfl ?_); (try (refine gate_guard (by rfl) ?_; dsimp only)); refine Kd.R_lit k54 _ 54 ?hg (N := 22) ?hd (xs := ([(⟨195, 195⟩ : S54), (⟨169, 169⟩ : S54)] : List (S54))) (inner := [.int .u8 195, .int .u8 195, .int .u8 169, .int .u8 169]) (ok := fun _ => True) (okp := fun _ => True) ?hr ?hp (fun _ hk => hk) trivial (Below.refl _ _) (Nat.le_refl _) (by simp) ?_; (case hd => rfl); (case hg => rfl); (case hr => first | (go_simp; done) | (go_simp; rfl)); (case hp => exact (Reps.c2 (show Kd.M k54 _ _ _ (⟨195, 195⟩ : S54) [.int .u8 195, .int .u8 195] from (k54_mkM _ _ _ (⟨195, 195⟩ : S54) )) (Reps.c2 (show Kd.M k54 _ _ _ (⟨169, 169⟩ : S54) [.int .u8 169, .int .u8 169] from (k54_mkM _ _ _ (⟨169, 169⟩ : S54) )) (Reps.none _ _)))); intro v127 w11 ho12 hb hg_ hnew_; clear hg_ hnew_; (first | rw [← Ny126.out] at ho12 | (simp only [Int.reduceToNat] at ho12; rw [← Ny126.out] at ho12)); have n0_ := Aside0.mk (Kd.R_below (XShort.rr HO120.out) hb); have n1_ := Aside0.mk (Kd.S_elder' (by (with_reducible repeat (first | apply Kd.S_alloc | apply Kd.S_drewN | apply Kd.S_drew)); exact HO124.out) (Kd.R_base ho12) hb); have n2_ := Aside0.mk (Kd.R_elder' (by (with_reducible repeat (first | apply Kd.R_alloc | apply Kd.R_drewN | apply Kd.R_drew)); exact HL125_0.out) (Kd.R_base ho12) hb); have n3_ := Aside0.mk (Kd.R_lower (Kd.R_new' ho12 (Kd.R_lt (by (with_reducible repeat (first | apply Kd.R_alloc | apply Kd.R_drewN | apply Kd.R_drew)); exact HL125_0.out))) (below_size XShort.bel)); have n4_ := Aside0.mk (Kd.C_below (by repeat (first | (with_reducible exact HR125_0.out) | (with_reducible refine Kd.C_alloc ?_ _) | (with_reducible refine Kd.C_drewN ?_ _) | (with_reducible refine Kd.C_drew ?_) | exact HR125_0.out)) hb); have n5_ := Aside0.mk (below_step XShort.bel hb); clear HO120; clear HO124; clear HL125_0; clear HR125_0; clear HB; have HO120 := n0_; have HO124 := n1_; have HL125_0 := n2_; have HO128 := n3_; have HR125_0 := n4_; have HB := n5_; clear n0_ n1_ n2_ n3_ n4_ n5_; clear hb ho12; obtain ⟨Ao13, co13, eo13⟩ := Kd.R_slice HO128.out; subst eo13) | (go_at_call 20; (with_reducible refine (thistlelaw05_sameSpans.calls k _ _ (rd_L5 t121 0) _ _ y126 t129 _ ?side1 ?side2 ?side3 ?side4 A5.out).mono ?_); (case side1 => repeat (first | exact (by repeat (first | (with_reducible exact HR125_0.out) | (with_reducible refine Kd.C_alloc ?_ _) | (with_reducible refine Kd.C_drewN ?_ _) | (with_reducible refine Kd.C_drew ?_) | exact HR125_0.out)) | (with_reducible refine Kd.C_alloc ?_ _) | (with_reducible refine Kd.C_drewN ?_ _) | (with_reducible refine Kd.C_drew ?_))); (case side2 => exact HC125_0.out); (case side3 => repeat (first | exact (Kd.R_reads' HO128.out).2.2 | (with_reducible refine Kd.C_alloc ?_ _) | (with_reducible refine Kd.C_drewN ?_ _) | (with_reducible refine Kd.C_drew ?_))); (case side4 => exact (Kd.R_reads' HO128.out).2.1); rintro e w' ⟨rfl, ⟨nd, rfl⟩⟩))
    go_ret
    exact ⟨by first | rfl | (simp [errW_none, errW_some] <;> rfl) | (simp [*, errW_none, errW_some] <;> rfl), XShort.bel⟩
   ·rw [if_neg c4] at H
    exact absurd H (by simp)
  ·rw [if_neg c3] at H
   have c3b0 : ((t121.length : Int) == 1) = false := beq_eq_false_iff_ne.mpr c3
   have c3b1 : ((t121.length : Int) != 1) = true := bne_iff_ne.mpr c3
   obtain rfl := Option.some.inj H
   go_enter Tryd.func5, Tryd.ntmps5
   go_wp2_with (first | ((with_reducible refine gate_dst (N := 5) rfl ?_); (try (refine gate_guard (by rfl) ?_; dsimp only)); refine Kd.R_lit k30 _ 30 ?hg (N := 5) ?hd (xs := ([(⟨233, 233⟩ : S30)] : List (S30))) (inner := [.int .i32 233, .int .i32 233]) (ok := fun _ => True) (okp := fun _ => True) ?hr ?hp (fun _ hk => hk) trivial (Below.refl _ _) (Nat.le_refl _) (by simp) ?_; (case hd => rfl); (case hg => rfl); (case hr => first | (go_simp; done) | (go_simp; rfl)); (case hp => exact (Reps.c2 (show Kd.M k30 _ _ _ (⟨233, 233⟩ : S30) [.int .i32 233, .int .i32 233] from (k30_mkM _ _ _ (⟨233, 233⟩ : S30) )) (Reps.none _ _))); intro v119 w14 ho15 hb hg_ hnew_; clear hg_ hnew_; (first | rw [← Ny118.out] at ho15 | (simp only [Int.reduceToNat] at ho15; rw [← Ny118.out] at ho15)); have n0_ := Aside0.mk (Kd.R_lower ho15 (below_size XShort.bel)); have n1_ := Aside0.mk (below_step XShort.bel hb); clear HB; have HO120 := n0_; have HB := n1_; clear n0_ n1_; clear hb ho15; obtain ⟨Ao16, co16, eo16⟩ := Kd.R_slice HO120.out; subst eo16) | ((with_reducible refine gate_callee (f := 8) rfl ?_); refine goesL_ (some 6) rfl rfl Tryd.func8 (by kernel_rfl) rfl #[.slice Ao16 y118.length co16] rfl (by (try simp only [List.map_toArray, List.map_cons, List.map_nil]); first | done | rfl | (simp only [List.length_drop, List.length_take]; rfl)) ?_; (with_reducible refine (seqs_Split.calls k _ _ y118 t121 t122 _ ?side1 ?side2 A1.out).mono ?_); (case side1 => repeat (first | exact (Kd.R_reads' HO120.out).2.2 | (with_reducible refine Kd.C_alloc ?_ _) | (with_reducible refine Kd.C_drewN ?_ _) | (with_reducible refine Kd.C_drew ?_))); (case side2 => exact (Kd.R_reads' HO120.out).2.1); rintro e w17 ⟨v123, rfl, ho0, hb⟩; refine ⟨_, rfl, ?_⟩; have n0_ := Aside0.mk (Kd.R_below (XShort.rr HO120.out) hb); have n1_ := Aside0.mk (Kd.S_lower ho0 (below_size XShort.bel)); have n2_ := Aside0.mk (below_step XShort.bel hb); clear HO120; clear HB; have HO120 := n0_; have HO124 := n1_; have HB := n2_; clear n0_ n1_ n2_; (try clear hb); (try clear hb2); (try clear hk); (try clear hi); (try clear ho0); obtain ⟨Ao18, co18, eo18⟩ := Kd.S_slice HO124.out; subst eo18))
   go_ret
   exact ⟨by first | rfl | (simp [errW_none, errW_some] <;> rfl) | (simp [*, errW_none, errW_some] <;> rfl), XShort.bel⟩
 ·rw [if_neg c2] at H
  have c2b0 : (t122 == 0) = false := beq_eq_false_iff_ne.mpr c2
  have c2b1 : (t122 != 0) = true := bne_iff_ne.mpr c2
  obtain rfl := Option.some.inj H
  go_enter Tryd.func5, Tryd.ntmps5
  go_wp2_with (first | ((with_reducible refine gate_dst (N := 5) rfl ?_); (try (refine gate_guard (by rfl) ?_; dsimp only)); refine Kd.R_lit k30 _ 30 ?hg (N := 5) ?hd (xs := ([(⟨233, 233⟩ : S30)] : List (S30))) (inner := [.int .i32 233, .int .i32 233]) (ok := fun _ => True) (okp := fun _ => True) ?hr ?hp (fun _ hk => hk) trivial (Below.refl _ _) (Nat.le_refl _) (by simp) ?_; (case hd => rfl); (case hg => rfl); (case hr => first | (go_simp; done) | (go_simp; rfl)); (case hp => exact (Reps.c2 (show Kd.M k30 _ _ _ (⟨233, 233⟩ : S30) [.int .i32 233, .int .i32 233] from (k30_mkM _ _ _ (⟨233, 233⟩ : S30) )) (Reps.none _ _))); intro v119 w19 ho20 hb hg_ hnew_; clear hg_ hnew_; (first | rw [← Ny118.out] at ho20 | (simp only [Int.reduceToNat] at ho20; rw [← Ny118.out] at ho20)); have n0_ := Aside0.mk (Kd.R_lower ho20 (below_size XShort.bel)); have n1_ := Aside0.mk (below_step XShort.bel hb); clear HB; have HO120 := n0_; have HB := n1_; clear n0_ n1_; clear hb ho20; obtain ⟨Ao21, co21, eo21⟩ := Kd.R_slice HO120.out; subst eo21) | ((with_reducible refine gate_callee (f := 8) rfl ?_); refine goesL_ (some 6) rfl rfl Tryd.func8 (by kernel_rfl) rfl #[.slice Ao21 y118.length co21] rfl (by (try simp only [List.map_toArray, List.map_cons, List.map_nil]); first | done | rfl | (simp only [List.length_drop, List.length_take]; rfl)) ?_; (with_reducible refine (seqs_Split.calls k _ _ y118 t121 t122 _ ?side1 ?side2 A1.out).mono ?_); (case side1 => repeat (first | exact (Kd.R_reads' HO120.out).2.2 | (with_reducible refine Kd.C_alloc ?_ _) | (with_reducible refine Kd.C_drewN ?_ _) | (with_reducible refine Kd.C_drew ?_))); (case side2 => exact (Kd.R_reads' HO120.out).2.1); rintro e w22 ⟨v123, rfl, ho0, hb⟩; refine ⟨_, rfl, ?_⟩; have n0_ := Aside0.mk (Kd.R_below (XShort.rr HO120.out) hb); have n1_ := Aside0.mk (Kd.S_lower ho0 (below_size XShort.bel)); have n2_ := Aside0.mk (below_step XShort.bel hb); clear HO120; clear HB; have HO120 := n0_; have HO124 := n1_; have HB := n2_; clear n0_ n1_ n2_; (try clear hb); (try clear hb2); (try clear hk); (try clear hi); (try clear ho0)))
  go_ret
  exact ⟨by first | rfl | (simp [errW_none, errW_some] <;> rfl) | (simp [*, errW_none, errW_some] <;> rfl), XShort.bel⟩

/-! ### thistleref02_blocks: function 36 -/
def thistleref02_blocks.f  : Option ((List (S61))) := some (([(⟨0, 55295⟩ : S61), (⟨57344, 1114111⟩ : S61), (⟨1114240, 1114367⟩ : S61)] : List (S61)))
set_option maxHeartbeats 8000000 in
set_option maxRecDepth 100000 in
theorem thistleref02_blocks.calls  (r : List (S61)) (w : World) (h : thistleref02_blocks.f  = some r) :
  Calls Tryd.prog 36 #[] w fun e w' => ∃ v0_ : Value, e = .returned (v0_) ∧ Kd.R k61 61 w' w.heap.size (fun _ => True) v0_ r ∧ Below w.heap.size w w' := by
 have hu61 := Tryd.underlying61
 have HB := Aside0.mk (Below.refl w.heap.size w)
 have H : (some (([(⟨0, 55295⟩ : S61), (⟨57344, 1114111⟩ : S61), (⟨1114240, 1114367⟩ : S61)] : List (S61)))) = some r := h
 clear h
 obtain ⟨y130, hy130⟩ : ∃ y_ : List (S61), y_ = (([(⟨0, 55295⟩ : S61), (⟨57344, 1114111⟩ : S61), (⟨1114240, 1114367⟩ : S61)] : List (S61))) := ⟨_, rfl⟩
 replace H : (some y130) = some r := by first | (rw [hy130]; with_reducible exact H) | (have H2_ := (Option.bind_some _ _).symm.trans H; rw [hy130]; with_reducible exact H2_) | (have H2_ := (Option.bind_some _ _).symm.trans H; with_reducible exact H2_) | with_reducible exact H | (rw [hy130]; exact H) | exact H
 have Ny130 := Aside0.mk hy130
 clear hy130
 obtain rfl := Option.some.inj H
 go_enter Tryd.func36, Tryd.ntmps36
 go_wp2_with (first | ((with_reducible refine gate_dst (N := 4) rfl ?_); refine Kd.R_lit k61 _ 61 ?hg (N := 4) ?hd (xs := ([(⟨0, 55295⟩ : S61), (⟨57344, 1114111⟩ : S61), (⟨1114240, 1114367⟩ : S61)] : List (S61))) (inner := [.int .i64 0, .int .i64 55295, .int .i64 57344, .int .i64 1114111, .int .i64 1114240, .int .i64 1114367]) (ok := fun _ => True) (okp := fun _ => True) ?hr ?hp (fun _ hk => hk) trivial (Below.refl _ _) (Nat.le_refl _) (by simp) ?_; (case hd => rfl); (case hg => rfl); (case hr => first | (go_simp; done) | (go_simp; rfl)); (case hp => exact (Reps.c2 (show Kd.M k61 _ _ _ (⟨0, 55295⟩ : S61) [.int .i64 0, .int .i64 55295] from (k61_mkM _ _ _ (⟨0, 55295⟩ : S61) )) (Reps.c2 (show Kd.M k61 _ _ _ (⟨57344, 1114111⟩ : S61) [.int .i64 57344, .int .i64 1114111] from (k61_mkM _ _ _ (⟨57344, 1114111⟩ : S61) )) (Reps.c2 (show Kd.M k61 _ _ _ (⟨1114240, 1114367⟩ : S61) [.int .i64 1114240, .int .i64 1114367] from (k61_mkM _ _ _ (⟨1114240, 1114367⟩ : S61) )) (Reps.none _ _))))); intro v131 w1 ho2 hb hg_ hnew_; clear hg_ hnew_; (first | rw [← Ny130.out] at ho2 | (simp only [Int.reduceToNat] at ho2; rw [← Ny130.out] at ho2)); have n0_ := Aside0.mk (Kd.R_lower ho2 (below_size XShort.bel)); have n1_ := Aside0.mk (below_step XShort.bel hb); clear HB; have HO132 := n0_; have HB := n1_; clear n0_ n1_; clear hb ho2))
 go_ret
 exact ⟨_, by first | rfl | (simp [errW_none, errW_some] <;> rfl) | (simp [*, errW_none, errW_some] <;> rfl), by (with_reducible repeat (first | apply Kd.R_alloc | apply Kd.R_drewN | apply Kd.R_drew)); exact HO132.out, XShort.bel⟩

/-! ### thistleref02_least: function 51 -/
def thistleref02_least.f (a0 : Int) (a1 : Int) : Option (Int) := if a0 < a1 then (some a0) else (some a1)
set_option maxHeartbeats 8000000 in
set_option maxRecDepth 100000 in
theorem thistleref02_least.calls (a0 : Int) (a1 : Int) (r : Int) (w : World) (h : thistleref02_least.f a0 a1 = some r) :
  Calls Tryd.prog 51 #[.int .i64 a0, .int .i64 a1] w fun e w' => e = .returned (.int .i64 r) ∧ Drawn0 w w' := by
 have H : (if a0 < a1 then (some a0) else (some a1)) = some r := h
 clear h
 by_cases c3 : a0 < a1
 ·rw [if_pos c3] at H
  have c3b0 : decide (a0 < a1) = true := decide_eq_true c3
  clear c3
  obtain rfl := Option.some.inj H
  go_enter Tryd.func51, Tryd.ntmps51
  go_wp2
  go_ret
  exact ⟨XShort.eqs, by repeat (first | exact Drawn0.refl _ | apply Drawn0.step)⟩
 ·rw [if_neg c3] at H
  have c3b0 : decide (a0 < a1) = false := decide_eq_false c3
  clear c3
  obtain rfl := Option.some.inj H
  go_enter Tryd.func51, Tryd.ntmps51
  go_wp2
  go_ret
  exact ⟨XShort.eqs, by repeat (first | exact Drawn0.refl _ | apply Drawn0.step)⟩

/-! ### thistleref02_merged: function 39 -/
mutual
def thistleref02_merged.l0 : Nat → List Int → Int → Option (List Int)
 | 0, _, _ => none
 | k + 1, x0, x3 => if x3 < (x0.length : Int) then (if 0 ≤ (x0.length : Int) then (if ((x0.length : Int) : Int).toNat ≤ 35184372088832 then (thistleref02_merged.l1 k x0 x3 (([] : List Int)) 0) else (none)) else (none)) else (some x0)
def thistleref02_merged.l1 : Nat → List Int → Int → List Int → Int → Option (List Int)
 | 0, _, _, _, _ => none
 | k + 1, x0, x3, x4, x5 => if x5 < (x0.length : Int) then ((thistleref02_least.f (wrap64 (x5 + x3)) (x0.length : Int)).bind fun t136 => ((thistleref02_least.f (wrap64 (x5 + (wrap64 (2 * x3)))) (x0.length : Int)).bind fun t137 => (thistleref02_merged.l2 k x0 x3 x4 x5 t136 t137 x5 t136))) else (thistleref02_merged.l0 k x4 (wrap64 (2 * x3)))
def thistleref02_merged.l2 : Nat → List Int → Int → List Int → Int → Int → Int → Int → Int → Option (List Int)
 | 0, _, _, _, _, _, _, _, _ => none
 | k + 1, x0, x3, x4, x5, x6, x7, x8, x9 => if x8 < x6 then (thistleref02_merged.j3 k x0 x3 x4 x5 x6 x7 x8 x9 true) else (thistleref02_merged.j3 k x0 x3 x4 x5 x6 x7 x8 x9 (decide (x9 < x7)))
def thistleref02_merged.j3 : Nat → List Int → Int → List Int → Int → Int → Int → Int → Int → Bool → Option (List Int)
 | 0, _, _, _, _, _, _, _, _, _ => none
 | k + 1, x0, x3, x4, x5, x6, x7, x8, x9, x49 => if x49 = true then (if x9 = x7 then (if 0 ≤ x8 then (if x8 < (x0.length : Int) then (if x4.length < 17592186044416 then (thistleref02_merged.l2 k x0 x3 (x4 ++ [rd x0 x8]) x5 x6 x7 (wrap64 (x8 + 1)) x9) else (none)) else (none)) else (none)) else (if x8 < x6 then (if 0 ≤ x8 then (if x8 < (x0.length : Int) then (if 0 ≤ x9 then (if x9 < (x0.length : Int) then (if (rd x0 x8) ≤ (rd x0 x9) then (if x4.length < 17592186044416 then (thistleref02_merged.l2 k x0 x3 (x4 ++ [rd x0 x8]) x5 x6 x7 (wrap64 (x8 + 1)) x9) else (none)) else (if x4.length < 17592186044416 then (thistleref02_merged.l2 k x0 x3 (x4 ++ [rd x0 x9]) x5 x6 x7 x8 (wrap64 (x9 + 1))) else (none))) else (none)) else (none)) else (none)) else (none)) else (if 0 ≤ x9 then (if x9 < (x0.length : Int) then (if x4.length < 17592186044416 then (thistleref02_merged.l2 k x0 x3 (x4 ++ [rd x0 x9]) x5 x6 x7 x8 (wrap64 (x9 + 1))) else (none)) else (none)) else (none)))) else (thistleref02_merged.l1 k x0 x3 x4 (wrap64 (x5 + (wrap64 (2 * x3)))))
end
def thistleref02_merged.f (k : Nat) (l0 : List Int) : Option (List Int) := thistleref02_merged.l0 k l0 1
set_option maxHeartbeats 8000000 in
set_option maxRecDepth 100000 in
theorem thistleref02_merged.calls (k : Nat) (P0_ : Nat → Prop) (A0 : Option Addr) (c0 : Nat) (l0 : List Int) (r : List Int) (w : World) (hs0 : Kd.V (Kd.int .i64) 3 w w.heap.size (fun k_ => P0_ k_) (.slice A0 l0.length c0) l0) (h : thistleref02_merged.f k l0 = some r) :
  Calls Tryd.prog 39 #[.slice A0 l0.length c0] w fun e w' => ∃ v0_ : Value, e = .returned (v0_) ∧ Kd.V (Kd.int .i64) 3 w' w.heap.size (fun k_ => (P0_ k_ ∨ w.heap.size ≤ k_)) v0_ r ∧ Below w.heap.size w w' := by
 have HO0 := Aside0.mk (show Kd.V (Kd.int .i64) 3 w w.heap.size (fun k_ => (P0_ k_ ∨ w.heap.size ≤ k_)) (.slice A0 l0.length c0) l0 from Kd.V_mono hs0 (fun k_ hk => .inl hk))
 have HB := Aside0.mk (Below.refl w.heap.size w)
 have H : (thistleref02_merged.l0 k l0 1) = some r := h
 clear h
 have H' := Aside0.mk H
 clear H
 go_enter Tryd.func39, Tryd.ntmps39
 go_wp2
 repeat (go_quiet (fail); try go_wp2)
 go_loopg [0, 3] k (fun kq v0 v3 w' => ∃ (x0_1 : List Int) (x3_1 : Int), v3 = .int .i64 x3_1 ∧ Aside0 (thistleref02_merged.l0 kq x0_1 x3_1 = some r) ∧ Aside0 (kq ≤ k) ∧ Aside0 (Kd.V (Kd.int .i64) 3 w' w.heap.size (fun k_ => (P0_ k_ ∨ w.heap.size ≤ k_)) v0 x0_1) ∧ Aside0 (Below w.heap.size w w'))
 case atStart => exact ⟨(l0), (1), XShort.eqs, H', ⟨Nat.le_refl _⟩, ⟨by (with_reducible repeat (first | apply Kd.V_alloc | apply Kd.V_drewN | apply Kd.V_drew)); exact HO0.out⟩, ⟨XShort.bel⟩⟩
 case round =>
  clear H'
  obtain ⟨x0_1, x3_1, rfl, HA, HK1, HO_0, HB⟩ := hrel
  cases gk with
  | zero => exact absurd HA.out (by simp [thistleref02_merged.l0])
  | succ k1 =>
   have H := HA.out
   clear HA
   simp only [thistleref02_merged.l0] at H
   by_cases c2 : x3_1 < (x0_1.length : Int)
   ·rw [if_pos c2] at H
    have c2b0 : decide (x3_1 < (x0_1.length : Int)) = true := decide_eq_true c2
    clear c2
    by_cases c3 : 0 ≤ (x0_1.length : Int)
    ·rw [if_pos c3] at H
     have c3b0 := eq_true c3
     have c3b1 : decide (0 ≤ (x0_1.length : Int)) = true := decide_eq_true c3
     clear c3
     by_cases c4 : ((x0_1.length : Int) : Int).toNat ≤ 35184372088832
     ·rw [if_pos c4] at H
      have c4b0 := eq_true c4
      have c4b1 : decide (((x0_1.length : Int) : Int).toNat ≤ 35184372088832) = true := decide_eq_true c4
      clear c4
      obtain ⟨y133, hy133⟩ : ∃ y_ : List Int, y_ = (([] : List Int)) := ⟨_, rfl⟩
      replace H : (thistleref02_merged.l1 k1 x0_1 x3_1 y133 0) = some r := by first | (rw [hy133]; with_reducible exact H) | (have H2_ := (Option.bind_some _ _).symm.trans H; rw [hy133]; with_reducible exact H2_) | (have H2_ := (Option.bind_some _ _).symm.trans H; with_reducible exact H2_) | with_reducible exact H | (rw [hy133]; exact H) | exact H
      have Ny133 := Aside0.mk hy133
      clear hy133
      have H' := Aside0.mk H
      clear H
      obtain ⟨Ao5, co5, eo5⟩ := Kd.V_slice HO_0.out
      subst eo5
      go_wp2_with (first | ((with_reducible refine gate_dst (N := 18) rfl ?_); refine XLib.R_make0 (Kd.int .i64) _ 3 rfl (N := 18) rfl 77 _ _ rfl (x0_1.length : Int) rfl rfl Tryd.underlying77 (.int .i64 0) 8 info3 rfl (by decide) (by omega) (ok := fun _ => True) (okp := fun _ => True) (fun _ hk => hk) trivial (of_decide_eq_true XShort.asm) (Nat.le_trans (Nat.mul_le_mul_right _ (of_decide_eq_true XShort.asm : (x0_1.length : Int).toNat ≤ 35184372088832)) (by omega)) (Below.refl _ _) (Nat.le_refl _) ?_; intro v134 w6 ho7 hb hg_ hnew_; clear hg_ hnew_; (first | rw [← Ny133.out] at ho7 | (simp only [Int.reduceToNat] at ho7; rw [← Ny133.out] at ho7)); have n0_ := Aside0.mk (Kd.V_elder' (XShort.vv HO_0.out) (Kd.R_base ho7) hb); have n1_ := Aside0.mk (Kd.R_lower (Kd.R_newM (M := fun k_ => (w.heap.size ≤ k_)) ho7 (below_size XShort.bel) (fun k_ h_ => h_)) (below_size XShort.bel)); have n2_ := Aside0.mk (below_step XShort.bel hb); clear HO_0; clear HB; have HO_0 := n0_; have HO135 := n1_; have HB := n2_; clear n0_ n1_ n2_; clear hb ho7))
      repeat (go_quiet (first | ((with_reducible refine gate_dst (N := 18) rfl ?_); refine XLib.R_make0 (Kd.int .i64) _ 3 rfl (N := 18) rfl 77 _ _ rfl (x0_1.length : Int) rfl rfl Tryd.underlying77 (.int .i64 0) 8 info3 rfl (by decide) (by omega) (ok := fun _ => True) (okp := fun _ => True) (fun _ hk => hk) trivial (of_decide_eq_true XShort.asm) (Nat.le_trans (Nat.mul_le_mul_right _ (of_decide_eq_true XShort.asm : (x0_1.length : Int).toNat ≤ 35184372088832)) (by omega)) (Below.refl _ _) (Nat.le_refl _) ?_; intro v134 w6 ho7 hb hg_ hnew_; clear hg_ hnew_; (first | rw [← Ny133.out] at ho7 | (simp only [Int.reduceToNat] at ho7; rw [← Ny133.out] at ho7)); have n0_ := Aside0.mk (Kd.V_elder' (XShort.vv HO_0.out) (Kd.R_base ho7) hb); have n1_ := Aside0.mk (Kd.R_lower (Kd.R_newM (M := fun k_ => (w.heap.size ≤ k_)) ho7 (below_size XShort.bel) (fun k_ h_ => h_)) (below_size XShort.bel)); have n2_ := Aside0.mk (below_step XShort.bel hb); clear HO_0; clear HB; have HO_0 := n0_; have HO135 := n1_; have HB := n2_; clear n0_ n1_ n2_; clear hb ho7)); try go_wp2_with (first | ((with_reducible refine gate_dst (N := 18) rfl ?_); refine XLib.R_make0 (Kd.int .i64) _ 3 rfl (N := 18) rfl 77 _ _ rfl (x0_1.length : Int) rfl rfl Tryd.underlying77 (.int .i64 0) 8 info3 rfl (by decide) (by omega) (ok := fun _ => True) (okp := fun _ => True) (fun _ hk => hk) trivial (of_decide_eq_true XShort.asm) (Nat.le_trans (Nat.mul_le_mul_right _ (of_decide_eq_true XShort.asm : (x0_1.length : Int).toNat ≤ 35184372088832)) (by omega)) (Below.refl _ _) (Nat.le_refl _) ?_; intro v134 w6 ho7 hb hg_ hnew_; clear hg_ hnew_; (first | rw [← Ny133.out] at ho7 | (simp only [Int.reduceToNat] at ho7; rw [← Ny133.out] at ho7)); have n0_ := Aside0.mk (Kd.V_elder' (XShort.vv HO_0.out) (Kd.R_base ho7) hb); have n1_ := Aside0.mk (Kd.R_lower (Kd.R_newM (M := fun k_ => (w.heap.size ≤ k_)) ho7 (below_size XShort.bel) (fun k_ h_ => h_)) (below_size XShort.bel)); have n2_ := Aside0.mk (below_step XShort.bel hb); clear HO_0; clear HB; have HO_0 := n0_; have HO135 := n1_; have HB := n2_; clear n0_ n1_ n2_; clear hb ho7)))
      go_loopg [4, 5] k1 (fun kq v4 v5 w' => ∃ (x4_2 : List Int) (x5_2 : Int), v5 = .int .i64 x5_2 ∧ Aside0 (thistleref02_merged.l1 kq x0_1 x3_1 x4_2 x5_2 = some r) ∧ Aside0 (kq ≤ k1) ∧ Aside0 (Kd.V (Kd.int .i64) 3 w' w.heap.size (fun k_ => (P0_ k_ ∨ w.heap.size ≤ k_) ∧ some k_ ≠ (v4 : Value).ownBlock) (.slice Ao5 x0_1.length co5) x0_1) ∧ Aside0 (Kd.R (Kd.int .i64) 3 w' w.heap.size (fun k_ => (w.heap.size ≤ k_)) v4 x4_2) ∧ Aside0 (Below w.heap.size w w'))
      case atStart => exact ⟨(y133), (0), XShort.eqs, H', ⟨Nat.le_refl _⟩, ⟨by (with_reducible repeat (first | apply Kd.V_alloc | apply Kd.V_drewN | apply Kd.V_drew)); exact HO_0.out⟩, ⟨by (with_reducible repeat (first | apply Kd.R_alloc | apply Kd.R_drewN | apply Kd.R_drew)); exact Kd.R_mono HO135.out (fun _ hk => hk.1)⟩, ⟨XShort.bel⟩⟩
      case round =>
       clear H'
       try clear c2
       try clear c2b0
       try clear p2
       try clear c3
       try clear c3b0
       try clear c3b1
       try clear c4
       try clear c4b0
       try clear c4b1
       obtain ⟨x4_2, x5_2, rfl, HA, HK2, HO_0, HO_4, HB⟩ := hrel
       cases gk with
       | zero => exact absurd HA.out (by simp [thistleref02_merged.l1])
       | succ k2 =>
        have H := HA.out
        clear HA
        simp only [thistleref02_merged.l1] at H
        by_cases c8 : x5_2 < (x0_1.length : Int)
        ·rw [if_pos c8] at H
         have c8b0 : decide (x5_2 < (x0_1.length : Int)) = true := decide_eq_true c8
         clear c8
         replace H := Option.bind_eq_some_iff.mp H
         obtain ⟨t136, A90, H⟩ := H
         replace H : ((thistleref02_least.f (wrap64 (x5_2 + (wrap64 (2 * x3_1)))) (x0_1.length : Int)).bind fun t137 => (thistleref02_merged.l2 k2 x0_1 x3_1 x4_2 x5_2 t136 t137 x5_2 t136)) = some r := H
         have A9 := Aside0.mk A90
         clear A90
         replace H := Option.bind_eq_some_iff.mp H
         obtain ⟨t137, A100, H⟩ := H
         replace H : (thistleref02_merged.l2 k2 x0_1 x3_1 x4_2 x5_2 t136 t137 x5_2 t136) = some r := H
         have A10 := Aside0.mk A100
         clear A100
         have H' := Aside0.mk H
         clear H
         go_wp2_with (first | (go_at_call 51; (with_reducible refine (thistleref02_least.calls (wrap64 (x5_2 + x3_1)) (x0_1.length : Int) t136 _ A9.out).mono ?_); rintro e w' ⟨rfl, ⟨nd, rfl⟩⟩; (try first | exact ⟨rfl, _, World.drewN_drewN _ _ _⟩ | exact ⟨rfl, _, Eq.trans (World.drewN_drewN _ _ _) (congrArg (World.drewN _) (Nat.add_assoc _ _ _))⟩)) | (go_at_call 51; (with_reducible refine (thistleref02_least.calls (wrap64 (x5_2 + (wrap64 (2 * x3_1)))) (x0_1.length : Int) t137 _ A10.out).mono ?_); rintro e w' ⟨rfl, ⟨nd, rfl⟩⟩; (try first | exact ⟨rfl, _, World.drewN_drewN _ _ _⟩ | exact ⟨rfl, _, Eq.trans (World.drewN_drewN _ _ _) (congrArg (World.drewN _) (Nat.add_assoc _ _ _))⟩)))
         repeat (go_quiet (first | (go_at_call 51; (with_reducible refine (thistleref02_least.calls (wrap64 (x5_2 + x3_1)) (x0_1.length : Int) t136 _ A9.out).mono ?_); rintro e w' ⟨rfl, ⟨nd, rfl⟩⟩; (try first | exact ⟨rfl, _, World.drewN_drewN _ _ _⟩ | exact ⟨rfl, _, Eq.trans (World.drewN_drewN _ _ _) (congrArg (World.drewN _) (Nat.add_assoc _ _ _))⟩)) | (go_at_call 51; (with_reducible refine (thistleref02_least.calls (wrap64 (x5_2 + (wrap64 (2 * x3_1)))) (x0_1.length : Int) t137 _ A10.out).mono ?_); rintro e w' ⟨rfl, ⟨nd, rfl⟩⟩; (try first | exact ⟨rfl, _, World.drewN_drewN _ _ _⟩ | exact ⟨rfl, _, Eq.trans (World.drewN_drewN _ _ _) (congrArg (World.drewN _) (Nat.add_assoc _ _ _))⟩))); try go_wp2_with (first | (go_at_call 51; (with_reducible refine (thistleref02_least.calls (wrap64 (x5_2 + x3_1)) (x0_1.length : Int) t136 _ A9.out).mono ?_); rintro e w' ⟨rfl, ⟨nd, rfl⟩⟩; (try first | exact ⟨rfl, _, World.drewN_drewN _ _ _⟩ | exact ⟨rfl, _, Eq.trans (World.drewN_drewN _ _ _) (congrArg (World.drewN _) (Nat.add_assoc _ _ _))⟩)) | (go_at_call 51; (with_reducible refine (thistleref02_least.calls (wrap64 (x5_2 + (wrap64 (2 * x3_1)))) (x0_1.length : Int) t137 _ A10.out).mono ?_); rintro e w' ⟨rfl, ⟨nd, rfl⟩⟩; (try first | exact ⟨rfl, _, World.drewN_drewN _ _ _⟩ | exact ⟨rfl, _, Eq.trans (World.drewN_drewN _ _ _) (congrArg (World.drewN _) (Nat.add_assoc _ _ _))⟩))))
         go_loopg [4, 8, 9] k2 (fun kq v4 v8 v9 w' => ∃ (x4_3 : List Int) (x8_3 : Int) (x9_3 : Int), v8 = .int .i64 x8_3 ∧ v9 = .int .i64 x9_3 ∧ Aside0 (thistleref02_merged.l2 kq x0_1 x3_1 x4_3 x5_2 t136 t137 x8_3 x9_3 = some r) ∧ Aside0 (kq ≤ k2) ∧ Aside0 (Kd.V (Kd.int .i64) 3 w' w.heap.size (fun k_ => (P0_ k_ ∨ w.heap.size ≤ k_) ∧ some k_ ≠ (v4 : Value).ownBlock) (.slice Ao5 x0_1.length co5) x0_1) ∧ Aside0 (Kd.R (Kd.int .i64) 3 w' w.heap.size (fun k_ => (w.heap.size ≤ k_)) v4 x4_3) ∧ Aside0 (Below w.heap.size w w'))
         case atStart => exact ⟨(x4_2), (x5_2), (t136), XShort.eqs, XShort.eqs, H', ⟨Nat.le_refl _⟩, ⟨by (with_reducible repeat (first | apply Kd.V_alloc | apply Kd.V_drewN | apply Kd.V_drew)); exact HO_0.out⟩, ⟨by (with_reducible repeat (first | apply Kd.R_alloc | apply Kd.R_drewN | apply Kd.R_drew)); exact HO_4.out⟩, ⟨XShort.bel⟩⟩
         case round =>
          clear H'
          try clear c2
          try clear c2b0
          try clear p2
          try clear c3
          try clear c3b0
          try clear c3b1
          try clear c4
          try clear c4b0
          try clear c4b1
          try clear p6
          try clear c8
          try clear c8b0
          try clear p2
          obtain ⟨x4_3, x8_3, x9_3, rfl, rfl, HA, HK3, HO_0, HO_4, HB⟩ := hrel
          cases gk with
          | zero => exact absurd HA.out (by simp [thistleref02_merged.l2])
          | succ k3 =>
           have H := HA.out
           clear HA
           simp only [thistleref02_merged.l2] at H
           have HC11 := Aside0.mk H
           clear H
           go_upto_region 12 with (fail)
           repeat (go_quiet (fail); go_upto_region 12 with (fail))
           go_cut [49] (fun v49 wc => ∃ (kq : Nat) (x49_10 : Bool), v49 = .bool x49_10 ∧ Aside0 (thistleref02_merged.j3 kq x0_1 x3_1 x4_3 x5_2 t136 t137 x8_3 x9_3 x49_10 = some r) ∧ Aside0 (kq ≤ k3) ∧ Aside0 (Kd.V (Kd.int .i64) 3 wc w.heap.size (fun k_ => (P0_ k_ ∨ w.heap.size ≤ k_) ∧ some k_ ≠ (u4 : Value).ownBlock) (.slice Ao5 x0_1.length co5) x0_1) ∧ Aside0 (Kd.R (Kd.int .i64) 3 wc w.heap.size (fun k_ => (w.heap.size ≤ k_)) u4 x4_3) ∧ Aside0 (Below w.heap.size w wc))
           case first =>
            have H := HC11.out
            clear HC11
            by_cases c12 : x8_3 < t136
            ·rw [if_pos c12] at H
             have c12b0 : decide (x8_3 < t136) = true := decide_eq_true c12
             clear c12
             (first | rw [c12b0] | (simp only [i64_w, i32_w]; rw [c12b0]) | skip)
             have H' := Aside0.mk H
             clear H
             go_wp2
             repeat (go_quiet (fail); try go_wp2)
             go_meet
             case rel => exact ⟨_, (true), XShort.eqs, H', ⟨by have := HK1.out; have := HK2.out; have := HK3.out; first | omega | exact Nat.le_refl _⟩, ⟨by (with_reducible repeat (first | apply Kd.V_alloc | apply Kd.V_drewN | apply Kd.V_drew)); exact HO_0.out⟩, ⟨by (with_reducible repeat (first | apply Kd.R_alloc | apply Kd.R_drewN | apply Kd.R_drew)); exact HO_4.out⟩, ⟨XShort.bel⟩⟩
            ·rw [if_neg c12] at H
             have c12b0 : decide (x8_3 < t136) = false := decide_eq_false c12
             clear c12
             (first | rw [c12b0] | (simp only [i64_w, i32_w]; rw [c12b0]) | skip)
             have H' := Aside0.mk H
             clear H
             go_wp2
             repeat (go_quiet (fail); try go_wp2)
             go_meet
             case rel => exact ⟨_, (decide (x9_3 < t137)), XShort.eqs, H', ⟨by have := HK1.out; have := HK2.out; have := HK3.out; first | omega | exact Nat.le_refl _⟩, ⟨by (with_reducible repeat (first | apply Kd.V_alloc | apply Kd.V_drewN | apply Kd.V_drew)); exact HO_0.out⟩, ⟨by (with_reducible repeat (first | apply Kd.R_alloc | apply Kd.R_drewN | apply Kd.R_drew)); exact HO_4.out⟩, ⟨XShort.bel⟩⟩
           case rest =>
            clear HC11
            try clear c1
            try clear c2
            try clear c2b0
            try clear p2
            try clear c3
            try clear c3b0
            try clear c3b1
            try clear c4
            try clear c4b0
            try clear c4b1
            try clear p6
            try clear c8
            try clear c8b0
            try clear c12
            try clear c12b0
            try clear p2
            try clear p6
            obtain ⟨kq, x49_10, rfl, HA, HJ10, HO_0, HO_4, HB⟩ := hcut
            cases kq with
            | zero => exact absurd HA.out (by simp [thistleref02_merged.j3])
            | succ kj10 =>
             have H := HA.out
             clear HA
             simp only [thistleref02_merged.j3] at H
             by_cases c13 : x49_10 = true
             ·subst c13
              have H1 : (if x9_3 = t137 then (if 0 ≤ x8_3 then (if x8_3 < (x0_1.length : Int) then (if x4_3.length < 17592186044416 then (thistleref02_merged.l2 kj10 x0_1 x3_1 (x4_3 ++ [rd x0_1 x8_3]) x5_2 t136 t137 (wrap64 (x8_3 + 1)) x9_3) else (none)) else (none)) else (none)) else (if x8_3 < t136 then (if 0 ≤ x8_3 then (if x8_3 < (x0_1.length : Int) then (if 0 ≤ x9_3 then (if x9_3 < (x0_1.length : Int) then (if (rd x0_1 x8_3) ≤ (rd x0_1 x9_3) then (if x4_3.length < 17592186044416 then (thistleref02_merged.l2 kj10 x0_1 x3_1 (x4_3 ++ [rd x0_1 x8_3]) x5_2 t136 t137 (wrap64 (x8_3 + 1)) x9_3) else (none)) else (if x4_3.length < 17592186044416 then (thistleref02_merged.l2 kj10 x0_1 x3_1 (x4_3 ++ [rd x0_1 x9_3]) x5_2 t136 t137 x8_3 (wrap64 (x9_3 + 1))) else (none))) else (none)) else (none)) else (none)) else (none)) else (if 0 ≤ x9_3 then (if x9_3 < (x0_1.length : Int) then (if x4_3.length < 17592186044416 then (thistleref02_merged.l2 kj10 x0_1 x3_1 (x4_3 ++ [rd x0_1 x9_3]) x5_2 t136 t137 x8_3 (wrap64 (x9_3 + 1))) else (none)) else (none)) else (none)))) = some r := by rw [if_pos rfl] at H; exact H
              clear H
              have H := H1
              clear H1
              by_cases c14 : x9_3 = t137
              ·rw [if_pos c14] at H
               have c14b0 : (x9_3 == t137) = true := beq_iff_eq.mpr c14
               have c14b1 : (x9_3 != t137) = false := bne_eq_false_iff_eq.mpr c14
               clear c14
               by_cases c15 : 0 ≤ x8_3
               ·rw [if_pos c15] at H
                have c15b0 : decide (0 ≤ x8_3) = true := decide_eq_true c15
                clear c15
                by_cases c16 : x8_3 < (x0_1.length : Int)
                ·rw [if_pos c16] at H
                 have c16b0 : decide (x8_3 < (x0_1.length : Int)) = true := decide_eq_true c16
                 clear c16
                 by_cases c17 : x4_3.length < 17592186044416
                 ·rw [if_pos c17] at H
                  have LMc17 := Aside0.mk c17
                  clear c17
                  obtain ⟨y139, hy139⟩ : ∃ y_ : List Int, y_ = (x4_3 ++ [rd x0_1 x8_3]) := ⟨_, rfl⟩
                  replace H : (thistleref02_merged.l2 kj10 x0_1 x3_1 y139 x5_2 t136 t137 (wrap64 (x8_3 + 1)) x9_3) = some r := by first | (rw [hy139]; with_reducible exact H) | (have H2_ := (Option.bind_some _ _).symm.trans H; rw [hy139]; with_reducible exact H2_) | (have H2_ := (Option.bind_some _ _).symm.trans H; with_reducible exact H2_) | with_reducible exact H | (rw [hy139]; exact H) | exact H
                  have Ny139 := Aside0.mk hy139
                  clear hy139
                  have H' := Aside0.mk H
                  clear H
                  have p138 : 0 ≤ (x8_3 : Int) := of_decide_eq_true XShort.asm
                  have q138 : x8_3 < (x0_1.length : Int) := of_decide_eq_true XShort.asm
                  obtain ⟨ad138, e138, hx138_0⟩ := Kd.at_int (Kd.V_reads' HO_0.out).2.2 x8_3 p138 q138
                  cases e138
                  replace p138 := eq_true p138
                  replace q138 := eq_true q138
                  go_wp2_with (first | ((with_reducible refine gate_builtin (b := .append) (xs := #[.tmp 69, .tmp 74]) rfl ?_); at_builtin; refine Kd.R_append (Kd.int .i64) (w0 := w) w.heap.size rfl (.tmp 69) (.tmp 74) 77 3 (.int .i64 0) 8 rfl Tryd.underlying77 info3 rfl (by decide) (by omega) u4 x4_3 (rd x0_1 x8_3) [.int .i64 (rd x0_1 x8_3)] (fun k_ => (w.heap.size ≤ k_)) (fun _ => False) rfl rfl ?aP (fun _ hk => hk.elim) ?aF ?aO ?aB ?aS ?aL ?_; (case aP => exact rfl); (case aB => exact XShort.bel); (case aF => exact (fun k_ hk => (Nat.le_trans (below_size XShort.bel) hk))); (case aO => exact (XShort.rr HO_4.out)); (case aS => exact (below_size XShort.bel)); (case aL => have := LMc17.out; omega); intro v140 w18 ho hb hg hat; rw [← Ny139.out] at ho; have n0_ := Aside0.mk (Kd.V_afterv (ok := (fun k_ => (P0_ k_ ∨ w.heap.size ≤ k_))) (XShort.vv HO_0.out) hg hat); have n1_ := Aside0.mk (hb); have n2_ := Aside0.mk (ho); clear HO_0; clear HB; clear HO_4; have HO_0 := n0_; have HB := n1_; have HO141 := n2_; clear n0_ n1_ n2_; clear ho hb hg hat))
                  repeat (go_quiet (first | ((with_reducible refine gate_builtin (b := .append) (xs := #[.tmp 69, .tmp 74]) rfl ?_); at_builtin; refine Kd.R_append (Kd.int .i64) (w0 := w) w.heap.size rfl (.tmp 69) (.tmp 74) 77 3 (.int .i64 0) 8 rfl Tryd.underlying77 info3 rfl (by decide) (by omega) u4 x4_3 (rd x0_1 x8_3) [.int .i64 (rd x0_1 x8_3)] (fun k_ => (w.heap.size ≤ k_)) (fun _ => False) rfl rfl ?aP (fun _ hk => hk.elim) ?aF ?aO ?aB ?aS ?aL ?_; (case aP => exact rfl); (case aB => exact XShort.bel); (case aF => exact (fun k_ hk => (Nat.le_trans (below_size XShort.bel) hk))); (case aO => exact (XShort.rr HO_4.out)); (case aS => exact (below_size XShort.bel)); (case aL => have := LMc17.out; omega); intro v140 w18 ho hb hg hat; rw [← Ny139.out] at ho; have n0_ := Aside0.mk (Kd.V_afterv (ok := (fun k_ => (P0_ k_ ∨ w.heap.size ≤ k_))) (XShort.vv HO_0.out) hg hat); have n1_ := Aside0.mk (hb); have n2_ := Aside0.mk (ho); clear HO_0; clear HB; clear HO_4; have HO_0 := n0_; have HB := n1_; have HO141 := n2_; clear n0_ n1_ n2_; clear ho hb hg hat)); try go_wp2_with (first | ((with_reducible refine gate_builtin (b := .append) (xs := #[.tmp 69, .tmp 74]) rfl ?_); at_builtin; refine Kd.R_append (Kd.int .i64) (w0 := w) w.heap.size rfl (.tmp 69) (.tmp 74) 77 3 (.int .i64 0) 8 rfl Tryd.underlying77 info3 rfl (by decide) (by omega) u4 x4_3 (rd x0_1 x8_3) [.int .i64 (rd x0_1 x8_3)] (fun k_ => (w.heap.size ≤ k_)) (fun _ => False) rfl rfl ?aP (fun _ hk => hk.elim) ?aF ?aO ?aB ?aS ?aL ?_; (case aP => exact rfl); (case aB => exact XShort.bel); (case aF => exact (fun k_ hk => (Nat.le_trans (below_size XShort.bel) hk))); (case aO => exact (XShort.rr HO_4.out)); (case aS => exact (below_size XShort.bel)); (case aL => have := LMc17.out; omega); intro v140 w18 ho hb hg hat; rw [← Ny139.out] at ho; have n0_ := Aside0.mk (Kd.V_afterv (ok := (fun k_ => (P0_ k_ ∨ w.heap.size ≤ k_))) (XShort.vv HO_0.out) hg hat); have n1_ := Aside0.mk (hb); have n2_ := Aside0.mk (ho); clear HO_0; clear HB; clear HO_4; have HO_0 := n0_; have HB := n1_; have HO141 := n2_; clear n0_ n1_ n2_; clear ho hb hg hat)))
                  go_roundg kj10
                  case measure => have := HK1.out; have := HK2.out; have := HK3.out; have := HJ10.out; omega
                  case rel => exact ⟨(y139), (wrap64 (x8_3 + 1)), (x9_3), XShort.eqs, XShort.eqs, H', ⟨by have := HK1.out; have := HK2.out; have := HK3.out; have := HJ10.out; omega⟩, ⟨by (with_reducible repeat (first | apply Kd.V_alloc | apply Kd.V_drewN | apply Kd.V_drew)); exact HO_0.out⟩, ⟨by (with_reducible repeat (first | apply Kd.R_alloc | apply Kd.R_drewN | apply Kd.R_drew)); exact HO141.out⟩, ⟨XShort.bel⟩⟩
                 ·rw [if_neg c17] at H
                  exact absurd H (by simp)
                ·rw [if_neg c16] at H
                 exact absurd H (by simp)
               ·rw [if_neg c15] at H
                exact absurd H (by simp)
              ·rw [if_neg c14] at H
               have c14b0 : (x9_3 == t137) = false := beq_eq_false_iff_ne.mpr c14
               have c14b1 : (x9_3 != t137) = true := bne_iff_ne.mpr c14
               by_cases c19 : x8_3 < t136
               ·rw [if_pos c19] at H
                have c19b0 : decide (x8_3 < t136) = true := decide_eq_true c19
                clear c19
                by_cases c20 : 0 ≤ x8_3
                ·rw [if_pos c20] at H
                 have c20b0 : decide (0 ≤ x8_3) = true := decide_eq_true c20
                 clear c20
                 by_cases c21 : x8_3 < (x0_1.length : Int)
                 ·rw [if_pos c21] at H
                  have c21b0 : decide (x8_3 < (x0_1.length : Int)) = true := decide_eq_true c21
                  clear c21
                  by_cases c22 : 0 ≤ x9_3
                  ·rw [if_pos c22] at H
                   have c22b0 : decide (0 ≤ x9_3) = true := decide_eq_true c22
                   clear c22
                   by_cases c23 : x9_3 < (x0_1.length : Int)
                   ·rw [if_pos c23] at H
                    have c23b0 : decide (x9_3 < (x0_1.length : Int)) = true := decide_eq_true c23
                    clear c23
                    by_cases c24 : (rd x0_1 x8_3) ≤ (rd x0_1 x9_3)
                    ·rw [if_pos c24] at H
                     have c24b0 : decide ((rd x0_1 x8_3) ≤ (rd x0_1 x9_3)) = true := decide_eq_true c24
                     clear c24
                     by_cases c25 : x4_3.length < 17592186044416
                     ·rw [if_pos c25] at H
                      have LMc25 := Aside0.mk c25
                      clear c25
                      obtain ⟨y145, hy145⟩ : ∃ y_ : List Int, y_ = (x4_3 ++ [rd x0_1 x8_3]) := ⟨_, rfl⟩
                      replace H : (thistleref02_merged.l2 kj10 x0_1 x3_1 y145 x5_2 t136 t137 (wrap64 (x8_3 + 1)) x9_3) = some r := by first | (rw [hy145]; with_reducible exact H) | (have H2_ := (Option.bind_some _ _).symm.trans H; rw [hy145]; with_reducible exact H2_) | (have H2_ := (Option.bind_some _ _).symm.trans H; with_reducible exact H2_) | with_reducible exact H | (rw [hy145]; exact H) | exact H
                      have Ny145 := Aside0.mk hy145
                      clear hy145
                      have H' := Aside0.mk H
                      clear H
                      have p142 : 0 ≤ (x8_3 : Int) := of_decide_eq_true XShort.asm
                      have q142 : x8_3 < (x0_1.length : Int) := of_decide_eq_true XShort.asm
                      obtain ⟨ad142, e142, hx142_0⟩ := Kd.at_int (Kd.V_reads' HO_0.out).2.2 x8_3 p142 q142
                      cases e142
                      replace p142 := eq_true p142
                      replace q142 := eq_true q142
                      have p143 : 0 ≤ (x9_3 : Int) := of_decide_eq_true XShort.asm
                      have q143 : x9_3 < (x0_1.length : Int) := of_decide_eq_true XShort.asm
                      obtain ⟨ad143, e143, hx143_0⟩ := Kd.at_int (Kd.V_reads' HO_0.out).2.2 x9_3 p143 q143
                      obtain rfl : ad142 = ad143 := (by injection e143)
                      replace p143 := eq_true p143
                      replace q143 := eq_true q143
                      have p144 : 0 ≤ (x8_3 : Int) := of_decide_eq_true XShort.asm
                      have q144 : x8_3 < (x0_1.length : Int) := of_decide_eq_true XShort.asm
                      obtain ⟨ad144, e144, hx144_0⟩ := Kd.at_int (Kd.V_reads' HO_0.out).2.2 x8_3 p144 q144
                      obtain rfl : ad142 = ad144 := (by injection e144)
                      replace p144 := eq_true p144
                      replace q144 := eq_true q144
                      go_wp2_with (first | ((with_reducible refine gate_builtin (b := .append) (xs := #[.tmp 69, .tmp 74]) rfl ?_); at_builtin; refine Kd.R_append (Kd.int .i64) (w0 := w) w.heap.size rfl (.tmp 69) (.tmp 74) 77 3 (.int .i64 0) 8 rfl Tryd.underlying77 info3 rfl (by decide) (by omega) u4 x4_3 (rd x0_1 x8_3) [.int .i64 (rd x0_1 x8_3)] (fun k_ => (w.heap.size ≤ k_)) (fun _ => False) rfl rfl ?aP (fun _ hk => hk.elim) ?aF ?aO ?aB ?aS ?aL ?_; (case aP => exact rfl); (case aB => exact XShort.bel); (case aF => exact (fun k_ hk => (Nat.le_trans (below_size XShort.bel) hk))); (case aO => exact (XShort.rr HO_4.out)); (case aS => exact (below_size XShort.bel)); (case aL => have := LMc25.out; omega); intro v146 w26 ho hb hg hat; rw [← Ny145.out] at ho; have n0_ := Aside0.mk (Kd.V_afterv (ok := (fun k_ => (P0_ k_ ∨ w.heap.size ≤ k_))) (XShort.vv HO_0.out) hg hat); have n1_ := Aside0.mk (hb); have n2_ := Aside0.mk (ho); clear HO_0; clear HB; clear HO_4; have HO_0 := n0_; have HB := n1_; have HO147 := n2_; clear n0_ n1_ n2_; clear ho hb hg hat))
                      repeat (go_quiet (first | ((with_reducible refine gate_builtin (b := .append) (xs := #[.tmp 69, .tmp 74]) rfl ?_); at_builtin; refine Kd.R_append (Kd.int .i64) (w0 := w) w.heap.size rfl (.tmp 69) (.tmp 74) 77 3 (.int .i64 0) 8 rfl Tryd.underlying77 info3 rfl (by decide) (by omega) u4 x4_3 (rd x0_1 x8_3) [.int .i64 (rd x0_1 x8_3)] (fun k_ => (w.heap.size ≤ k_)) (fun _ => False) rfl rfl ?aP (fun _ hk => hk.elim) ?aF ?aO ?aB ?aS ?aL ?_; (case aP => exact rfl); (case aB => exact XShort.bel); (case aF => exact (fun k_ hk => (Nat.le_trans (below_size XShort.bel) hk))); (case aO => exact (XShort.rr HO_4.out)); (case aS => exact (below_size XShort.bel)); (case aL => have := LMc25.out; omega); intro v146 w26 ho hb hg hat; rw [← Ny145.out] at ho; have n0_ := Aside0.mk (Kd.V_afterv (ok := (fun k_ => (P0_ k_ ∨ w.heap.size ≤ k_))) (XShort.vv HO_0.out) hg hat); have n1_ := Aside0.mk (hb); have n2_ := Aside0.mk (ho); clear HO_0; clear HB; clear HO_4; have HO_0 := n0_; have HB := n1_; have HO147 := n2_; clear n0_ n1_ n2_; clear ho hb hg hat)); try go_wp2_with (first | ((with_reducible refine gate_builtin (b := .append) (xs := #[.tmp 69, .tmp 74]) rfl ?_); at_builtin; refine Kd.R_append (Kd.int .i64) (w0 := w) w.heap.size rfl (.tmp 69) (.tmp 74) 77 3 (.int .i64 0) 8 rfl Tryd.underlying77 info3 rfl (by decide) (by omega) u4 x4_3 (rd x0_1 x8_3) [.int .i64 (rd x0_1 x8_3)] (fun k_ => (w.heap.size ≤ k_)) (fun _ => False) rfl rfl ?aP (fun _ hk => hk.elim) ?aF ?aO ?aB ?aS ?aL ?_; (case aP => exact rfl); (case aB => exact XShort.bel); (case aF => exact (fun k_ hk => (Nat.le_trans (below_size XShort.bel) hk))); (case aO => exact (XShort.rr HO_4.out)); (case aS => exact (below_size XShort.bel)); (case aL => have := LMc25.out; omega); intro v146 w26 ho hb hg hat; rw [← Ny145.out] at ho; have n0_ := Aside0.mk (Kd.V_afterv (ok := (fun k_ => (P0_ k_ ∨ w.heap.size ≤ k_))) (XShort.vv HO_0.out) hg hat); have n1_ := Aside0.mk (hb); have n2_ := Aside0.mk (ho); clear HO_0; clear HB; clear HO_4; have HO_0 := n0_; have HB := n1_; have HO147 := n2_; clear n0_ n1_ n2_; clear ho hb hg hat)))
                      go_roundg kj10
                      case measure => have := HK1.out; have := HK2.out; have := HK3.out; have := HJ10.out; omega
                      case rel => exact ⟨(y145), (wrap64 (x8_3 + 1)), (x9_3), XShort.eqs, XShort.eqs, H', ⟨by have := HK1.out; have := HK2.out; have := HK3.out; have := HJ10.out; omega⟩, ⟨by (with_reducible repeat (first | apply Kd.V_alloc | apply Kd.V_drewN | apply Kd.V_drew)); exact HO_0.out⟩, ⟨by (with_reducible repeat (first | apply Kd.R_alloc | apply Kd.R_drewN | apply Kd.R_drew)); exact HO147.out⟩, ⟨XShort.bel⟩⟩
                     ·rw [if_neg c25] at H
                      exact absurd H (by simp)
                    ·rw [if_neg c24] at H
                     have c24b0 : decide ((rd x0_1 x8_3) ≤ (rd x0_1 x9_3)) = false := decide_eq_false c24
                     clear c24
                     by_cases c27 : x4_3.length < 17592186044416
                     ·rw [if_pos c27] at H
                      have LMc27 := Aside0.mk c27
                      clear c27
                      obtain ⟨y149, hy149⟩ : ∃ y_ : List Int, y_ = (x4_3 ++ [rd x0_1 x9_3]) := ⟨_, rfl⟩
                      replace H : (thistleref02_merged.l2 kj10 x0_1 x3_1 y149 x5_2 t136 t137 x8_3 (wrap64 (x9_3 + 1))) = some r := by first | (rw [hy149]; with_reducible exact H) | (have H2_ := (Option.bind_some _ _).symm.trans H; rw [hy149]; with_reducible exact H2_) | (have H2_ := (Option.bind_some _ _).symm.trans H; with_reducible exact H2_) | with_reducible exact H | (rw [hy149]; exact H) | exact H
                      have Ny149 := Aside0.mk hy149
                      clear hy149
                      have H' := Aside0.mk H
                      clear H
                      have p142 : 0 ≤ (x8_3 : Int) := of_decide_eq_true XShort.asm
                      have q142 : x8_3 < (x0_1.length : Int) := of_decide_eq_true XShort.asm
                      obtain ⟨ad142, e142, hx142_0⟩ := Kd.at_int (Kd.V_reads' HO_0.out).2.2 x8_3 p142 q142
                      cases e142
                      replace p142 := eq_true p142
                      replace q142 := eq_true q142
                      have p143 : 0 ≤ (x9_3 : Int) := of_decide_eq_true XShort.asm
                      have q143 : x9_3 < (x0_1.length : Int) := of_decide_eq_true XShort.asm
                      obtain ⟨ad143, e143, hx143_0⟩ := Kd.at_int (Kd.V_reads' HO_0.out).2.2 x9_3 p143 q143
                      obtain rfl : ad142 = ad143 := (by injection e143)
                      replace p143 := eq_true p143
                      replace q143 := eq_true q143
                      have p148 : 0 ≤ (x9_3 : Int) := of_decide_eq_true XShort.asm
                      have q148 : x9_3 < (x0_1.length : Int) := of_decide_eq_true XShort.asm
                      obtain ⟨ad148, e148, hx148_0⟩ := Kd.at_int (Kd.V_reads' HO_0.out).2.2 x9_3 p148 q148
                      obtain rfl : ad142 = ad148 := (by injection e148)
                      replace p148 := eq_true p148
                      replace q148 := eq_true q148
                      go_wp2_with (first | ((with_reducible refine gate_builtin (b := .append) (xs := #[.tmp 78, .tmp 83]) rfl ?_); at_builtin; refine Kd.R_append (Kd.int .i64) (w0 := w) w.heap.size rfl (.tmp 78) (.tmp 83) 77 3 (.int .i64 0) 8 rfl Tryd.underlying77 info3 rfl (by decide) (by omega) u4 x4_3 (rd x0_1 x9_3) [.int .i64 (rd x0_1 x9_3)] (fun k_ => (w.heap.size ≤ k_)) (fun _ => False) rfl rfl ?aP (fun _ hk => hk.elim) ?aF ?aO ?aB ?aS ?aL ?_; (case aP => exact rfl); (case aB => exact XShort.bel); (case aF => exact (fun k_ hk => (Nat.le_trans (below_size XShort.bel) hk))); (case aO => exact (XShort.rr HO_4.out)); (case aS => exact (below_size XShort.bel)); (case aL => have := LMc27.out; omega); intro v150 w28 ho hb hg hat; rw [← Ny149.out] at ho; have n0_ := Aside0.mk (Kd.V_afterv (ok := (fun k_ => (P0_ k_ ∨ w.heap.size ≤ k_))) (XShort.vv HO_0.out) hg hat); have n1_ := Aside0.mk (hb); have n2_ := Aside0.mk (ho); clear HO_0; clear HB; clear HO_4; have HO_0 := n0_; have HB := n1_; have HO151 := n2_; clear n0_ n1_ n2_; clear ho hb hg hat))
                      repeat (go_quiet (first | ((with_reducible refine gate_builtin (b := .append) (xs := #[.tmp 78, .tmp 83]) rfl ?_); at_builtin; refine Kd.R_append (Kd.int .i64) (w0 := w) w.heap.size rfl (.tmp 78) (.tmp 83) 77 3 (.int .i64 0) 8 rfl Tryd.underlying77 info3 rfl (by decide) (by omega) u4 x4_3 (rd x0_1 x9_3) [.int .i64 (rd x0_1 x9_3)] (fun k_ => (w.heap.size ≤ k_)) (fun _ => False) rfl rfl ?aP (fun _ hk => hk.elim) ?aF ?aO ?aB ?aS ?aL ?_; (case aP => exact rfl); (case aB => exact XShort.bel); (case aF => exact (fun k_ hk => (Nat.le_trans (below_size XShort.bel) hk))); (case aO => exact (XShort.rr HO_4.out)); (case aS => exact (below_size XShort.bel)); (case aL => have := LMc27.out; omega); intro v150 w28 ho hb hg hat; rw [← Ny149.out] at ho; have n0_ := Aside0.mk (Kd.V_afterv (ok := (fun k_ => (P0_ k_ ∨ w.heap.size ≤ k_))) (XShort.vv HO_0.out) hg hat); have n1_ := Aside0.mk (hb); have n2_ := Aside0.mk (ho); clear HO_0; clear HB; clear HO_4; have HO_0 := n0_; have HB := n1_; have HO151 := n2_; clear n0_ n1_ n2_; clear ho hb hg hat)); try go_wp2_with (first | ((with_reducible refine gate_builtin (b := .append) (xs := #[.tmp 78, .tmp 83]) rfl ?_); at_builtin; refine Kd.R_append (Kd.int .i64) (w0 := w) w.heap.size rfl (.tmp 78) (.tmp 83) 77 3 (.int .i64 0) 8 rfl Tryd.underlying77 info3 rfl (by decide) (by omega) u4 x4_3 (rd x0_1 x9_3) [.int .i64 (rd x0_1 x9_3)] (fun k_ => (w.heap.size ≤ k_)) (fun _ => False) rfl rfl ?aP (fun _ hk => hk.elim) ?aF ?aO ?aB ?aS ?aL ?_; (case aP => exact rfl); (case aB => exact XShort.bel); (case aF => exact (fun k_ hk => (Nat.le_trans (below_size XShort.bel) hk))); (case aO => exact (XShort.rr HO_4.out)); (case aS => exact (below_size XShort.bel)); (case aL => have := LMc27.out; omega); intro v150 w28 ho hb hg hat; rw [← Ny149.out] at ho; have n0_ := Aside0.mk (Kd.V_afterv (ok := (fun k_ => (P0_ k_ ∨ w.heap.size ≤ k_))) (XShort.vv HO_0.out) hg hat); have n1_ := Aside0.mk (hb); have n2_ := Aside0.mk (ho); clear HO_0; clear HB; clear HO_4; have HO_0 := n0_; have HB := n1_; have HO151 := n2_; clear n0_ n1_ n2_; clear ho hb hg hat)))
                      go_roundg kj10
                      case measure => have := HK1.out; have := HK2.out; have := HK3.out; have := HJ10.out; omega
                      case rel => exact ⟨(y149), (x8_3), (wrap64 (x9_3 + 1)), XShort.eqs, XShort.eqs, H', ⟨by have := HK1.out; have := HK2.out; have := HK3.out; have := HJ10.out; omega⟩, ⟨by (with_reducible repeat (first | apply Kd.V_alloc | apply Kd.V_drewN | apply Kd.V_drew)); exact HO_0.out⟩, ⟨by (with_reducible repeat (first | apply Kd.R_alloc | apply Kd.R_drewN | apply Kd.R_drew)); exact HO151.out⟩, ⟨XShort.bel⟩⟩
                     ·rw [if_neg c27] at H
                      exact absurd H (by simp)
                   ·rw [if_neg c23] at H
                    exact absurd H (by simp)
                  ·rw [if_neg c22] at H
                   exact absurd H (by simp)
                 ·rw [if_neg c21] at H
                  exact absurd H (by simp)
                ·rw [if_neg c20] at H
                 exact absurd H (by simp)
               ·rw [if_neg c19] at H
                have c19b0 : decide (x8_3 < t136) = false := decide_eq_false c19
                clear c19
                by_cases c29 : 0 ≤ x9_3
                ·rw [if_pos c29] at H
                 have c29b0 : decide (0 ≤ x9_3) = true := decide_eq_true c29
                 clear c29
                 by_cases c30 : x9_3 < (x0_1.length : Int)
                 ·rw [if_pos c30] at H
                  have c30b0 : decide (x9_3 < (x0_1.length : Int)) = true := decide_eq_true c30
                  clear c30
                  by_cases c31 : x4_3.length < 17592186044416
                  ·rw [if_pos c31] at H
                   have LMc31 := Aside0.mk c31
                   clear c31
                   obtain ⟨y153, hy153⟩ : ∃ y_ : List Int, y_ = (x4_3 ++ [rd x0_1 x9_3]) := ⟨_, rfl⟩
                   replace H : (thistleref02_merged.l2 kj10 x0_1 x3_1 y153 x5_2 t136 t137 x8_3 (wrap64 (x9_3 + 1))) = some r := by first | (rw [hy153]; with_reducible exact H) | (have H2_ := (Option.bind_some _ _).symm.trans H; rw [hy153]; with_reducible exact H2_) | (have H2_ := (Option.bind_some _ _).symm.trans H; with_reducible exact H2_) | with_reducible exact H | (rw [hy153]; exact H) | exact H
                   have Ny153 := Aside0.mk hy153
                   clear hy153
                   have H' := Aside0.mk H
                   clear H
                   have p152 : 0 ≤ (x9_3 : Int) := of_decide_eq_true XShort.asm
                   have q152 : x9_3 < (x0_1.length : Int) := of_decide_eq_true XShort.asm
                   obtain ⟨ad152, e152, hx152_0⟩ := Kd.at_int (Kd.V_reads' HO_0.out).2.2 x9_3 p152 q152
                   cases e152
                   replace p152 := eq_true p152
                   replace q152 := eq_true q152
                   go_wp2_with (first | ((with_reducible refine gate_builtin (b := .append) (xs := #[.tmp 78, .tmp 83]) rfl ?_); at_builtin; refine Kd.R_append (Kd.int .i64) (w0 := w) w.heap.size rfl (.tmp 78) (.tmp 83) 77 3 (.int .i64 0) 8 rfl Tryd.underlying77 info3 rfl (by decide) (by omega) u4 x4_3 (rd x0_1 x9_3) [.int .i64 (rd x0_1 x9_3)] (fun k_ => (w.heap.size ≤ k_)) (fun _ => False) rfl rfl ?aP (fun _ hk => hk.elim) ?aF ?aO ?aB ?aS ?aL ?_; (case aP => exact rfl); (case aB => exact XShort.bel); (case aF => exact (fun k_ hk => (Nat.le_trans (below_size XShort.bel) hk))); (case aO => exact (XShort.rr HO_4.out)); (case aS => exact (below_size XShort.bel)); (case aL => have := LMc31.out; omega); intro v154 w32 ho hb hg hat; rw [← Ny153.out] at ho; have n0_ := Aside0.mk (Kd.V_afterv (ok := (fun k_ => (P0_ k_ ∨ w.heap.size ≤ k_))) (XShort.vv HO_0.out) hg hat); have n1_ := Aside0.mk (hb); have n2_ := Aside0.mk (ho); clear HO_0; clear HB; clear HO_4; have HO_0 := n0_; have HB := n1_; have HO155 := n2_; clear n0_ n1_ n2_; clear ho hb hg hat))
                   repeat (go_quiet (first | ((with_reducible refine gate_builtin (b := .append) (xs := #[.tmp 78, .tmp 83]) rfl ?_); at_builtin; refine Kd.R_append (Kd.int .i64) (w0 := w) w.heap.size rfl (.tmp 78) (.tmp 83) 77 3 (.int .i64 0) 8 rfl Tryd.underlying77 info3 rfl (by decide) (by omega) u4 x4_3 (rd x0_1 x9_3) [.int .i64 (rd x0_1 x9_3)] (fun k_ => (w.heap.size ≤ k_)) (fun _ => False) rfl rfl ?aP (fun _ hk => hk.elim) ?aF ?aO ?aB ?aS ?aL ?_; (case aP => exact rfl); (case aB => exact XShort.bel); (case aF => exact (fun k_ hk => (Nat.le_trans (below_size XShort.bel) hk))); (case aO => exact (XShort.rr HO_4.out)); (case aS => exact (below_size XShort.bel)); (case aL => have := LMc31.out; omega); intro v154 w32 ho hb hg hat; rw [← Ny153.out] at ho; have n0_ := Aside0.mk (Kd.V_afterv (ok := (fun k_ => (P0_ k_ ∨ w.heap.size ≤ k_))) (XShort.vv HO_0.out) hg hat); have n1_ := Aside0.mk (hb); have n2_ := Aside0.mk (ho); clear HO_0; clear HB; clear HO_4; have HO_0 := n0_; have HB := n1_; have HO155 := n2_; clear n0_ n1_ n2_; clear ho hb hg hat)); try go_wp2_with (first | ((with_reducible refine gate_builtin (b := .append) (xs := #[.tmp 78, .tmp 83]) rfl ?_); at_builtin; refine Kd.R_append (Kd.int .i64) (w0 := w) w.heap.size rfl (.tmp 78) (.tmp 83) 77 3 (.int .i64 0) 8 rfl Tryd.underlying77 info3 rfl (by decide) (by omega) u4 x4_3 (rd x0_1 x9_3) [.int .i64 (rd x0_1 x9_3)] (fun k_ => (w.heap.size ≤ k_)) (fun _ => False) rfl rfl ?aP (fun _ hk => hk.elim) ?aF ?aO ?aB ?aS ?aL ?_; (case aP => exact rfl); (case aB => exact XShort.bel); (case aF => exact (fun k_ hk => (Nat.le_trans (below_size XShort.bel) hk))); (case aO => exact (XShort.rr HO_4.out)); (case aS => exact (below_size XShort.bel)); (case aL => have := LMc31.out; omega); intro v154 w32 ho hb hg hat; rw [← Ny153.out] at ho; have n0_ := Aside0.mk (Kd.V_afterv (ok := (fun k_ => (P0_ k_ ∨ w.heap.size ≤ k_))) (XShort.vv HO_0.out) hg hat); have n1_ := Aside0.mk (hb); have n2_ := Aside0.mk (ho); clear HO_0; clear HB; clear HO_4; have HO_0 := n0_; have HB := n1_; have HO155 := n2_; clear n0_ n1_ n2_; clear ho hb hg hat)))
                   go_roundg kj10
                   case measure => have := HK1.out; have := HK2.out; have := HK3.out; have := HJ10.out; omega
                   case rel => exact ⟨(y153), (x8_3), (wrap64 (x9_3 + 1)), XShort.eqs, XShort.eqs, H', ⟨by have := HK1.out; have := HK2.out; have := HK3.out; have := HJ10.out; omega⟩, ⟨by (with_reducible repeat (first | apply Kd.V_alloc | apply Kd.V_drewN | apply Kd.V_drew)); exact HO_0.out⟩, ⟨by (with_reducible repeat (first | apply Kd.R_alloc | apply Kd.R_drewN | apply Kd.R_drew)); exact HO155.out⟩, ⟨XShort.bel⟩⟩
                  ·rw [if_neg c31] at H
                   exact absurd H (by simp)
                 ·rw [if_neg c30] at H
                  exact absurd H (by simp)
                ·rw [if_neg c29] at H
                 exact absurd H (by simp)
             ·replace c13 := Bool.eq_false_iff.mpr c13
              subst c13
              have H1 : (thistleref02_merged.l1 kj10 x0_1 x3_1 x4_3 (wrap64 (x5_2 + (wrap64 (2 * x3_1))))) = some r := by rw [if_neg (show ¬ (false = true) by decide)] at H; exact H
              clear H
              have H := H1
              clear H1
              have H' := Aside0.mk H
              clear H
              go_wp2
              repeat (go_quiet (fail); try go_wp2)
              go_roundg kj10
              case measure => have := HK1.out; have := HK2.out; have := HK3.out; have := HJ10.out; omega
              case rel => exact ⟨(x4_3), (wrap64 (x5_2 + (wrap64 (2 * x3_1)))), XShort.eqs, H', ⟨by have := HK1.out; have := HK2.out; have := HK3.out; have := HJ10.out; omega⟩, ⟨by (with_reducible repeat (first | apply Kd.V_alloc | apply Kd.V_drewN | apply Kd.V_drew)); exact HO_0.out⟩, ⟨by (with_reducible repeat (first | apply Kd.R_alloc | apply Kd.R_drewN | apply Kd.R_drew)); exact HO_4.out⟩, ⟨XShort.bel⟩⟩
        ·rw [if_neg c8] at H
         have c8b0 : decide (x5_2 < (x0_1.length : Int)) = false := decide_eq_false c8
         clear c8
         have H' := Aside0.mk H
         clear H
         go_wp2
         repeat (go_quiet (fail); try go_wp2)
         go_roundg k2
         case measure => have := HK1.out; have := HK2.out; omega
         case rel => exact ⟨(x4_2), (wrap64 (2 * x3_1)), XShort.eqs, H', ⟨by have := HK1.out; have := HK2.out; omega⟩, ⟨Kd.V_mono (Kd.R_V (XShort.rr HO_4.out)) (fun k_ hk => by first | exact ⟨(.inr (hk.1)), hk.2⟩ | exact (.inr (hk)))⟩, ⟨XShort.bel⟩⟩
     ·rw [if_neg c4] at H
      exact absurd H (by simp)
    ·rw [if_neg c3] at H
     exact absurd H (by simp)
   ·rw [if_neg c2] at H
    have c2b0 : decide (x3_1 < (x0_1.length : Int)) = false := decide_eq_false c2
    clear c2
    obtain rfl := Option.some.inj H
    obtain ⟨Ao33, co33, eo33⟩ := Kd.V_slice HO_0.out
    subst eo33
    go_wp2
    repeat (go_quiet (fail); try go_wp2)
    go_ret
    exact ⟨_, by first | rfl | (simp [errW_none, errW_some] <;> rfl) | (simp [*, errW_none, errW_some] <;> rfl), by (with_reducible repeat (first | apply Kd.V_alloc | apply Kd.V_drewN | apply Kd.V_drew)); exact HO_0.out, XShort.bel⟩

end Go.Proofs.YtcfecoalljfoaaaDoor.XS
namespace Go.Proofs.YtcfecoalljfoaaaDoor.XS
open Go.Proofs.YtcfecoalljfoaaaDoor.XShort (o i)
open Go.RowKit Go.Proofs.YtcfecoalljfoaaaDoorW.PrintWords Go.Proofs.YtcfecoalljfoaaaDoorW.PrintLast Go.Proofs.YtcfecoalljfoaaaDoorW.PrintMore
attribute [local go_sem] max2_int min2_int max_two min_two max_three min_three max_four min_four   -- for this text's walks alone
set_option linter.unusedVariables false
set_option linter.unusedSimpArgs false

/-! ### thistleref02_sorted: function 37 -/
def thistleref02_sorted.l0 : Nat → List Int → List Int → Int → Option (List Int)
 | 0, _, _, _ => none
 | k + 1, x0, x3, x4 => if x4 < (x0.length : Int) then (if x4 = 0 then (if 0 ≤ x4 then (if x3.length < 17592186044416 then (thistleref02_sorted.l0 k x0 (x3 ++ [rd x0 x4]) (wrap64 (x4 + 1))) else (none)) else (none)) else (if 0 ≤ x4 then (if 0 ≤ (wrap64 (x4 - 1)) then (if (wrap64 (x4 - 1)) < (x0.length : Int) then (if (rd x0 x4) = (rd x0 (wrap64 (x4 - 1))) then (thistleref02_sorted.l0 k x0 x3 (wrap64 (x4 + 1))) else (if x3.length < 17592186044416 then (thistleref02_sorted.l0 k x0 (x3 ++ [rd x0 x4]) (wrap64 (x4 + 1))) else (none))) else (none)) else (none)) else (none))) else (some x3)
def thistleref02_sorted.f (k : Nat) (l0 : List Int) : Option (List Int) := (thistleref02_merged.f k l0).bind fun t156 => (thistleref02_sorted.l0 k t156 ([] : List Int) 0)
set_option maxHeartbeats 8000000 in
set_option maxRecDepth 100000 in
theorem thistleref02_sorted.calls (k : Nat) (A0 : Option Addr) (c0 : Nat) (l0 : List Int) (r : List Int) (w : World) (hr0 : Kd.C (Kd.int .i64) w A0 l0.length l0) (hc0 : l0.length ≤ c0) (h : thistleref02_sorted.f k l0 = some r) :
  Calls Tryd.prog 37 #[.slice A0 l0.length c0] w fun e w' => ∃ v0_ : Value, e = .returned (v0_) ∧ Kd.R (Kd.int .i64) 3 w' w.heap.size (fun _ => True) v0_ r ∧ Below w.heap.size w w' := by
 have HR0 := Aside0.mk hr0
 have HC0 := Aside0.mk hc0
 clear hr0 hc0
 have HB := Aside0.mk (Below.refl w.heap.size w)
 have H : ((thistleref02_merged.f k l0).bind fun t156 => (thistleref02_sorted.l0 k t156 ([] : List Int) 0)) = some r := h
 clear h
 replace H := Option.bind_eq_some_iff.mp H
 obtain ⟨t156, A20, H⟩ := H
 replace H : (thistleref02_sorted.l0 k t156 ([] : List Int) 0) = some r := H
 have A2 := Aside0.mk A20
 clear A20
 have H' := Aside0.mk H
 clear H
 go_enter Tryd.func37, Tryd.ntmps37
 go_wp2_with (first | (go_at_call 39; (with_reducible refine (thistleref02_merged.calls k (fun k_ => k_ < w.heap.size) _ _ l0 t156 _ ?side1 A2.out).mono ?_); (case side1 => exact Kd.V_mk HC0.out (Kd.F_below (Kd.C_F (Kd.heap_int .i64) HR0.out) XShort.bel)); rintro e w3 ⟨v157, rfl, ho0, hb⟩; have n0_ := Aside0.mk (Kd.V_lower (Kd.V_mono (ok' := fun k_ => True) ho0 (fun k_ hk_ => trivial)) (below_size XShort.bel)); have n1_ := Aside0.mk (below_step XShort.bel hb); clear HB; have HO158 := n0_; have HB := n1_; clear n0_ n1_; (try clear hb); (try clear hb2); (try clear hk); (try clear hi); (try clear ho0)))
 repeat (go_quiet (first | (go_at_call 39; (with_reducible refine (thistleref02_merged.calls k (fun k_ => k_ < w.heap.size) _ _ l0 t156 _ ?side1 A2.out).mono ?_); (case side1 => exact Kd.V_mk HC0.out (Kd.F_below (Kd.C_F (Kd.heap_int .i64) HR0.out) XShort.bel)); rintro e w3 ⟨v157, rfl, ho0, hb⟩; have n0_ := Aside0.mk (Kd.V_lower (Kd.V_mono (ok' := fun k_ => True) ho0 (fun k_ hk_ => trivial)) (below_size XShort.bel)); have n1_ := Aside0.mk (below_step XShort.bel hb); clear HB; have HO158 := n0_; have HB := n1_; clear n0_ n1_; (try clear hb); (try clear hb2); (try clear hk); (try clear hi); (try clear ho0))); try go_wp2_with (first | (go_at_call 39; (with_reducible refine (thistleref02_merged.calls k (fun k_ => k_ < w.heap.size) _ _ l0 t156 _ ?side1 A2.out).mono ?_); (case side1 => exact Kd.V_mk HC0.out (Kd.F_below (Kd.C_F (Kd.heap_int .i64) HR0.out) XShort.bel)); rintro e w3 ⟨v157, rfl, ho0, hb⟩; have n0_ := Aside0.mk (Kd.V_lower (Kd.V_mono (ok' := fun k_ => True) ho0 (fun k_ hk_ => trivial)) (below_size XShort.bel)); have n1_ := Aside0.mk (below_step XShort.bel hb); clear HB; have HO158 := n0_; have HB := n1_; clear n0_ n1_; (try clear hb); (try clear hb2); (try clear hk); (try clear hi); (try clear ho0))))
 go_loopg [3, 4] k (fun kq v3 v4 w' => ∃ (x3_1 : List Int) (x4_1 : Int), v4 = .int .i64 x4_1 ∧ Aside0 (thistleref02_sorted.l0 kq t156 x3_1 x4_1 = some r) ∧ Aside0 (kq ≤ k) ∧ Aside0 (Kd.V (Kd.int .i64) 3 w' w.heap.size (fun k_ => some k_ ≠ (v3 : Value).ownBlock) v157 t156) ∧ Aside0 (Kd.R (Kd.int .i64) 3 w' w.heap.size (fun _ => True) v3 x3_1) ∧ Aside0 (Below w.heap.size w w'))
 case atStart => exact ⟨(([] : List Int)), (0), XShort.eqs, H', ⟨Nat.le_refl _⟩, ⟨by (with_reducible repeat (first | apply Kd.V_alloc | apply Kd.V_drewN | apply Kd.V_drew)); exact Kd.V_mono HO158.out (fun _ hk => (by simp [Value.ownBlock]))⟩, ⟨by first | exact Kd.R_nil _ _ _ _ _ | exact Kd.N_nil _ _ _ _ _ | exact Kd.V_nil _ _ _ _ _ | exact Kd.Q_nil _ _ _ _ _ | exact Kd.S_nil _ _ _ _ _⟩, ⟨XShort.bel⟩⟩
 case round =>
  clear H'
  try clear p2
  try clear c3
  obtain ⟨x3_1, x4_1, rfl, HA, HK1, HO_0, HO_3, HB⟩ := hrel
  cases gk with
  | zero => exact absurd HA.out (by simp [thistleref02_sorted.l0])
  | succ k1 =>
   have H := HA.out
   clear HA
   simp only [thistleref02_sorted.l0] at H
   by_cases c4 : x4_1 < (t156.length : Int)
   ·rw [if_pos c4] at H
    have c4b0 : decide (x4_1 < (t156.length : Int)) = true := decide_eq_true c4
    clear c4
    by_cases c5 : x4_1 = 0
    ·rw [if_pos c5] at H
     have c5b0 : (x4_1 == 0) = true := beq_iff_eq.mpr c5
     have c5b1 : (x4_1 != 0) = false := bne_eq_false_iff_eq.mpr c5
     clear c5
     by_cases c6 : 0 ≤ x4_1
     ·rw [if_pos c6] at H
      have c6b0 : decide (0 ≤ x4_1) = true := decide_eq_true c6
      clear c6
      by_cases c7 : x3_1.length < 17592186044416
      ·rw [if_pos c7] at H
       have LMc7 := Aside0.mk c7
       clear c7
       obtain ⟨y160, hy160⟩ : ∃ y_ : List Int, y_ = (x3_1 ++ [rd t156 x4_1]) := ⟨_, rfl⟩
       replace H : (thistleref02_sorted.l0 k1 t156 y160 (wrap64 (x4_1 + 1))) = some r := by first | (rw [hy160]; with_reducible exact H) | (have H2_ := (Option.bind_some _ _).symm.trans H; rw [hy160]; with_reducible exact H2_) | (have H2_ := (Option.bind_some _ _).symm.trans H; with_reducible exact H2_) | with_reducible exact H | (rw [hy160]; exact H) | exact H
       have Ny160 := Aside0.mk hy160
       clear hy160
       have H' := Aside0.mk H
       clear H
       obtain ⟨Ao8, co8, eo8⟩ := Kd.V_slice HO_0.out
       subst eo8
       have p159 : 0 ≤ (x4_1 : Int) := of_decide_eq_true XShort.asm
       have q159 : x4_1 < (t156.length : Int) := of_decide_eq_true XShort.asm
       obtain ⟨ad159, e159, hx159_0⟩ := Kd.at_int (Kd.V_reads' HO_0.out).2.2 x4_1 p159 q159
       cases e159
       replace p159 := eq_true p159
       replace q159 := eq_true q159
       go_wp2_with (first | ((with_reducible refine gate_builtin (b := .append) (xs := #[.tmp 27, .tmp 32]) rfl ?_); at_builtin; refine Kd.R_append (Kd.int .i64) (w0 := w) w.heap.size rfl (.tmp 27) (.tmp 32) 77 3 (.int .i64 0) 8 rfl Tryd.underlying77 info3 rfl (by decide) (by omega) u3 x3_1 (rd t156 x4_1) [.int .i64 (rd t156 x4_1)] (fun _ => True) (fun _ => False) rfl rfl ?aP (fun _ hk => hk.elim) ?aF ?aO ?aB ?aS ?aL ?_; (case aP => exact rfl); (case aB => exact XShort.bel); (case aF => exact (fun _ _ => trivial)); (case aO => exact (XShort.rr HO_3.out)); (case aS => exact (below_size XShort.bel)); (case aL => have := LMc7.out; omega); intro v161 w9 ho hb hg hat; rw [← Ny160.out] at ho; have n0_ := Aside0.mk (Kd.V_afterv (ok := (fun _ => True)) (by (with_reducible repeat (first | apply Kd.V_alloc | apply Kd.V_drewN | apply Kd.V_drew)); exact Kd.V_mono HO_0.out (fun _ hk => ⟨trivial, hk⟩)) hg hat); have n1_ := Aside0.mk (hb); have n2_ := Aside0.mk (ho); clear HO_0; clear HB; clear HO_3; have HO_0 := n0_; have HB := n1_; have HO162 := n2_; clear n0_ n1_ n2_; clear ho hb hg hat))
       repeat (go_quiet (first | ((with_reducible refine gate_builtin (b := .append) (xs := #[.tmp 27, .tmp 32]) rfl ?_); at_builtin; refine Kd.R_append (Kd.int .i64) (w0 := w) w.heap.size rfl (.tmp 27) (.tmp 32) 77 3 (.int .i64 0) 8 rfl Tryd.underlying77 info3 rfl (by decide) (by omega) u3 x3_1 (rd t156 x4_1) [.int .i64 (rd t156 x4_1)] (fun _ => True) (fun _ => False) rfl rfl ?aP (fun _ hk => hk.elim) ?aF ?aO ?aB ?aS ?aL ?_; (case aP => exact rfl); (case aB => exact XShort.bel); (case aF => exact (fun _ _ => trivial)); (case aO => exact (XShort.rr HO_3.out)); (case aS => exact (below_size XShort.bel)); (case aL => have := LMc7.out; omega); intro v161 w9 ho hb hg hat; rw [← Ny160.out] at ho; have n0_ := Aside0.mk (Kd.V_afterv (ok := (fun _ => True)) (by (with_reducible repeat (first | apply Kd.V_alloc | apply Kd.V_drewN | apply Kd.V_drew)); exact Kd.V_mono HO_0.out (fun _ hk => ⟨trivial, hk⟩)) hg hat); have n1_ := Aside0.mk (hb); have n2_ := Aside0.mk (ho); clear HO_0; clear HB; clear HO_3; have HO_0 := n0_; have HB := n1_; have HO162 := n2_; clear n0_ n1_ n2_; clear ho hb hg hat)); try go_wp2_with (first | ((with_reducible refine gate_builtin (b := .append) (xs := #[.tmp 27, .tmp 32]) rfl ?_); at_builtin; refine Kd.R_append (Kd.int .i64) (w0 := w) w.heap.size rfl (.tmp 27) (.tmp 32) 77 3 (.int .i64 0) 8 rfl Tryd.underlying77 info3 rfl (by decide) (by omega) u3 x3_1 (rd t156 x4_1) [.int .i64 (rd t156 x4_1)] (fun _ => True) (fun _ => False) rfl rfl ?aP (fun _ hk => hk.elim) ?aF ?aO ?aB ?aS ?aL ?_; (case aP => exact rfl); (case aB => exact XShort.bel); (case aF => exact (fun _ _ => trivial)); (case aO => exact (XShort.rr HO_3.out)); (case aS => exact (below_size XShort.bel)); (case aL => have := LMc7.out; omega); intro v161 w9 ho hb hg hat; rw [← Ny160.out] at ho; have n0_ := Aside0.mk (Kd.V_afterv (ok := (fun _ => True)) (by (with_reducible repeat (first | apply Kd.V_alloc | apply Kd.V_drewN | apply Kd.V_drew)); exact Kd.V_mono HO_0.out (fun _ hk => ⟨trivial, hk⟩)) hg hat); have n1_ := Aside0.mk (hb); have n2_ := Aside0.mk (ho); clear HO_0; clear HB; clear HO_3; have HO_0 := n0_; have HB := n1_; have HO162 := n2_; clear n0_ n1_ n2_; clear ho hb hg hat)))
       go_roundg k1
       case measure => have := HK1.out; omega
       case rel => exact ⟨(y160), (wrap64 (x4_1 + 1)), XShort.eqs, H', ⟨by have := HK1.out; omega⟩, ⟨by (with_reducible repeat (first | apply Kd.V_alloc | apply Kd.V_drewN | apply Kd.V_drew)); exact Kd.V_mono HO_0.out (fun _ hk => hk.2)⟩, ⟨by (with_reducible repeat (first | apply Kd.R_alloc | apply Kd.R_drewN | apply Kd.R_drew)); exact HO162.out⟩, ⟨XShort.bel⟩⟩
      ·rw [if_neg c7] at H
       exact absurd H (by simp)
     ·rw [if_neg c6] at H
      exact absurd H (by simp)
    ·rw [if_neg c5] at H
     have c5b0 : (x4_1 == 0) = false := beq_eq_false_iff_ne.mpr c5
     have c5b1 : (x4_1 != 0) = true := bne_iff_ne.mpr c5
     by_cases c10 : 0 ≤ x4_1
     ·rw [if_pos c10] at H
      have c10b0 : decide (0 ≤ x4_1) = true := decide_eq_true c10
      clear c10
      obtain ⟨ji11, hji11⟩ : ∃ j_ : Int, (wrap64 (x4_1 - 1)) = j_ := ⟨_, rfl⟩
      replace H : (if 0 ≤ (ji11) then (if (ji11) < (t156.length : Int) then (if (rd t156 x4_1) = (rd t156 (ji11)) then (thistleref02_sorted.l0 k1 t156 x3_1 (wrap64 (x4_1 + 1))) else (if x3_1.length < 17592186044416 then (thistleref02_sorted.l0 k1 t156 (x3_1 ++ [rd t156 x4_1]) (wrap64 (x4_1 + 1))) else (none))) else (none)) else (none)) = some r := by first | (rw [hji11] at H; exact H) | (simp only [hji11] at H ⊢; exact H)
      have hji11w : (IntKind.i64.wrap (x4_1 - 1)) = ji11 := (i64_w _).trans hji11
      by_cases c12 : 0 ≤ (ji11)
      ·rw [if_pos c12] at H
       have c12b0 : decide (0 ≤ (ji11)) = true := decide_eq_true c12
       clear c12
       by_cases c13 : (ji11) < (t156.length : Int)
       ·rw [if_pos c13] at H
        have c13b0 : decide ((ji11) < (t156.length : Int)) = true := decide_eq_true c13
        clear c13
        by_cases c14 : (rd t156 x4_1) = (rd t156 (ji11))
        ·rw [if_pos c14] at H
         have c14b0 : ((rd t156 x4_1) == (rd t156 (ji11))) = true := beq_iff_eq.mpr c14
         have c14b1 : ((rd t156 x4_1) != (rd t156 (ji11))) = false := bne_eq_false_iff_eq.mpr c14
         clear c14
         have H' := Aside0.mk H
         clear H
         obtain ⟨Ao15, co15, eo15⟩ := Kd.V_slice HO_0.out
         subst eo15
         have p163 : 0 ≤ (x4_1 : Int) := of_decide_eq_true XShort.asm
         have q163 : x4_1 < (t156.length : Int) := of_decide_eq_true XShort.asm
         obtain ⟨ad163, e163, hx163_0⟩ := Kd.at_int (Kd.V_reads' HO_0.out).2.2 x4_1 p163 q163
         cases e163
         replace p163 := eq_true p163
         replace q163 := eq_true q163
         have p164 : 0 ≤ ((ji11) : Int) := of_decide_eq_true XShort.asm
         have q164 : (ji11) < (t156.length : Int) := of_decide_eq_true XShort.asm
         obtain ⟨ad164, e164, hx164_0⟩ := Kd.at_int (Kd.V_reads' HO_0.out).2.2 (ji11) p164 q164
         obtain rfl : ad163 = ad164 := (by injection e164)
         replace p164 := eq_true p164
         replace q164 := eq_true q164
         go_wp2
         repeat (go_quiet (fail); try go_wp2)
         go_roundg k1
         case measure => have := HK1.out; omega
         case rel => exact ⟨(x3_1), (wrap64 (x4_1 + 1)), XShort.eqs, H', ⟨by have := HK1.out; omega⟩, ⟨by (with_reducible repeat (first | apply Kd.V_alloc | apply Kd.V_drewN | apply Kd.V_drew)); exact HO_0.out⟩, ⟨by (with_reducible repeat (first | apply Kd.R_alloc | apply Kd.R_drewN | apply Kd.R_drew)); exact HO_3.out⟩, ⟨XShort.bel⟩⟩
        ·rw [if_neg c14] at H
         have c14b0 : ((rd t156 x4_1) == (rd t156 (ji11))) = false := beq_eq_false_iff_ne.mpr c14
         have c14b1 : ((rd t156 x4_1) != (rd t156 (ji11))) = true := bne_iff_ne.mpr c14
         by_cases c16 : x3_1.length < 17592186044416
         ·rw [if_pos c16] at H
          have LMc16 := Aside0.mk c16
          clear c16
          obtain ⟨y166, hy166⟩ : ∃ y_ : List Int, y_ = (x3_1 ++ [rd t156 x4_1]) := ⟨_, rfl⟩
          replace H : (thistleref02_sorted.l0 k1 t156 y166 (wrap64 (x4_1 + 1))) = some r := by first | (rw [hy166]; with_reducible exact H) | (have H2_ := (Option.bind_some _ _).symm.trans H; rw [hy166]; with_reducible exact H2_) | (have H2_ := (Option.bind_some _ _).symm.trans H; with_reducible exact H2_) | with_reducible exact H | (rw [hy166]; exact H) | exact H
          have Ny166 := Aside0.mk hy166
          clear hy166
          have H' := Aside0.mk H
          clear H
          obtain ⟨Ao17, co17, eo17⟩ := Kd.V_slice HO_0.out
          subst eo17
          have p163 : 0 ≤ (x4_1 : Int) := of_decide_eq_true XShort.asm
          have q163 : x4_1 < (t156.length : Int) := of_decide_eq_true XShort.asm
          obtain ⟨ad163, e163, hx163_0⟩ := Kd.at_int (Kd.V_reads' HO_0.out).2.2 x4_1 p163 q163
          cases e163
          replace p163 := eq_true p163
          replace q163 := eq_true q163
          have p164 : 0 ≤ ((ji11) : Int) := of_decide_eq_true XShort.asm
          have q164 : (ji11) < (t156.length : Int) := of_decide_eq_true XShort.asm
          obtain ⟨ad164, e164, hx164_0⟩ := Kd.at_int (Kd.V_reads' HO_0.out).2.2 (ji11) p164 q164
          obtain rfl : ad163 = ad164 := (by injection e164)
          replace p164 := eq_true p164
          replace q164 := eq_true q164
          have p165 : 0 ≤ (x4_1 : Int) := of_decide_eq_true XShort.asm
          have q165 : x4_1 < (t156.length : Int) := of_decide_eq_true XShort.asm
          obtain ⟨ad165, e165, hx165_0⟩ := Kd.at_int (Kd.V_reads' HO_0.out).2.2 x4_1 p165 q165
          obtain rfl : ad163 = ad165 := (by injection e165)
          replace p165 := eq_true p165
          replace q165 := eq_true q165
          go_wp2_with (first | ((with_reducible refine gate_builtin (b := .append) (xs := #[.tmp 27, .tmp 32]) rfl ?_); at_builtin; refine Kd.R_append (Kd.int .i64) (w0 := w) w.heap.size rfl (.tmp 27) (.tmp 32) 77 3 (.int .i64 0) 8 rfl Tryd.underlying77 info3 rfl (by decide) (by omega) u3 x3_1 (rd t156 x4_1) [.int .i64 (rd t156 x4_1)] (fun _ => True) (fun _ => False) rfl rfl ?aP (fun _ hk => hk.elim) ?aF ?aO ?aB ?aS ?aL ?_; (case aP => exact rfl); (case aB => exact XShort.bel); (case aF => exact (fun _ _ => trivial)); (case aO => exact (XShort.rr HO_3.out)); (case aS => exact (below_size XShort.bel)); (case aL => have := LMc16.out; omega); intro v167 w18 ho hb hg hat; rw [← Ny166.out] at ho; have n0_ := Aside0.mk (Kd.V_afterv (ok := (fun _ => True)) (by (with_reducible repeat (first | apply Kd.V_alloc | apply Kd.V_drewN | apply Kd.V_drew)); exact Kd.V_mono HO_0.out (fun _ hk => ⟨trivial, hk⟩)) hg hat); have n1_ := Aside0.mk (hb); have n2_ := Aside0.mk (ho); clear HO_0; clear HB; clear HO_3; have HO_0 := n0_; have HB := n1_; have HO168 := n2_; clear n0_ n1_ n2_; clear ho hb hg hat))
          repeat (go_quiet (first | ((with_reducible refine gate_builtin (b := .append) (xs := #[.tmp 27, .tmp 32]) rfl ?_); at_builtin; refine Kd.R_append (Kd.int .i64) (w0 := w) w.heap.size rfl (.tmp 27) (.tmp 32) 77 3 (.int .i64 0) 8 rfl Tryd.underlying77 info3 rfl (by decide) (by omega) u3 x3_1 (rd t156 x4_1) [.int .i64 (rd t156 x4_1)] (fun _ => True) (fun _ => False) rfl rfl ?aP (fun _ hk => hk.elim) ?aF ?aO ?aB ?aS ?aL ?_; (case aP => exact rfl); (case aB => exact XShort.bel); (case aF => exact (fun _ _ => trivial)); (case aO => exact (XShort.rr HO_3.out)); (case aS => exact (below_size XShort.bel)); (case aL => have := LMc16.out; omega); intro v167 w18 ho hb hg hat; rw [← Ny166.out] at ho; have n0_ := Aside0.mk (Kd.V_afterv (ok := (fun _ => True)) (by (with_reducible repeat (first | apply Kd.V_alloc | apply Kd.V_drewN | apply Kd.V_drew)); exact Kd.V_mono HO_0.out (fun _ hk => ⟨trivial, hk⟩)) hg hat); have n1_ := Aside0.mk (hb); have n2_ := Aside0.mk (ho); clear HO_0; clear HB; clear HO_3; have HO_0 := n0_; have HB := n1_; have HO168 := n2_; clear n0_ n1_ n2_; clear ho hb hg hat)); try go_wp2_with (first | ((with_reducible refine gate_builtin (b := .append) (xs := #[.tmp 27, .tmp 32]) rfl ?_); at_builtin; refine Kd.R_append (Kd.int .i64) (w0 := w) w.heap.size rfl (.tmp 27) (.tmp 32) 77 3 (.int .i64 0) 8 rfl Tryd.underlying77 info3 rfl (by decide) (by omega) u3 x3_1 (rd t156 x4_1) [.int .i64 (rd t156 x4_1)] (fun _ => True) (fun _ => False) rfl rfl ?aP (fun _ hk => hk.elim) ?aF ?aO ?aB ?aS ?aL ?_; (case aP => exact rfl); (case aB => exact XShort.bel); (case aF => exact (fun _ _ => trivial)); (case aO => exact (XShort.rr HO_3.out)); (case aS => exact (below_size XShort.bel)); (case aL => have := LMc16.out; omega); intro v167 w18 ho hb hg hat; rw [← Ny166.out] at ho; have n0_ := Aside0.mk (Kd.V_afterv (ok := (fun _ => True)) (by (with_reducible repeat (first | apply Kd.V_alloc | apply Kd.V_drewN | apply Kd.V_drew)); exact Kd.V_mono HO_0.out (fun _ hk => ⟨trivial, hk⟩)) hg hat); have n1_ := Aside0.mk (hb); have n2_ := Aside0.mk (ho); clear HO_0; clear HB; clear HO_3; have HO_0 := n0_; have HB := n1_; have HO168 := n2_; clear n0_ n1_ n2_; clear ho hb hg hat)))
          go_roundg k1
          case measure => have := HK1.out; omega
          case rel => exact ⟨(y166), (wrap64 (x4_1 + 1)), XShort.eqs, H', ⟨by have := HK1.out; omega⟩, ⟨by (with_reducible repeat (first | apply Kd.V_alloc | apply Kd.V_drewN | apply Kd.V_drew)); exact Kd.V_mono HO_0.out (fun _ hk => hk.2)⟩, ⟨by (with_reducible repeat (first | apply Kd.R_alloc | apply Kd.R_drewN | apply Kd.R_drew)); exact HO168.out⟩, ⟨XShort.bel⟩⟩
         ·rw [if_neg c16] at H
          exact absurd H (by simp)
       ·rw [if_neg c13] at H
        exact absurd H (by simp)
      ·rw [if_neg c12] at H
       exact absurd H (by simp)
     ·rw [if_neg c10] at H
      exact absurd H (by simp)
   ·rw [if_neg c4] at H
    have c4b0 : decide (x4_1 < (t156.length : Int)) = false := decide_eq_false c4
    clear c4
    obtain rfl := Option.some.inj H
    obtain ⟨Ao19, co19, eo19⟩ := Kd.V_slice HO_0.out
    subst eo19
    go_wp2
    repeat (go_quiet (fail); try go_wp2)
    go_ret
    exact ⟨_, by first | rfl | (simp [errW_none, errW_some] <;> rfl) | (simp [*, errW_none, errW_some] <;> rfl), by (with_reducible repeat (first | apply Kd.R_alloc | apply Kd.R_drewN | apply Kd.R_drew)); exact HO_3.out, XShort.bel⟩

/-! ### thistleref02_block: function 38 -/
def thistleref02_block.l0 : Nat → Int → List (S61) → Int → Option (Int)
 | 0, _, _, _ => none
 | k + 1, x0, x3, x4 => if x4 < (x3.length : Int) then (if 0 ≤ x4 then (if (wrap64 (x0)) ≥ ((rd_T61 x3 x4).f0) then (if (wrap64 (x0)) ≤ ((rd_T61 x3 x4).f1) then (some x4) else (thistleref02_block.l0 k x0 x3 (wrap64 (x4 + 1)))) else (thistleref02_block.l0 k x0 x3 (wrap64 (x4 + 1)))) else (none)) else (some (-1))
def thistleref02_block.f (k : Nat) (a0 : Int) : Option (Int) := (thistleref02_blocks.f).bind fun t169 => (thistleref02_block.l0 k a0 t169 0)
set_option maxHeartbeats 8000000 in
set_option maxRecDepth 100000 in
theorem thistleref02_block.calls (k : Nat) (a0 : Int) (r : Int) (w : World) (h : thistleref02_block.f k a0 = some r) :
  Calls Tryd.prog 38 #[.int .i32 a0] w fun e w' => e = .returned (.int .i64 r) ∧ Below w.heap.size w w' := by
 have HB := Aside0.mk (Below.refl w.heap.size w)
 have H : ((thistleref02_blocks.f).bind fun t169 => (thistleref02_block.l0 k a0 t169 0)) = some r := h
 clear h
 replace H := Option.bind_eq_some_iff.mp H
 obtain ⟨t169, A20, H⟩ := H
 replace H : (thistleref02_block.l0 k a0 t169 0) = some r := H
 have A2 := Aside0.mk A20
 clear A20
 have H' := Aside0.mk H
 clear H
 go_enter Tryd.func38, Tryd.ntmps38
 go_wp2_with (first | ((with_reducible refine gate_callee (f := 36) rfl ?_); refine goesL_ (some 5) rfl rfl Tryd.func36 (by kernel_rfl) rfl #[] rfl (by (try simp only [List.map_toArray, List.map_cons, List.map_nil]); first | done | rfl | (simp only [List.length_drop, List.length_take]; rfl)) ?_; (with_reducible refine (thistleref02_blocks.calls  t169 _ A2.out).mono ?_); rintro e w3 ⟨v170, rfl, ho0, hb⟩; refine ⟨_, rfl, ?_⟩; have n0_ := Aside0.mk (Kd.R_lower ho0 (below_size XShort.bel)); have n1_ := Aside0.mk (below_step XShort.bel hb); clear HB; have HO171 := n0_; have HB := n1_; clear n0_ n1_; (try clear hb); (try clear hb2); (try clear hk); (try clear hi); (try clear ho0)))
 go_loopg [4] k (fun kq v4 w' => ∃ (x4_1 : Int), v4 = .int .i64 x4_1 ∧ Aside0 (thistleref02_block.l0 kq a0 t169 x4_1 = some r) ∧ Aside0 (kq ≤ k) ∧ Aside0 (Kd.R k61 61 w' w.heap.size (fun _ => True) v170 t169) ∧ Aside0 (Below w.heap.size w w'))
 case atStart => exact ⟨(0), XShort.eqs, H', ⟨Nat.le_refl _⟩, ⟨by (with_reducible repeat (first | apply Kd.R_alloc | apply Kd.R_drewN | apply Kd.R_drew)); exact HO171.out⟩, ⟨XShort.bel⟩⟩
 case round =>
  clear H'
  try clear p2
  try clear c3
  obtain ⟨x4_1, rfl, HA, HK1, HO_3, HB⟩ := hrel
  cases gk with
  | zero => exact absurd HA.out (by simp [thistleref02_block.l0])
  | succ k1 =>
   have H := HA.out
   clear HA
   simp only [thistleref02_block.l0] at H
   by_cases c4 : x4_1 < (t169.length : Int)
   ·rw [if_pos c4] at H
    have c4b0 : decide (x4_1 < (t169.length : Int)) = true := decide_eq_true c4
    clear c4
    by_cases c5 : 0 ≤ x4_1
    ·rw [if_pos c5] at H
     have c5b0 : decide (0 ≤ x4_1) = true := decide_eq_true c5
     clear c5
     by_cases c6 : (wrap64 (a0)) ≥ ((rd_T61 t169 x4_1).f0)
     ·rw [if_pos c6] at H
      have c6b0 : decide (((rd_T61 t169 x4_1).f0) ≤ (wrap64 (a0))) = true := decide_eq_true c6
      clear c6
      by_cases c7 : (wrap64 (a0)) ≤ ((rd_T61 t169 x4_1).f1)
      ·rw [if_pos c7] at H
       have c7b0 : decide ((wrap64 (a0)) ≤ ((rd_T61 t169 x4_1).f1)) = true := decide_eq_true c7
       clear c7
       obtain rfl := Option.some.inj H
       obtain ⟨Ao8, co8, eo8⟩ := Kd.R_slice HO_3.out
       subst eo8
       have p172 : 0 ≤ (x4_1 : Int) := of_decide_eq_true XShort.asm
       have q172 : x4_1 < (t169.length : Int) := of_decide_eq_true XShort.asm
       obtain ⟨ad172, e172, hx172_0, hx172_1⟩ := at_T61 (Kd.R_reads' HO_3.out).2.2 x4_1 p172 q172
       cases e172
       replace p172 := eq_true p172
       replace q172 := eq_true q172
       have p173 : 0 ≤ (x4_1 : Int) := of_decide_eq_true XShort.asm
       have q173 : x4_1 < (t169.length : Int) := of_decide_eq_true XShort.asm
       obtain ⟨ad173, e173, hx173_0, hx173_1⟩ := at_T61 (Kd.R_reads' HO_3.out).2.2 x4_1 p173 q173
       obtain rfl : ad172 = ad173 := (by injection e173)
       replace p173 := eq_true p173
       replace q173 := eq_true q173
       go_wp2
       go_ret
       exact ⟨by first | rfl | (simp [errW_none, errW_some] <;> rfl) | (simp [*, errW_none, errW_some] <;> rfl), XShort.bel⟩
      ·rw [if_neg c7] at H
       have c7b0 : decide ((wrap64 (a0)) ≤ ((rd_T61 t169 x4_1).f1)) = false := decide_eq_false c7
       clear c7
       have H' := Aside0.mk H
       clear H
       obtain ⟨Ao9, co9, eo9⟩ := Kd.R_slice HO_3.out
       subst eo9
       have p172 : 0 ≤ (x4_1 : Int) := of_decide_eq_true XShort.asm
       have q172 : x4_1 < (t169.length : Int) := of_decide_eq_true XShort.asm
       obtain ⟨ad172, e172, hx172_0, hx172_1⟩ := at_T61 (Kd.R_reads' HO_3.out).2.2 x4_1 p172 q172
       cases e172
       replace p172 := eq_true p172
       replace q172 := eq_true q172
       have p173 : 0 ≤ (x4_1 : Int) := of_decide_eq_true XShort.asm
       have q173 : x4_1 < (t169.length : Int) := of_decide_eq_true XShort.asm
       obtain ⟨ad173, e173, hx173_0, hx173_1⟩ := at_T61 (Kd.R_reads' HO_3.out).2.2 x4_1 p173 q173
       obtain rfl : ad172 = ad173 := (by injection e173)
       replace p173 := eq_true p173
       replace q173 := eq_true q173
       go_wp2
       go_roundg k1
       case measure => have := HK1.out; omega
       case rel => exact ⟨(wrap64 (x4_1 + 1)), XShort.eqs, H', ⟨by have := HK1.out; omega⟩, ⟨by (with_reducible repeat (first | apply Kd.R_alloc | apply Kd.R_drewN | apply Kd.R_drew)); exact HO_3.out⟩, ⟨XShort.bel⟩⟩
     ·rw [if_neg c6] at H
      have c6b0 : decide (((rd_T61 t169 x4_1).f0) ≤ (wrap64 (a0))) = false := decide_eq_false c6
      clear c6
      have H' := Aside0.mk H
      clear H
      obtain ⟨Ao10, co10, eo10⟩ := Kd.R_slice HO_3.out
      subst eo10
      have p172 : 0 ≤ (x4_1 : Int) := of_decide_eq_true XShort.asm
      have q172 : x4_1 < (t169.length : Int) := of_decide_eq_true XShort.asm
      obtain ⟨ad172, e172, hx172_0, hx172_1⟩ := at_T61 (Kd.R_reads' HO_3.out).2.2 x4_1 p172 q172
      cases e172
      replace p172 := eq_true p172
      replace q172 := eq_true q172
      go_wp2
      go_roundg k1
      case measure => have := HK1.out; omega
      case rel => exact ⟨(wrap64 (x4_1 + 1)), XShort.eqs, H', ⟨by have := HK1.out; omega⟩, ⟨by (with_reducible repeat (first | apply Kd.R_alloc | apply Kd.R_drewN | apply Kd.R_drew)); exact HO_3.out⟩, ⟨XShort.bel⟩⟩
    ·rw [if_neg c5] at H
     exact absurd H (by simp)
   ·rw [if_neg c4] at H
    have c4b0 : decide (x4_1 < (t169.length : Int)) = false := decide_eq_false c4
    clear c4
    obtain rfl := Option.some.inj H
    obtain ⟨Ao11, co11, eo11⟩ := Kd.R_slice HO_3.out
    subst eo11
    go_wp2
    go_ret
    exact ⟨by first | rfl | (simp [errW_none, errW_some] <;> rfl) | (simp [*, errW_none, errW_some] <;> rfl), XShort.bel⟩

end Go.Proofs.YtcfecoalljfoaaaDoor.XS
