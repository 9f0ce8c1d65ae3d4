/- WRITTEN BY A PROGRAM OF THIS SESSION (wip/tools/xprint.py, over the kit's printer): contracts of the functions that the seat's laws reach. -/
import Derived.Test.YtcpjflgiimjfmaaDoorXLibShort
import Derived.Test.YtcpjflgiimjfmaaDoorXF0
namespace Go.Proofs.YtcpjflgiimjfmaaDoor.XF
open Go.Proofs.YtcpjflgiimjfmaaDoor.XShort (o i)
open Go.RowKit Go.Proofs.YtcpjflgiimjfmaaDoorW.PrintWords Go.Proofs.YtcpjflgiimjfmaaDoorW.PrintLast Go.Proofs.YtcpjflgiimjfmaaDoorW.PrintMore
attribute [local go_sem] max2_int min2_int max_two min_two max_three min_three max_four min_four
set_option linter.unusedVariables false
set_option linter.unusedSimpArgs false

/-! ### sets_band: function 26 -/
def bandsL : List S41 := [⟨0, 55295⟩, ⟨57344, 1114111⟩, ⟨1114240, 1114367⟩]
theorem bands_reads {w : World} (hG : GOK w) : Kd.C k41 w (some ⟨0, 0, none⟩) 3 bandsL := by
 refine ⟨rfl, by omega, fun _ => ⟨_, rfl, ?_⟩⟩
 intro j p hj
 refine ⟨_, ?_, k41_mk w p, ?_⟩
 ·rfl
 intro i u hu
 rcases j with _ | _ | _ | j
 ·obtain rfl : p = ⟨0, 55295⟩ := by simpa [bandsL] using hj.symm
  rcases i with _ | _ | i
  ·obtain rfl := Option.some.inj hu
   exact hG.sets_bands 0 _ rfl
  ·obtain rfl := Option.some.inj hu
   exact hG.sets_bands 1 _ rfl
  ·exact absurd hu (by simp)
 ·obtain rfl : p = ⟨57344, 1114111⟩ := by simpa [bandsL] using hj.symm
  rcases i with _ | _ | i
  ·obtain rfl := Option.some.inj hu
   exact hG.sets_bands 2 _ rfl
  ·obtain rfl := Option.some.inj hu
   exact hG.sets_bands 3 _ rfl
  ·exact absurd hu (by simp)
 ·obtain rfl : p = ⟨1114240, 1114367⟩ := by simpa [bandsL] using hj.symm
  rcases i with _ | _ | i
  ·obtain rfl := Option.some.inj hu
   exact hG.sets_bands 4 _ rfl
  ·obtain rfl := Option.some.inj hu
   exact hG.sets_bands 5 _ rfl
  ·exact absurd hu (by simp)
 ·exact absurd hj (by simp [bandsL])
set_option maxHeartbeats 800000 in
theorem band_lit (x y u : Int) (g : Nat) (W : World) (hcap : W.cell? ⟨g, 0, none⟩ = some (.int .i32 u)) (hg : g < W.heap.size) :
  Calls Tryd.prog 47 #[.agg #[.int .i32 x, .int .i32 y], .pointer (some ⟨g, 0, none⟩)] W fun e w' => e = .returned (.bool (decide (x ≤ u) && decide (u ≤ y))) ∧ Below W.heap.size W w' := by
 have hu31 := Tryd.underlying41
 by_cases h1 : x ≤ u
 ·have d1 : decide (x ≤ u) = true := decide_eq_true h1
  rw [d1]; simp only [Bool.true_and]
  go_enter Tryd.func47, Tryd.ntmps47
  go_wp2
  go_ret
  exact ⟨rfl, by repeat (first | exact Below.refl _ _ | apply below_alloc | apply pw_below_drewN | apply below_drew1)⟩
 ·have d1 : decide (x ≤ u) = false := decide_eq_false h1
  rw [d1]; simp only [Bool.false_and]
  go_enter Tryd.func47, Tryd.ntmps47
  go_wp2
  go_ret
  exact ⟨rfl, by repeat (first | exact Below.refl _ _ | apply below_alloc | apply pw_below_drewN | apply below_drew1)⟩
def bandIdx (u : Int) : List S41 → Int → Int
 | [], _ => -1
 | x :: xs, i => if x.f0 ≤ u ∧ u ≤ x.f1 then i else bandIdx u xs (i + 1)
set_option maxHeartbeats 800000 in
set_option maxRecDepth 100000 in
theorem band_idx (u : Int) (g : Nat) (A : Option Addr) (c : Nat) (l : List S41) (w : World) (hr : Kd.C k41 w A l.length l) (hc : l.length ≤ c) (hcap : w.cell? ⟨g, 0, none⟩ = some (.int .i32 u)) (hg : g < w.heap.size) :
  Calls Tryd.prog 46 #[.slice A l.length c, .func (.func 47) #[] #[.pointer (some ⟨g, 0, none⟩)]] w fun e w' => e = .returned (.int .i64 (bandIdx u l 0)) ∧ Below w.heap.size w w' := by
 have hu31 := Tryd.underlying41
 have hm : l.length ≤ 9223372036854775807 := hr.2.1
 have HR := Aside0.mk hr
 clear hr
 have HG := Aside0.mk hcap
 clear hcap
 go_enter Tryd.func46, Tryd.ntmps46
 go_wp2
 go_loopw [8] (fun v wr => ∃ k : Nat, k ≤ l.length ∧ v = .int .i64 k ∧ Aside0 (bandIdx u (l.drop k) k = bandIdx u l 0) ∧ Aside0 (Below w.heap.size w wr)) (fun v _ => l.length - (intOf v).toNat)
 case atStart => exact ⟨0, Nat.zero_le _, rfl, ⟨rfl⟩, ⟨Below.refl _ _⟩⟩
 case round =>
  obtain ⟨k, hk, rfl, HI, HB⟩ := hrel
  by_cases hlt : k < l.length
  ·have hc1 := at_T41 (Kd.C_below HR.out HB.out) k (by omega) (by omega)
   obtain ⟨ad, rfl, h0, h1⟩ := hc1
   have hI := HI.out
   rw [List.drop_eq_getElem_cons hlt, bandIdx] at hI
   have hx : rd_T41 l (k : Int) = l[k] := by simp [rd_T41, hlt]
   simp only [Int.toNat_natCast] at h0 h1
   have hcw : wr.cell? ⟨g, 0, none⟩ = some (.int .i32 u) := (HB.out.cell (p := ⟨g, 0, none⟩) hg).trans HG.out
   have hgw : g < wr.heap.size := Nat.lt_of_lt_of_le hg HB.out.size
   have HC := Aside0.mk (band_lit (rd_T41 l (k : Int)).f0 (rd_T41 l (k : Int)).f1 u g wr hcw hgw)
   clear hcw
   by_cases hp : l[k].f0 ≤ u ∧ u ≤ l[k].f1
   ·rw [if_pos hp] at hI
    have HI2 := Aside0.mk hI
    have hd : (decide ((rd_T41 l (k : Int)).f0 ≤ u) && decide (u ≤ (rd_T41 l (k : Int)).f1)) = true := by rw [hx]; simp [hp]
    rw [hd] at HC
    clear hI HI hd hx hp
    go_wp2_with (refine HC.out.mono ?_; rintro e w' ⟨rfl, hb⟩; have HB2 := Aside0.mk (below_step HB.out hb); clear hb)
    go_ret
    exact ⟨by rw [← HI2.out]; rfl, HB2.out⟩
   ·rw [if_neg hp] at hI
    have HI2 := Aside0.mk hI
    have hd : (decide ((rd_T41 l (k : Int)).f0 ≤ u) && decide (u ≤ (rd_T41 l (k : Int)).f1)) = false := by rw [hx]; simp; omega
    rw [hd] at HC
    clear hI HI hd hx hp
    go_wp2_with (refine HC.out.mono ?_; rintro e w' ⟨rfl, hb⟩; have HB2 := Aside0.mk (below_step HB.out hb); clear hb)
    go_roundw
    case rel => exact ⟨k + 1, by omega, by go_num, ⟨by have := HI2.out; simpa using this⟩, HB2⟩
    case measure => simp [intOf]; omega
  ·have hkl : k = l.length := by omega
   have hI := HI.out
   rw [List.drop_eq_nil_of_le (by omega), bandIdx] at hI
   have HI2 := Aside0.mk hI
   clear hI HI hkl
   go_wp2
   go_ret
   exact ⟨by rw [← HI2.out]; rfl, HB.out⟩
/-- the number of the band that u lies in; -1: none -/
def sets_band.f (a0 : Int) : Option Int := some (bandIdx a0 bandsL 0)
set_option maxHeartbeats 800000 in
set_option maxRecDepth 100000 in
theorem sets_band.calls (a0 : Int) (r : Int) (w : World) (h : sets_band.f a0 = some r) (hG : GOK w := by first | (with_reducible exact HG_.out) | exact GOK.below HG_.out (by repeat (first | (with_reducible exact Below.refl _ _) | (with_reducible first | exact HB.out | apply below_alloc | apply pw_below_drewN | apply below_drew1 | refine below_set ?_ (Aside0.out (by assumption))) | exact HB.out)) | exact GOK.drewN HG_.out _ | exact GOK.drewN (GOK.drewN HG_.out _) _ | exact GOK.drew HG_.out) :
  Calls Tryd.prog 26 #[.int .i32 a0] w fun e w' => e = .returned (.int .i64 r) ∧ Below w.heap.size w w' := by
 have hu31 := Tryd.underlying41
 obtain rfl := Option.some.inj h
 have hA : Below w.heap.size w (w.alloc (.cells #[.int .i32 a0] 21)) := below_alloc (Below.refl _ _) _
 have HA := Aside0.mk hA
 have HC := Aside0.mk (band_idx a0 w.heap.size (some ⟨0, 0, none⟩) 3 bandsL (w.alloc (.cells #[.int .i32 a0] 21)) (bands_reads (hG.below hA)) (Nat.le_refl _) ((blk_cell (heap_alloc_new _ _) 0).trans rfl) (by simp))
 clear hA h
 have HGG := Aside0.mk hG
 clear hG
 go_enter Tryd.func26, Tryd.ntmps26
 go_wp2_with (refine HC.out.mono ?_; rintro e w' ⟨rfl, hb⟩; have HB := Aside0.mk (below_step HA.out hb); clear hb)
 go_ret
 exact ⟨rfl, HB.out⟩

/-! ### sets_Check: function 10 -/
mutual
def sets_Check.l0 : Nat → List (S41) → List (S41) → Int → Int → Option (Int)
 | 0, _, _, _, _ => none
 | k + 1, x0, x6, x7, x8 => if x8 < x7 then (if 0 ≤ x8 then (if x8 < (x6.length : Int) then ((sets_band.f ((rd_T41 x6 x8).f0)).bind fun t359 => (if t359 < 0 then (sets_Check.j1 k x0 x8 x6 x7 x8 true ((rd_T41 x6 x8).f0) ((rd_T41 x6 x8).f1)) else ((sets_band.f ((rd_T41 x6 x8).f1)).bind fun t360 => (if t359 = t360 then (sets_Check.j1 k x0 x8 x6 x7 x8 (decide (((rd_T41 x6 x8).f0) > ((rd_T41 x6 x8).f1))) ((rd_T41 x6 x8).f0) ((rd_T41 x6 x8).f1)) else (sets_Check.j1 k x0 x8 x6 x7 x8 true ((rd_T41 x6 x8).f0) ((rd_T41 x6 x8).f1)))))) else (none)) else (none)) else (some 0)
def sets_Check.j1 : Nat → List (S41) → Int → List (S41) → Int → Int → Bool → Int → Int → Option (Int)
 | 0, _, _, _, _, _, _, _, _ => none
 | k + 1, x0, x3, x6, x7, x8, x31, x359000, x359001 => if x31 = true then (some 1) else (if x3 > 0 then (if 0 ≤ (wrap64 (x3 - 1)) then (if (wrap64 (x3 - 1)) < (x0.length : Int) then (if x359000 ≤ ((rd_T41 x0 (wrap64 (x3 - 1))).f1) then (some 1) else (if x359000 = (wrap32 (((rd_T41 x0 (wrap64 (x3 - 1))).f1) + 1)) then (some 1) else (sets_Check.l0 k x0 x6 x7 (wrap64 (x8 + 1))))) else (none)) else (none)) else (sets_Check.l0 k x0 x6 x7 (wrap64 (x8 + 1))))
end
def sets_Check.f (k : Nat) (l0 : List (S41)) : Option (Int) := sets_Check.l0 k l0 l0 (l0.length : Int) 0
theorem sets_Check.mono_l : ∀ k, (∀ y0 y1 y2 y3, LeO (sets_Check.l0 k y0 y1 y2 y3) (sets_Check.l0 (k + 1) y0 y1 y2 y3)) ∧ (∀ y0 y1 y2 y3 y4 y5 y6 y7, LeO (sets_Check.j1 k y0 y1 y2 y3 y4 y5 y6 y7) (sets_Check.j1 (k + 1) y0 y1 y2 y3 y4 y5 y6 y7))
 | 0 => ⟨fun _ _ _ _ r h => by simp [sets_Check.l0] at h, fun _ _ _ _ _ _ _ _ r h => by simp [sets_Check.j1] at h⟩
 | k + 1 => by
  obtain ⟨ih0, ih1⟩ := sets_Check.mono_l k
  refine ⟨?_, ?_⟩
  ·intro y0 y1 y2 y3
   unfold sets_Check.l0
   repeat' first
   | (with_reducible exact ih0 _ _ _ _)
   | (with_reducible exact ih1 _ _ _ _ _ _ _ _)
   | (with_reducible exact LeO.refl _)
   | (with_reducible exact LeO.none _)
   | (with_reducible refine LeO.ite ?_ ?_)
   | (with_reducible refine LeO.bind ?_ (fun _ => ?_))
   | exact ih0 _ _ _ _
   | exact ih1 _ _ _ _ _ _ _ _
   | exact LeO.none _
   | refine LeO.ite ?_ ?_
   | refine LeO.bind ?_ (fun _ => ?_)
  ·intro y0 y1 y2 y3 y4 y5 y6 y7
   unfold sets_Check.j1
   repeat' first
   | (with_reducible exact ih0 _ _ _ _)
   | (with_reducible exact ih1 _ _ _ _ _ _ _ _)
   | (with_reducible exact LeO.refl _)
   | (with_reducible exact LeO.none _)
   | (with_reducible refine LeO.ite ?_ ?_)
   | (with_reducible refine LeO.bind ?_ (fun _ => ?_))
   | exact ih0 _ _ _ _
   | exact ih1 _ _ _ _ _ _ _ _
   | exact LeO.none _
   | refine LeO.ite ?_ ?_
   | refine LeO.bind ?_ (fun _ => ?_)
theorem sets_Check.mono : ∀ a0 k, LeO (sets_Check.f k a0) (sets_Check.f (k + 1) a0) := by
 intro a0 k
 obtain ⟨ih0, ih1⟩ := sets_Check.mono_l k
 unfold sets_Check.f
 repeat' first
   | (with_reducible exact ih0 _ _ _ _)
   | (with_reducible exact ih1 _ _ _ _ _ _ _ _)
   | (with_reducible exact LeO.refl _)
   | (with_reducible exact LeO.none _)
   | (with_reducible refine LeO.ite ?_ ?_)
   | (with_reducible refine LeO.bind ?_ (fun _ => ?_))
   | exact ih0 _ _ _ _
   | exact ih1 _ _ _ _ _ _ _ _
   | exact LeO.none _
   | refine LeO.ite ?_ ?_
   | refine LeO.bind ?_ (fun _ => ?_)
set_option maxHeartbeats 8000000 in
set_option maxRecDepth 100000 in
theorem sets_Check.calls (k : Nat) (A0 : Option Addr) (c0 : Nat) (l0 : List (S41)) (r : Int) (w : World) (hr0 : Kd.C k41 w A0 l0.length l0) (hc0 : l0.length ≤ c0) (h : sets_Check.f k l0 = some r) (hG : GOK w := by first | (with_reducible exact HG_.out) | exact GOK.below HG_.out (by repeat (first | (with_reducible exact Below.refl _ _) | (with_reducible first | exact HB.out | apply below_alloc | apply pw_below_drewN | apply below_drew1 | refine below_set ?_ (Aside0.out (by assumption))) | exact HB.out)) | exact GOK.drewN HG_.out _ | exact GOK.drewN (GOK.drewN HG_.out _) _ | exact GOK.drew HG_.out) :
  Calls Tryd.prog 10 #[.slice A0 l0.length c0] w fun e w' => e = .returned (.int .i64 r) ∧ Below w.heap.size w w' := by
 have HG_ := Aside0.mk hG
 clear hG
 have hu41 := Tryd.underlying41
 have HR0 := Aside0.mk hr0
 have HC0 := Aside0.mk hc0
 clear hr0 hc0
 have HB := Aside0.mk (Below.refl w.heap.size w)
 have H : (sets_Check.l0 k l0 l0 (l0.length : Int) 0) = some r := h
 clear h
 have H' := Aside0.mk H
 clear H
 go_enter Tryd.func10, Tryd.ntmps10
 go_wp2
 repeat (go_quiet (fail); try go_wp2)
 go_loopg [8] k (fun kq v8 w' => ∃ (x8_1 : Int), v8 = .int .i64 x8_1 ∧ Aside0 (sets_Check.l0 kq l0 l0 (l0.length : Int) x8_1 = some r) ∧ Aside0 (kq ≤ k) ∧ Aside0 (Below w.heap.size w w'))
 case atStart => exact ⟨(0), XShort.eqs, H', ⟨Nat.le_refl _⟩, ⟨XShort.bel⟩⟩
 case round =>
  clear H'
  try clear c1
  obtain ⟨x8_1, rfl, HA, HK1, HB⟩ := hrel
  cases gk with
  | zero => exact absurd HA.out (by simp [sets_Check.l0])
  | succ k1 =>
   have H := HA.out
   clear HA
   simp only [sets_Check.l0] at H
   by_cases c2 : x8_1 < (l0.length : Int)
   ·rw [if_pos c2] at H
    have c2b0 : decide (x8_1 < (l0.length : Int)) = true := decide_eq_true c2
    clear c2
    by_cases c3 : 0 ≤ x8_1
    ·rw [if_pos c3] at H
     have c3b0 : decide (0 ≤ x8_1) = true := decide_eq_true c3
     clear c3
     by_cases c4 : x8_1 < (l0.length : Int)
     ·rw [if_pos c4] at H
      have c4b0 : decide (x8_1 < (l0.length : Int)) = true := decide_eq_true c4
      clear c4
      replace H := Option.bind_eq_some_iff.mp H
      obtain ⟨t359, A50, H⟩ := H
      replace H : (if t359 < 0 then (sets_Check.j1 k1 l0 x8_1 l0 (l0.length : Int) x8_1 true ((rd_T41 l0 x8_1).f0) ((rd_T41 l0 x8_1).f1)) else ((sets_band.f ((rd_T41 l0 x8_1).f1)).bind fun t360 => (if t359 = t360 then (sets_Check.j1 k1 l0 x8_1 l0 (l0.length : Int) x8_1 (decide (((rd_T41 l0 x8_1).f0) > ((rd_T41 l0 x8_1).f1))) ((rd_T41 l0 x8_1).f0) ((rd_T41 l0 x8_1).f1)) else (sets_Check.j1 k1 l0 x8_1 l0 (l0.length : Int) x8_1 true ((rd_T41 l0 x8_1).f0) ((rd_T41 l0 x8_1).f1))))) = some r := H
      have A5 := Aside0.mk A50
      clear A50
      have HC6 := Aside0.mk H
      clear H
      have p357 : 0 ≤ (x8_1 : Int) := of_decide_eq_true XShort.asm
      have q357 : x8_1 < (l0.length : Int) := of_decide_eq_true XShort.asm
      obtain ⟨ad357, e357, hx357_0, hx357_1⟩ := at_T41 HR0.out x8_1 p357 q357
      cases e357
      replace hx357_0 := (HB.out.cell (World.block_lt_of_cell? w _ hx357_0)).trans hx357_0
      replace hx357_1 := (HB.out.cell (World.block_lt_of_cell? w _ hx357_1)).trans hx357_1
      replace p357 := eq_true p357
      replace q357 := eq_true q357
      go_upto_region 5 with (first | ((with_reducible refine gate_dst (N := 4) rfl ?_); refine box_event ?hg (N := 4) ?hd (cs := #[.int .i32 0, .int .i32 0]) (t := 41) ?hr ?_; (case hd => rfl); (case hg => rfl); (case hr => first | (go_simp; done) | (go_simp; rfl)); intro gb358 hg w7 hbox hb; have n0_ := Aside0.mk (below_step XShort.bel hb); have n1_ := Aside0.mk (hbox); have n2_ := Aside0.mk ((by rw [hg]; exact (below_size XShort.bel) : w.heap.size ≤ gb358)); have n3_ := Aside0.mk ((by rw [hg]; exact (below_size XShort.bel) : w.heap.size ≤ gb358)); clear HB; have HB := n0_; have BK358 := n1_; have GW358 := n2_; have GE358 := n3_; clear n0_ n1_ n2_ n3_; clear hb hbox hg; have hcz8_0 : w7.cell? ⟨gb358, 0, none⟩ = some (.int .i32 0) := (blk_cell BK358.out 0).trans rfl; have hcz8_1 : w7.cell? ⟨gb358, 1, none⟩ = some (.int .i32 0) := (blk_cell BK358.out 1).trans rfl; have hfz8_0 := blk_frozen BK358.out 0; have hfz8_1 := blk_frozen BK358.out 1) | (go_at_call 26; (with_reducible refine (sets_band.calls ((rd_T41 l0 x8_1).f0) t359 _ A5.out).mono ?_); rintro e w9 ⟨rfl, hb⟩; have n0_ := Aside0.mk (blk_below (g := gb358) (o := .cells #[.int .i32 ((rd_T41 l0 x8_1).f0), .int .i32 ((rd_T41 l0 x8_1).f1)] 41 (0, 0)) (by (with_reducible repeat (first | refine blk_drewN ?_ _ | refine blk_drew ?_ | refine blk_alloc ?_ _)); refine blk_put (cs := #[.int .i32 ((rd_T41 l0 x8_1).f0), .int .i32 0]) ?_ 1 _ rfl; (with_reducible repeat (first | refine blk_drewN ?_ _ | refine blk_drew ?_ | refine blk_alloc ?_ _)); refine blk_put (cs := #[.int .i32 0, .int .i32 0]) ?_ 0 _ rfl; (with_reducible repeat (first | refine blk_drewN ?_ _ | refine blk_drew ?_ | refine blk_alloc ?_ _)); exact BK358.out) hb); have n1_ := Aside0.mk (below_step (by repeat (first | (with_reducible first | exact HB.out | apply below_alloc | apply pw_below_drewN | apply below_drew1 | refine below_set ?_ GE358.out) | exact HB.out)) hb); clear BK358; clear HB; have BK358 := n0_; have HB := n1_; clear n0_ n1_; (try clear hb); (try clear hb2); (try clear hk); (try clear hi)))
      repeat (go_quiet (first | ((with_reducible refine gate_dst (N := 4) rfl ?_); refine box_event ?hg (N := 4) ?hd (cs := #[.int .i32 0, .int .i32 0]) (t := 41) ?hr ?_; (case hd => rfl); (case hg => rfl); (case hr => first | (go_simp; done) | (go_simp; rfl)); intro gb358 hg w7 hbox hb; have n0_ := Aside0.mk (below_step XShort.bel hb); have n1_ := Aside0.mk (hbox); have n2_ := Aside0.mk ((by rw [hg]; exact (below_size XShort.bel) : w.heap.size ≤ gb358)); have n3_ := Aside0.mk ((by rw [hg]; exact (below_size XShort.bel) : w.heap.size ≤ gb358)); clear HB; have HB := n0_; have BK358 := n1_; have GW358 := n2_; have GE358 := n3_; clear n0_ n1_ n2_ n3_; clear hb hbox hg; have hcz8_0 : w7.cell? ⟨gb358, 0, none⟩ = some (.int .i32 0) := (blk_cell BK358.out 0).trans rfl; have hcz8_1 : w7.cell? ⟨gb358, 1, none⟩ = some (.int .i32 0) := (blk_cell BK358.out 1).trans rfl; have hfz8_0 := blk_frozen BK358.out 0; have hfz8_1 := blk_frozen BK358.out 1) | (go_at_call 26; (with_reducible refine (sets_band.calls ((rd_T41 l0 x8_1).f0) t359 _ A5.out).mono ?_); rintro e w9 ⟨rfl, hb⟩; have n0_ := Aside0.mk (blk_below (g := gb358) (o := .cells #[.int .i32 ((rd_T41 l0 x8_1).f0), .int .i32 ((rd_T41 l0 x8_1).f1)] 41 (0, 0)) (by (with_reducible repeat (first | refine blk_drewN ?_ _ | refine blk_drew ?_ | refine blk_alloc ?_ _)); refine blk_put (cs := #[.int .i32 ((rd_T41 l0 x8_1).f0), .int .i32 0]) ?_ 1 _ rfl; (with_reducible repeat (first | refine blk_drewN ?_ _ | refine blk_drew ?_ | refine blk_alloc ?_ _)); refine blk_put (cs := #[.int .i32 0, .int .i32 0]) ?_ 0 _ rfl; (with_reducible repeat (first | refine blk_drewN ?_ _ | refine blk_drew ?_ | refine blk_alloc ?_ _)); exact BK358.out) hb); have n1_ := Aside0.mk (below_step (by repeat (first | (with_reducible first | exact HB.out | apply below_alloc | apply pw_below_drewN | apply below_drew1 | refine below_set ?_ GE358.out) | exact HB.out)) hb); clear BK358; clear HB; have BK358 := n0_; have HB := n1_; clear n0_ n1_; (try clear hb); (try clear hb2); (try clear hk); (try clear hi))); go_upto_region 5 with (first | ((with_reducible refine gate_dst (N := 4) rfl ?_); refine box_event ?hg (N := 4) ?hd (cs := #[.int .i32 0, .int .i32 0]) (t := 41) ?hr ?_; (case hd => rfl); (case hg => rfl); (case hr => first | (go_simp; done) | (go_simp; rfl)); intro gb358 hg w7 hbox hb; have n0_ := Aside0.mk (below_step XShort.bel hb); have n1_ := Aside0.mk (hbox); have n2_ := Aside0.mk ((by rw [hg]; exact (below_size XShort.bel) : w.heap.size ≤ gb358)); have n3_ := Aside0.mk ((by rw [hg]; exact (below_size XShort.bel) : w.heap.size ≤ gb358)); clear HB; have HB := n0_; have BK358 := n1_; have GW358 := n2_; have GE358 := n3_; clear n0_ n1_ n2_ n3_; clear hb hbox hg; have hcz8_0 : w7.cell? ⟨gb358, 0, none⟩ = some (.int .i32 0) := (blk_cell BK358.out 0).trans rfl; have hcz8_1 : w7.cell? ⟨gb358, 1, none⟩ = some (.int .i32 0) := (blk_cell BK358.out 1).trans rfl; have hfz8_0 := blk_frozen BK358.out 0; have hfz8_1 := blk_frozen BK358.out 1) | (go_at_call 26; (with_reducible refine (sets_band.calls ((rd_T41 l0 x8_1).f0) t359 _ A5.out).mono ?_); rintro e w9 ⟨rfl, hb⟩; have n0_ := Aside0.mk (blk_below (g := gb358) (o := .cells #[.int .i32 ((rd_T41 l0 x8_1).f0), .int .i32 ((rd_T41 l0 x8_1).f1)] 41 (0, 0)) (by (with_reducible repeat (first | refine blk_drewN ?_ _ | refine blk_drew ?_ | refine blk_alloc ?_ _)); refine blk_put (cs := #[.int .i32 ((rd_T41 l0 x8_1).f0), .int .i32 0]) ?_ 1 _ rfl; (with_reducible repeat (first | refine blk_drewN ?_ _ | refine blk_drew ?_ | refine blk_alloc ?_ _)); refine blk_put (cs := #[.int .i32 0, .int .i32 0]) ?_ 0 _ rfl; (with_reducible repeat (first | refine blk_drewN ?_ _ | refine blk_drew ?_ | refine blk_alloc ?_ _)); exact BK358.out) hb); have n1_ := Aside0.mk (below_step (by repeat (first | (with_reducible first | exact HB.out | apply below_alloc | apply pw_below_drewN | apply below_drew1 | refine below_set ?_ GE358.out) | exact HB.out)) hb); clear BK358; clear HB; have BK358 := n0_; have HB := n1_; clear n0_ n1_; (try clear hb); (try clear hb2); (try clear hk); (try clear hi))))
      (try simp only [Act.put, List.setIfInBounds_toArray, List.set_cons_zero, List.set_cons_succ])
      go_cut [31] (fun v31 wc => ∃ (kq : Nat) (x31_5 : Bool), v31 = .bool x31_5 ∧ Aside0 (sets_Check.j1 kq l0 x8_1 l0 (l0.length : Int) x8_1 x31_5 ((rd_T41 l0 x8_1).f0) ((rd_T41 l0 x8_1).f1) = some r) ∧ Aside0 (kq ≤ k1) ∧ Aside0 (wc.heap[gb358]? = some (.cells #[.int .i32 ((rd_T41 l0 x8_1).f0), .int .i32 ((rd_T41 l0 x8_1).f1)] 41 (0, 0))) ∧ Aside0 (Below w.heap.size w wc))
      case first =>
       have H := HC6.out
       clear HC6
       by_cases c10 : t359 < 0
       ·rw [if_pos c10] at H
        have c10b0 : decide (t359 < 0) = true := decide_eq_true c10
        clear c10
        (first | rw [c10b0] | (simp only [i64_w, i32_w]; rw [c10b0]) | skip)
        have H' := Aside0.mk H
        clear H
        go_wp2
        repeat (go_quiet (fail); try go_wp2)
        go_meet
        case rel => exact ⟨_, (true), XShort.eqs, H', ⟨by have := HK1.out; first | omega | exact Nat.le_refl _⟩, ⟨by (with_reducible repeat (first | refine blk_drewN ?_ _ | refine blk_drew ?_ | refine blk_alloc ?_ _)); exact BK358.out⟩, ⟨by repeat (first | (with_reducible first | exact HB.out | apply below_alloc | apply pw_below_drewN | apply below_drew1 | refine below_set ?_ GE358.out) | exact HB.out)⟩⟩
       ·rw [if_neg c10] at H
        have c10b0 : decide (t359 < 0) = false := decide_eq_false c10
        clear c10
        (first | rw [c10b0] | (simp only [i64_w, i32_w]; rw [c10b0]) | skip)
        replace H := Option.bind_eq_some_iff.mp H
        obtain ⟨t360, A110, H⟩ := H
        replace H : (if t359 = t360 then (sets_Check.j1 k1 l0 x8_1 l0 (l0.length : Int) x8_1 (decide (((rd_T41 l0 x8_1).f0) > ((rd_T41 l0 x8_1).f1))) ((rd_T41 l0 x8_1).f0) ((rd_T41 l0 x8_1).f1)) else (sets_Check.j1 k1 l0 x8_1 l0 (l0.length : Int) x8_1 true ((rd_T41 l0 x8_1).f0) ((rd_T41 l0 x8_1).f1))) = some r := H
        have A11 := Aside0.mk A110
        clear A110
        by_cases c12 : t359 = t360
        ·rw [if_pos c12] at H
         have c12b0 : (t359 == t360) = true := beq_iff_eq.mpr c12
         have c12b1 : (t359 != t360) = false := bne_eq_false_iff_eq.mpr c12
         clear c12
         have H' := Aside0.mk H
         clear H
         have hcz13_0 : w9.cell? ⟨gb358, 0, none⟩ = some (.int .i32 ((rd_T41 l0 x8_1).f0)) := (blk_cell BK358.out 0).trans rfl
         have hcz13_1 : w9.cell? ⟨gb358, 1, none⟩ = some (.int .i32 ((rd_T41 l0 x8_1).f1)) := (blk_cell BK358.out 1).trans rfl
         have hfz13_0 := blk_frozen BK358.out 0
         have hfz13_1 := blk_frozen BK358.out 1
         go_wp2_with (first | (go_at_call 26; (with_reducible refine (sets_band.calls ((rd_T41 l0 x8_1).f1) t360 _ A11.out).mono ?_); rintro e w14 ⟨rfl, hb⟩; have n0_ := Aside0.mk (blk_below (g := gb358) (o := .cells #[.int .i32 ((rd_T41 l0 x8_1).f0), .int .i32 ((rd_T41 l0 x8_1).f1)] 41 (0, 0)) (by (with_reducible repeat (first | refine blk_drewN ?_ _ | refine blk_drew ?_ | refine blk_alloc ?_ _)); exact BK358.out) hb); have n1_ := Aside0.mk (below_step (by repeat (first | (with_reducible first | exact HB.out | apply below_alloc | apply pw_below_drewN | apply below_drew1 | refine below_set ?_ GE358.out) | exact HB.out)) hb); clear BK358; clear HB; have BK358 := n0_; have HB := n1_; clear n0_ n1_; (try clear hb); (try clear hb2); (try clear hk); (try clear hi); have hcz15_0 : w14.cell? ⟨gb358, 0, none⟩ = some (.int .i32 ((rd_T41 l0 x8_1).f0)) := (blk_cell BK358.out 0).trans rfl; have hcz15_1 : w14.cell? ⟨gb358, 1, none⟩ = some (.int .i32 ((rd_T41 l0 x8_1).f1)) := (blk_cell BK358.out 1).trans rfl; have hfz15_0 := blk_frozen BK358.out 0; have hfz15_1 := blk_frozen BK358.out 1))
         repeat (go_quiet (first | (go_at_call 26; (with_reducible refine (sets_band.calls ((rd_T41 l0 x8_1).f1) t360 _ A11.out).mono ?_); rintro e w14 ⟨rfl, hb⟩; have n0_ := Aside0.mk (blk_below (g := gb358) (o := .cells #[.int .i32 ((rd_T41 l0 x8_1).f0), .int .i32 ((rd_T41 l0 x8_1).f1)] 41 (0, 0)) (by (with_reducible repeat (first | refine blk_drewN ?_ _ | refine blk_drew ?_ | refine blk_alloc ?_ _)); exact BK358.out) hb); have n1_ := Aside0.mk (below_step (by repeat (first | (with_reducible first | exact HB.out | apply below_alloc | apply pw_below_drewN | apply below_drew1 | refine below_set ?_ GE358.out) | exact HB.out)) hb); clear BK358; clear HB; have BK358 := n0_; have HB := n1_; clear n0_ n1_; (try clear hb); (try clear hb2); (try clear hk); (try clear hi); have hcz15_0 : w14.cell? ⟨gb358, 0, none⟩ = some (.int .i32 ((rd_T41 l0 x8_1).f0)) := (blk_cell BK358.out 0).trans rfl; have hcz15_1 : w14.cell? ⟨gb358, 1, none⟩ = some (.int .i32 ((rd_T41 l0 x8_1).f1)) := (blk_cell BK358.out 1).trans rfl; have hfz15_0 := blk_frozen BK358.out 0; have hfz15_1 := blk_frozen BK358.out 1)); try go_wp2_with (first | (go_at_call 26; (with_reducible refine (sets_band.calls ((rd_T41 l0 x8_1).f1) t360 _ A11.out).mono ?_); rintro e w14 ⟨rfl, hb⟩; have n0_ := Aside0.mk (blk_below (g := gb358) (o := .cells #[.int .i32 ((rd_T41 l0 x8_1).f0), .int .i32 ((rd_T41 l0 x8_1).f1)] 41 (0, 0)) (by (with_reducible repeat (first | refine blk_drewN ?_ _ | refine blk_drew ?_ | refine blk_alloc ?_ _)); exact BK358.out) hb); have n1_ := Aside0.mk (below_step (by repeat (first | (with_reducible first | exact HB.out | apply below_alloc | apply pw_below_drewN | apply below_drew1 | refine below_set ?_ GE358.out) | exact HB.out)) hb); clear BK358; clear HB; have BK358 := n0_; have HB := n1_; clear n0_ n1_; (try clear hb); (try clear hb2); (try clear hk); (try clear hi); have hcz15_0 : w14.cell? ⟨gb358, 0, none⟩ = some (.int .i32 ((rd_T41 l0 x8_1).f0)) := (blk_cell BK358.out 0).trans rfl; have hcz15_1 : w14.cell? ⟨gb358, 1, none⟩ = some (.int .i32 ((rd_T41 l0 x8_1).f1)) := (blk_cell BK358.out 1).trans rfl; have hfz15_0 := blk_frozen BK358.out 0; have hfz15_1 := blk_frozen BK358.out 1)))
         go_meet
         case rel => exact ⟨_, (decide (((rd_T41 l0 x8_1).f0) > ((rd_T41 l0 x8_1).f1))), XShort.eqs, H', ⟨by have := HK1.out; first | omega | exact Nat.le_refl _⟩, ⟨by (with_reducible repeat (first | refine blk_drewN ?_ _ | refine blk_drew ?_ | refine blk_alloc ?_ _)); exact BK358.out⟩, ⟨by repeat (first | (with_reducible first | exact HB.out | apply below_alloc | apply pw_below_drewN | apply below_drew1 | refine below_set ?_ GE358.out) | exact HB.out)⟩⟩
        ·rw [if_neg c12] at H
         have c12b0 : (t359 == t360) = false := beq_eq_false_iff_ne.mpr c12
         have c12b1 : (t359 != t360) = true := bne_iff_ne.mpr c12
         have H' := Aside0.mk H
         clear H
         have hcz16_0 : w9.cell? ⟨gb358, 0, none⟩ = some (.int .i32 ((rd_T41 l0 x8_1).f0)) := (blk_cell BK358.out 0).trans rfl
         have hcz16_1 : w9.cell? ⟨gb358, 1, none⟩ = some (.int .i32 ((rd_T41 l0 x8_1).f1)) := (blk_cell BK358.out 1).trans rfl
         have hfz16_0 := blk_frozen BK358.out 0
         have hfz16_1 := blk_frozen BK358.out 1
         go_wp2_with (first | (go_at_call 26; (with_reducible refine (sets_band.calls ((rd_T41 l0 x8_1).f1) t360 _ A11.out).mono ?_); rintro e w17 ⟨rfl, hb⟩; have n0_ := Aside0.mk (blk_below (g := gb358) (o := .cells #[.int .i32 ((rd_T41 l0 x8_1).f0), .int .i32 ((rd_T41 l0 x8_1).f1)] 41 (0, 0)) (by (with_reducible repeat (first | refine blk_drewN ?_ _ | refine blk_drew ?_ | refine blk_alloc ?_ _)); exact BK358.out) hb); have n1_ := Aside0.mk (below_step (by repeat (first | (with_reducible first | exact HB.out | apply below_alloc | apply pw_below_drewN | apply below_drew1 | refine below_set ?_ GE358.out) | exact HB.out)) hb); clear BK358; clear HB; have BK358 := n0_; have HB := n1_; clear n0_ n1_; (try clear hb); (try clear hb2); (try clear hk); (try clear hi)))
         repeat (go_quiet (first | (go_at_call 26; (with_reducible refine (sets_band.calls ((rd_T41 l0 x8_1).f1) t360 _ A11.out).mono ?_); rintro e w17 ⟨rfl, hb⟩; have n0_ := Aside0.mk (blk_below (g := gb358) (o := .cells #[.int .i32 ((rd_T41 l0 x8_1).f0), .int .i32 ((rd_T41 l0 x8_1).f1)] 41 (0, 0)) (by (with_reducible repeat (first | refine blk_drewN ?_ _ | refine blk_drew ?_ | refine blk_alloc ?_ _)); exact BK358.out) hb); have n1_ := Aside0.mk (below_step (by repeat (first | (with_reducible first | exact HB.out | apply below_alloc | apply pw_below_drewN | apply below_drew1 | refine below_set ?_ GE358.out) | exact HB.out)) hb); clear BK358; clear HB; have BK358 := n0_; have HB := n1_; clear n0_ n1_; (try clear hb); (try clear hb2); (try clear hk); (try clear hi))); try go_wp2_with (first | (go_at_call 26; (with_reducible refine (sets_band.calls ((rd_T41 l0 x8_1).f1) t360 _ A11.out).mono ?_); rintro e w17 ⟨rfl, hb⟩; have n0_ := Aside0.mk (blk_below (g := gb358) (o := .cells #[.int .i32 ((rd_T41 l0 x8_1).f0), .int .i32 ((rd_T41 l0 x8_1).f1)] 41 (0, 0)) (by (with_reducible repeat (first | refine blk_drewN ?_ _ | refine blk_drew ?_ | refine blk_alloc ?_ _)); exact BK358.out) hb); have n1_ := Aside0.mk (below_step (by repeat (first | (with_reducible first | exact HB.out | apply below_alloc | apply pw_below_drewN | apply below_drew1 | refine below_set ?_ GE358.out) | exact HB.out)) hb); clear BK358; clear HB; have BK358 := n0_; have HB := n1_; clear n0_ n1_; (try clear hb); (try clear hb2); (try clear hk); (try clear hi))))
         go_meet
         case rel => exact ⟨_, (true), XShort.eqs, H', ⟨by have := HK1.out; first | omega | exact Nat.le_refl _⟩, ⟨by (with_reducible repeat (first | refine blk_drewN ?_ _ | refine blk_drew ?_ | refine blk_alloc ?_ _)); exact BK358.out⟩, ⟨by repeat (first | (with_reducible first | exact HB.out | apply below_alloc | apply pw_below_drewN | apply below_drew1 | refine below_set ?_ GE358.out) | exact HB.out)⟩⟩
      case rest =>
       clear HC6
       try clear c1
       try clear c2
       try clear c2b0
       try clear p2
       try clear c3
       try clear c3b0
       try clear p3
       try clear q3
       try clear hx3
       try clear c4
       try clear c4b0
       try clear c10
       try clear c10b0
       try clear c12
       try clear c12b0
       try clear c12b1
       try clear hcz13_0
       try clear hcz13_1
       try clear hcz15_0
       try clear hcz15_1
       try clear hcz16_0
       try clear hcz16_1
       try clear hcz8_0
       try clear hcz8_1
       try clear hfz13_0
       try clear hfz13_1
       try clear hfz15_0
       try clear hfz15_1
       try clear hfz16_0
       try clear hfz16_1
       try clear hfz8_0
       try clear hfz8_1
       try clear hx357_0
       try clear hx357_1
       try clear p357
       try clear q357
       obtain ⟨kq, x31_5, rfl, HA, HJ5, BK358, HB⟩ := hcut
       cases kq with
       | zero => exact absurd HA.out (by simp [sets_Check.j1])
       | succ kj5 =>
        have H := HA.out
        clear HA
        simp only [sets_Check.j1] at H
        by_cases c18 : x31_5 = true
        ·subst c18
         have H1 : (some 1) = some r := by rw [if_pos rfl] at H; exact H
         clear H
         have H := H1
         clear H1
         obtain rfl := Option.some.inj H
         go_wp2
         repeat (go_quiet (fail); try go_wp2)
         go_ret
         exact ⟨by first | rfl | (simp [errW_none, errW_some] <;> rfl) | (simp [*, errW_none, errW_some] <;> rfl), by repeat (first | (with_reducible first | exact HB.out | apply below_alloc | apply pw_below_drewN | apply below_drew1 | refine below_set ?_ GE358.out) | exact HB.out)⟩
        ·replace c18 := Bool.eq_false_iff.mpr c18
         subst c18
         have H1 : (if x8_1 > 0 then (if 0 ≤ (wrap64 (x8_1 - 1)) then (if (wrap64 (x8_1 - 1)) < (l0.length : Int) then (if ((rd_T41 l0 x8_1).f0) ≤ ((rd_T41 l0 (wrap64 (x8_1 - 1))).f1) then (some 1) else (if ((rd_T41 l0 x8_1).f0) = (wrap32 (((rd_T41 l0 (wrap64 (x8_1 - 1))).f1) + 1)) then (some 1) else (sets_Check.l0 kj5 l0 l0 (l0.length : Int) (wrap64 (x8_1 + 1))))) else (none)) else (none)) else (sets_Check.l0 kj5 l0 l0 (l0.length : Int) (wrap64 (x8_1 + 1)))) = some r := by rw [if_neg (show ¬ (false = true) by decide)] at H; exact H
         clear H
         have H := H1
         clear H1
         by_cases c19 : x8_1 > 0
         ·rw [if_pos c19] at H
          have c19b0 : decide (0 < x8_1) = true := decide_eq_true c19
          clear c19
          obtain ⟨ji20, hji20⟩ : ∃ j_ : Int, (wrap64 (x8_1 - 1)) = j_ := ⟨_, rfl⟩
          replace H : (if 0 ≤ (ji20) then (if (ji20) < (l0.length : Int) then (if ((rd_T41 l0 x8_1).f0) ≤ ((rd_T41 l0 (ji20)).f1) then (some 1) else (if ((rd_T41 l0 x8_1).f0) = (wrap32 (((rd_T41 l0 (ji20)).f1) + 1)) then (some 1) else (sets_Check.l0 kj5 l0 l0 (l0.length : Int) (wrap64 (x8_1 + 1))))) else (none)) else (none)) = some r := by first | (rw [hji20] at H; exact H) | (simp only [hji20] at H ⊢; exact H)
          have hji20w : (IntKind.i64.wrap (x8_1 - 1)) = ji20 := (i64_w _).trans hji20
          by_cases c21 : 0 ≤ (ji20)
          ·rw [if_pos c21] at H
           have c21b0 : decide (0 ≤ (ji20)) = true := decide_eq_true c21
           clear c21
           by_cases c22 : (ji20) < (l0.length : Int)
           ·rw [if_pos c22] at H
            have c22b0 : decide ((ji20) < (l0.length : Int)) = true := decide_eq_true c22
            clear c22
            by_cases c23 : ((rd_T41 l0 x8_1).f0) ≤ ((rd_T41 l0 (ji20)).f1)
            ·rw [if_pos c23] at H
             have c23b0 : decide (((rd_T41 l0 x8_1).f0) ≤ ((rd_T41 l0 (ji20)).f1)) = true := decide_eq_true c23
             clear c23
             obtain rfl := Option.some.inj H
             have hcz24_0 : wc.cell? ⟨gb358, 0, none⟩ = some (.int .i32 ((rd_T41 l0 x8_1).f0)) := (blk_cell BK358.out 0).trans rfl
             have hcz24_1 : wc.cell? ⟨gb358, 1, none⟩ = some (.int .i32 ((rd_T41 l0 x8_1).f1)) := (blk_cell BK358.out 1).trans rfl
             have hfz24_0 := blk_frozen BK358.out 0
             have hfz24_1 := blk_frozen BK358.out 1
             have p361 : 0 ≤ ((ji20) : Int) := of_decide_eq_true XShort.asm
             have q361 : (ji20) < (l0.length : Int) := of_decide_eq_true XShort.asm
             obtain ⟨ad361, e361, hx361_0, hx361_1⟩ := at_T41 HR0.out (ji20) p361 q361
             obtain rfl : ad357 = ad361 := (by injection e361)
             replace hx361_0 := (HB.out.cell (World.block_lt_of_cell? w _ hx361_0)).trans hx361_0
             replace hx361_1 := (HB.out.cell (World.block_lt_of_cell? w _ hx361_1)).trans hx361_1
             replace p361 := eq_true p361
             replace q361 := eq_true q361
             go_wp2
             repeat (go_quiet (fail); try go_wp2)
             go_ret
             exact ⟨by first | rfl | (simp [errW_none, errW_some] <;> rfl) | (simp only [← hji20]; first | rfl | (simp [errW_none, errW_some] <;> rfl)) | (simp [*, errW_none, errW_some] <;> rfl), by repeat (first | (with_reducible first | exact HB.out | apply below_alloc | apply pw_below_drewN | apply below_drew1 | refine below_set ?_ GE358.out) | exact HB.out)⟩
            ·rw [if_neg c23] at H
             have c23b0 : decide (((rd_T41 l0 x8_1).f0) ≤ ((rd_T41 l0 (ji20)).f1)) = false := decide_eq_false c23
             clear c23
             by_cases c25 : ((rd_T41 l0 x8_1).f0) = (wrap32 (((rd_T41 l0 (ji20)).f1) + 1))
             ·rw [if_pos c25] at H
              have c25b0 : (((rd_T41 l0 x8_1).f0) == (wrap32 (((rd_T41 l0 (ji20)).f1) + 1))) = true := beq_iff_eq.mpr c25
              have c25b1 : (((rd_T41 l0 x8_1).f0) != (wrap32 (((rd_T41 l0 (ji20)).f1) + 1))) = false := bne_eq_false_iff_eq.mpr c25
              clear c25
              obtain rfl := Option.some.inj H
              have hcz26_0 : wc.cell? ⟨gb358, 0, none⟩ = some (.int .i32 ((rd_T41 l0 x8_1).f0)) := (blk_cell BK358.out 0).trans rfl
              have hcz26_1 : wc.cell? ⟨gb358, 1, none⟩ = some (.int .i32 ((rd_T41 l0 x8_1).f1)) := (blk_cell BK358.out 1).trans rfl
              have hfz26_0 := blk_frozen BK358.out 0
              have hfz26_1 := blk_frozen BK358.out 1
              have p361 : 0 ≤ ((ji20) : Int) := of_decide_eq_true XShort.asm
              have q361 : (ji20) < (l0.length : Int) := of_decide_eq_true XShort.asm
              obtain ⟨ad361, e361, hx361_0, hx361_1⟩ := at_T41 HR0.out (ji20) p361 q361
              obtain rfl : ad357 = ad361 := (by injection e361)
              replace hx361_0 := (HB.out.cell (World.block_lt_of_cell? w _ hx361_0)).trans hx361_0
              replace hx361_1 := (HB.out.cell (World.block_lt_of_cell? w _ hx361_1)).trans hx361_1
              replace p361 := eq_true p361
              replace q361 := eq_true q361
              have p362 : 0 ≤ ((ji20) : Int) := of_decide_eq_true XShort.asm
              have q362 : (ji20) < (l0.length : Int) := of_decide_eq_true XShort.asm
              obtain ⟨ad362, e362, hx362_0, hx362_1⟩ := at_T41 HR0.out (ji20) p362 q362
              obtain rfl : ad357 = ad362 := (by injection e362)
              replace hx362_0 := (HB.out.cell (World.block_lt_of_cell? w _ hx362_0)).trans hx362_0
              replace hx362_1 := (HB.out.cell (World.block_lt_of_cell? w _ hx362_1)).trans hx362_1
              replace p362 := eq_true p362
              replace q362 := eq_true q362
              go_wp2
              repeat (go_quiet (fail); try go_wp2)
              go_ret
              exact ⟨by first | rfl | (simp [errW_none, errW_some] <;> rfl) | (simp only [← hji20]; first | rfl | (simp [errW_none, errW_some] <;> rfl)) | (simp [*, errW_none, errW_some] <;> rfl), by repeat (first | (with_reducible first | exact HB.out | apply below_alloc | apply pw_below_drewN | apply below_drew1 | refine below_set ?_ GE358.out) | exact HB.out)⟩
             ·rw [if_neg c25] at H
              have c25b0 : (((rd_T41 l0 x8_1).f0) == (wrap32 (((rd_T41 l0 (ji20)).f1) + 1))) = false := beq_eq_false_iff_ne.mpr c25
              have c25b1 : (((rd_T41 l0 x8_1).f0) != (wrap32 (((rd_T41 l0 (ji20)).f1) + 1))) = true := bne_iff_ne.mpr c25
              have H' := Aside0.mk H
              clear H
              have hcz27_0 : wc.cell? ⟨gb358, 0, none⟩ = some (.int .i32 ((rd_T41 l0 x8_1).f0)) := (blk_cell BK358.out 0).trans rfl
              have hcz27_1 : wc.cell? ⟨gb358, 1, none⟩ = some (.int .i32 ((rd_T41 l0 x8_1).f1)) := (blk_cell BK358.out 1).trans rfl
              have hfz27_0 := blk_frozen BK358.out 0
              have hfz27_1 := blk_frozen BK358.out 1
              have p361 : 0 ≤ ((ji20) : Int) := of_decide_eq_true XShort.asm
              have q361 : (ji20) < (l0.length : Int) := of_decide_eq_true XShort.asm
              obtain ⟨ad361, e361, hx361_0, hx361_1⟩ := at_T41 HR0.out (ji20) p361 q361
              obtain rfl : ad357 = ad361 := (by injection e361)
              replace hx361_0 := (HB.out.cell (World.block_lt_of_cell? w _ hx361_0)).trans hx361_0
              replace hx361_1 := (HB.out.cell (World.block_lt_of_cell? w _ hx361_1)).trans hx361_1
              replace p361 := eq_true p361
              replace q361 := eq_true q361
              have p362 : 0 ≤ ((ji20) : Int) := of_decide_eq_true XShort.asm
              have q362 : (ji20) < (l0.length : Int) := of_decide_eq_true XShort.asm
              obtain ⟨ad362, e362, hx362_0, hx362_1⟩ := at_T41 HR0.out (ji20) p362 q362
              obtain rfl : ad357 = ad362 := (by injection e362)
              replace hx362_0 := (HB.out.cell (World.block_lt_of_cell? w _ hx362_0)).trans hx362_0
              replace hx362_1 := (HB.out.cell (World.block_lt_of_cell? w _ hx362_1)).trans hx362_1
              replace p362 := eq_true p362
              replace q362 := eq_true q362
              go_wp2
              repeat (go_quiet (fail); try go_wp2)
              go_roundg kj5
              case measure => have := HK1.out; have := HJ5.out; omega
              case rel => exact ⟨(wrap64 (x8_1 + 1)), XShort.eqs, H', ⟨by have := HK1.out; have := HJ5.out; omega⟩, ⟨by repeat (first | (with_reducible first | exact HB.out | apply below_alloc | apply pw_below_drewN | apply below_drew1 | refine below_set ?_ GE358.out) | exact HB.out)⟩⟩
           ·rw [if_neg c22] at H
            exact absurd H (by simp)
          ·rw [if_neg c21] at H
           exact absurd H (by simp)
         ·rw [if_neg c19] at H
          have c19b0 : decide (0 < x8_1) = false := decide_eq_false c19
          clear c19
          have H' := Aside0.mk H
          clear H
          go_wp2
          repeat (go_quiet (fail); try go_wp2)
          go_roundg kj5
          case measure => have := HK1.out; have := HJ5.out; omega
          case rel => exact ⟨(wrap64 (x8_1 + 1)), XShort.eqs, H', ⟨by have := HK1.out; have := HJ5.out; omega⟩, ⟨by repeat (first | (with_reducible first | exact HB.out | apply below_alloc | apply pw_below_drewN | apply below_drew1 | refine below_set ?_ GE358.out) | exact HB.out)⟩⟩
     ·rw [if_neg c4] at H
      exact absurd H (by simp)
    ·rw [if_neg c3] at H
     exact absurd H (by simp)
   ·rw [if_neg c2] at H
    have c2b0 : decide (x8_1 < (l0.length : Int)) = false := decide_eq_false c2
    clear c2
    obtain rfl := Option.some.inj H
    go_wp2
    repeat (go_quiet (fail); try go_wp2)
    go_ret
    exact ⟨by first | rfl | (simp [errW_none, errW_some] <;> rfl) | (simp [*, errW_none, errW_some] <;> rfl), XShort.bel⟩

-- NOT PRINTED: function 52 (api_Range_rune)

/-! ### sets_has: function 30 -/
/-- what the binary search asks of a range: -1 where it lies below u, 1 where it lies above, else 0 -/
def hasCmp (x : S41) (u : Int) : Int := if x.f1 < u then -1 else if u < x.f0 then 1 else 0
set_option maxHeartbeats 800000 in
theorem has_lit (x y u : Int) (W : World) :
  Calls Tryd.prog 53 #[.agg #[.int .i32 x, .int .i32 y], .int .i32 u] W fun e w' => e = .returned (.int .i64 (hasCmp ⟨x, y⟩ u)) ∧ Below W.heap.size W w' := by
 have hu31 := Tryd.underlying41
 unfold hasCmp
 by_cases h1 : y < u
 ·rw [if_pos h1]
  have d1 : decide (y < u) = true := decide_eq_true h1
  go_enter Tryd.func53, Tryd.ntmps53
  go_wp2
  go_ret
  exact ⟨rfl, by repeat (first | exact Below.refl _ _ | apply below_alloc | apply pw_below_drewN | apply below_drew1)⟩
 ·rw [if_neg h1]
  have d1 : decide (y < u) = false := decide_eq_false h1
  by_cases h2 : u < x
  ·rw [if_pos h2]
   have d2 : decide (u < x) = true := decide_eq_true h2
   go_enter Tryd.func53, Tryd.ntmps53
   go_wp2
   go_ret
   exact ⟨rfl, by repeat (first | exact Below.refl _ _ | apply below_alloc | apply pw_below_drewN | apply below_drew1)⟩
  ·rw [if_neg h2]
   have d2 : decide (u < x) = false := decide_eq_false h2
   go_enter Tryd.func53, Tryd.ntmps53
   go_wp2
   go_ret
   exact ⟨rfl, by repeat (first | exact Below.refl _ _ | apply below_alloc | apply pw_below_drewN | apply below_drew1)⟩
/-- the search between i and j: the least place from i on whose range does not lie below u, if the ranges rise -/
def hasFind (u : Int) (l : List S41) : Nat → Nat → Nat → Option Nat
 | 0, _, _ => none
 | k + 1, i, j => if i < j then (if hasCmp (l.getD ((i + j) / 2) z41) u < 0 then hasFind u l k ((i + j) / 2 + 1) j else hasFind u l k i ((i + j) / 2)) else some i
theorem hasFind.mono (u : Int) (l : List S41) : ∀ k i j, LeO (hasFind u l k i j) (hasFind u l (k + 1) i j)
 | 0, _, _ => fun r h => by simp [hasFind] at h
 | k + 1, i, j => by
  have ih := hasFind.mono u l k
  unfold hasFind
  refine LeO.ite (LeO.ite ?_ ?_) (LeO.refl _)
  ·exact ih _ _
  ·exact ih _ _
def sets_has.f (k : Nat) (l0 : List S41) (a1 : Int) : Option Bool :=
 if l0.length ≤ 4611686018427387903 then ((hasFind a1 l0 k 0 l0.length).bind fun i => some (decide (i < l0.length) && decide (hasCmp (l0.getD i z41) a1 = 0))) else none
theorem sets_has.mono : ∀ a0 a1 k, LeO (sets_has.f k a0 a1) (sets_has.f (k + 1) a0 a1) := by
 intro a0 a1 k
 unfold sets_has.f
 exact LeO.ite (LeO.bind (hasFind.mono _ _ _ _ _) (fun _ => LeO.refl _)) (LeO.none _)
set_option maxHeartbeats 1600000 in
set_option maxRecDepth 100000 in
theorem has_search (k : Nat) (u : Int) (A : Option Addr) (c : Nat) (l : List S41) (n : Nat) (w : World) (hr : Kd.C k41 w A l.length l) (hc : l.length ≤ c) (hb8 : l.length ≤ 4611686018427387903) (h : hasFind u l k 0 l.length = some n) :
  Calls Tryd.prog 52 #[.slice A l.length c, .int .i32 u, .func (.func 53) #[] #[]] w fun e w' => e = .returned (.tuple #[.int .i64 n, .bool (decide (n < l.length) && decide (hasCmp (l.getD n z41) u = 0))]) ∧ Below w.heap.size w w' := by
 have hu31 := Tryd.underlying41
 have HR := Aside0.mk hr
 have HK := Aside0.mk hc
 have HF := Aside0.mk h
 clear hr hc h
 go_enter Tryd.func52, Tryd.ntmps52
 go_wp2
 go_loopw [9, 10] (fun vi vj wr => ∃ i j : Nat, i ≤ j ∧ j ≤ l.length ∧ vi = .int .i64 i ∧ vj = .int .i64 j ∧ Aside0 (∃ k, hasFind u l k i j = some n) ∧ Aside0 (Below w.heap.size w wr)) (fun vi vj _ => (intOf vj).toNat - (intOf vi).toNat)
 case atStart => exact ⟨0, l.length, Nat.zero_le _, Nat.le_refl _, rfl, rfl, ⟨⟨k, HF.out⟩⟩, ⟨Below.refl _ _⟩⟩
 case round =>
  obtain ⟨i, j, hij, hjl, rfl, rfl, HI, HB⟩ := hrel
  by_cases hlt : i < j
  ·have hlt1 : decide ((i : Int) < (j : Int)) = true := decide_eq_true (by omega)
   obtain ⟨kk, hkk⟩ := HI.out
   have hn : (((i : Int) + (j : Int)) / 2).toNat = (i + j) / 2 := by omega
   have hrd : rd_T41 l (((i : Int) + (j : Int)) / 2) = l.getD ((i + j) / 2) z41 := by rw [rd_T41, hn]
   obtain ⟨ad, e1, h0, h1⟩ := at_T41 (Kd.C_below HR.out HB.out) (((i : Int) + (j : Int)) / 2) (by omega) (by omega)
   subst e1
   rw [hn] at h0 h1
   have hp : 0 ≤ ((i : Int) + (j : Int)) / 2 := by omega
   have hq : ((i : Int) + (j : Int)) / 2 < (l.length : Int) := by omega
   have HL := Aside0.mk (has_lit (rd_T41 l (((i : Int) + (j : Int)) / 2)).f0 (rd_T41 l (((i : Int) + (j : Int)) / 2)).f1 u wr)
   cases kk with
   | zero => exact absurd hkk (by simp [hasFind])
   | succ kk =>
    rw [hasFind, if_pos hlt] at hkk
    have hce : hasCmp ⟨(rd_T41 l (((i : Int) + (j : Int)) / 2)).f0, (rd_T41 l (((i : Int) + (j : Int)) / 2)).f1⟩ u = hasCmp (l.getD ((i + j) / 2) z41) u := by rw [hrd]
    by_cases hcm : hasCmp (l.getD ((i + j) / 2) z41) u < 0
    ·rw [if_pos hcm] at hkk
     have HKK := Aside0.mk hkk
     have d1 : decide (hasCmp ⟨(rd_T41 l (((i : Int) + (j : Int)) / 2)).f0, (rd_T41 l (((i : Int) + (j : Int)) / 2)).f1⟩ u < 0) = true := by rw [hce]; exact decide_eq_true hcm
     clear hkk hcm hce hrd hn
     go_wp2_with (refine HL.out.mono ?_; rintro e w' ⟨rfl, hb⟩; have HB2 := Aside0.mk (below_step HB.out hb); clear hb)
     go_roundw
     case rel => exact ⟨(i + j) / 2 + 1, j, by omega, hjl, by go_num, rfl, ⟨⟨kk, HKK.out⟩⟩, HB2⟩
     case measure => simp [intOf]; omega
    ·rw [if_neg hcm] at hkk
     have HKK := Aside0.mk hkk
     have d1 : decide (hasCmp ⟨(rd_T41 l (((i : Int) + (j : Int)) / 2)).f0, (rd_T41 l (((i : Int) + (j : Int)) / 2)).f1⟩ u < 0) = false := by rw [hce]; exact decide_eq_false hcm
     clear hkk hcm hce hrd hn
     go_wp2_with (refine HL.out.mono ?_; rintro e w' ⟨rfl, hb⟩; have HB2 := Aside0.mk (below_step HB.out hb); clear hb)
     go_roundw
     case rel => exact ⟨i, (i + j) / 2, by omega, by omega, rfl, by go_num, ⟨⟨kk, HKK.out⟩⟩, HB2⟩
     case measure => simp [intOf]; omega
  ·have hlt1 : decide ((i : Int) < (j : Int)) = false := decide_eq_false (by omega)
   obtain ⟨kk, hkk⟩ := HI.out
   have hin : i = n := by
    cases kk with
    | zero => exact absurd hkk (by simp [hasFind])
    | succ kk => rw [hasFind, if_neg hlt] at hkk; exact Option.some.inj hkk
   subst hin
   clear hkk HI HF
   by_cases hil : i < l.length
   ·have d2 : decide ((i : Int) < (l.length : Int)) = true := decide_eq_true (by omega)
    have d3 : decide (i < l.length) = true := decide_eq_true hil
    obtain ⟨ad, e1, h0, h1⟩ := at_T41 (Kd.C_below HR.out HB.out) (i : Int) (by omega) (by omega)
    subst e1
    simp only [Int.toNat_natCast] at h0 h1
    have hrd : rd_T41 l (i : Int) = l.getD i z41 := by simp [rd_T41]
    have HL := Aside0.mk (has_lit (rd_T41 l (i : Int)).f0 (rd_T41 l (i : Int)).f1 u wr)
    have hp : 0 ≤ (i : Int) := by omega
    have hq : (i : Int) < (l.length : Int) := by omega
    have HRD := Aside0.mk hrd
    clear hrd
    go_wp2_with (refine HL.out.mono ?_; rintro e w' ⟨rfl, hb⟩; have HB2 := Aside0.mk (below_step HB.out hb); clear hb)
    go_ret2
    refine ⟨?_, HB2.out⟩
    rw [d3, Bool.true_and, ← HRD.out]
    have hb2 : ∀ x : Int, (x == 0) = decide (x = 0) := fun x => by by_cases hx : x = 0 <;> simp [hx]
    rw [← hb2]
    rfl
   ·have d2 : decide ((i : Int) < (l.length : Int)) = false := decide_eq_false (by omega)
    have d3 : decide (i < l.length) = false := decide_eq_false hil
    go_wp2
    go_ret2
    exact ⟨by rw [d3]; rfl, HB.out⟩
set_option maxHeartbeats 800000 in
set_option maxRecDepth 100000 in
theorem sets_has.calls (k : Nat) (A0 : Option Addr) (c0 : Nat) (l0 : List S41) (a1 : Int) (r : Bool) (w : World) (hr0 : Kd.C k41 w A0 l0.length l0) (hc0 : l0.length ≤ c0) (h : sets_has.f k l0 a1 = some r) (hG : GOK w := by first | (with_reducible exact HG_.out) | exact GOK.below HG_.out (by repeat (first | (with_reducible exact Below.refl _ _) | (with_reducible first | exact HB.out | apply below_alloc | apply pw_below_drewN | apply below_drew1 | refine below_set ?_ (Aside0.out (by assumption))) | exact HB.out)) | exact GOK.drewN HG_.out _ | exact GOK.drewN (GOK.drewN HG_.out _) _ | exact GOK.drew HG_.out) :
  Calls Tryd.prog 30 #[.slice A0 l0.length c0, .int .i32 a1] w fun e w' => e = .returned (.bool r) ∧ Below w.heap.size w w' := by
 unfold sets_has.f at h
 by_cases hb8 : l0.length ≤ 4611686018427387903
 ·rw [if_pos hb8] at h
  obtain ⟨n, hn, h⟩ := Option.bind_eq_some_iff.mp h
  obtain rfl := Option.some.inj h
  have HC := Aside0.mk (has_search k a1 A0 c0 l0 n w hr0 hc0 hb8 hn)
  clear hr0 hc0 hn h hG hb8
  go_enter Tryd.func30, Tryd.ntmps30
  go_wp2_with (refine HC.out.mono ?_; rintro e w' ⟨rfl, hb⟩; have HB := Aside0.mk hb; clear hb)
  go_ret
  exact ⟨rfl, HB.out⟩
 ·rw [if_neg hb8] at h
  cases h

/-! ### sets_Has: function 12 -/
def sets_Has.f (k : Nat) (l0 : List (S41)) (a1 : Int) : Option (Bool × Int) := (sets_Check.f k l0).bind fun t363 => (if t363 = 0 then ((sets_has.f k l0 a1).bind fun t364 => (some (t364, 0))) else (some (false, t363)))
theorem sets_Has.mono : ∀ a0 a1 k, LeO (sets_Has.f k a0 a1) (sets_Has.f (k + 1) a0 a1) := by
 intro a0 a1 k
 unfold sets_Has.f
 repeat' first
   | (with_reducible exact sets_Check.mono _ _)
   | (with_reducible exact sets_has.mono _ _ _)
   | (with_reducible exact LeO.refl _)
   | (with_reducible exact LeO.none _)
   | (with_reducible refine LeO.ite ?_ ?_)
   | (with_reducible refine LeO.bind ?_ (fun _ => ?_))
   | exact sets_Check.mono _ _
   | exact sets_has.mono _ _ _
   | exact LeO.none _
   | refine LeO.ite ?_ ?_
   | refine LeO.bind ?_ (fun _ => ?_)
set_option maxHeartbeats 8000000 in
set_option maxRecDepth 100000 in
theorem sets_Has.calls (k : Nat) (A0 : Option Addr) (c0 : Nat) (l0 : List (S41)) (a1 : Int) (r1 : Bool) (r2 : Int) (w : World) (hr0 : Kd.C k41 w A0 l0.length l0) (hc0 : l0.length ≤ c0) (h : sets_Has.f k l0 a1 = some (r1, r2)) (hG : GOK w := by first | (with_reducible exact HG_.out) | exact GOK.below HG_.out (by repeat (first | (with_reducible exact Below.refl _ _) | (with_reducible first | exact HB.out | apply below_alloc | apply pw_below_drewN | apply below_drew1 | refine below_set ?_ (Aside0.out (by assumption))) | exact HB.out)) | exact GOK.drewN HG_.out _ | exact GOK.drewN (GOK.drewN HG_.out _) _ | exact GOK.drew HG_.out) :
  Calls Tryd.prog 12 #[.slice A0 l0.length c0, .int .i32 a1] w fun e w' => e = .returned (.tuple #[.bool r1, .int .i64 r2]) ∧ Below w.heap.size w w' := by
 have HG_ := Aside0.mk hG
 clear hG
 have HR0 := Aside0.mk hr0
 have HC0 := Aside0.mk hc0
 clear hr0 hc0
 have HB := Aside0.mk (Below.refl w.heap.size w)
 have H : ((sets_Check.f k l0).bind fun t363 => (if t363 = 0 then ((sets_has.f k l0 a1).bind fun t364 => (some (t364, 0))) else (some (false, t363)))) = some (r1, r2) := h
 clear h
 replace H := Option.bind_eq_some_iff.mp H
 obtain ⟨t363, A30, H⟩ := H
 replace H : (if t363 = 0 then ((sets_has.f k l0 a1).bind fun t364 => (some (t364, 0))) else (some (false, t363))) = some (r1, r2) := H
 have A3 := Aside0.mk A30
 clear A30
 by_cases c4 : t363 = 0
 ·rw [if_pos c4] at H
  have c4b0 : (t363 == 0) = true := beq_iff_eq.mpr c4
  have c4b1 : (t363 != 0) = false := bne_eq_false_iff_eq.mpr c4
  clear c4
  replace H := Option.bind_eq_some_iff.mp H
  obtain ⟨t364, A50, H⟩ := H
  replace H : (some (t364, 0)) = some (r1, r2) := H
  have A5 := Aside0.mk A50
  clear A50
  simp only [Option.some.injEq, Prod.mk.injEq] at H
  obtain ⟨rfl, rfl⟩ := H
  go_enter Tryd.func12, Tryd.ntmps12
  go_wp2_with (first | ((with_reducible refine gate_callee (f := 10) rfl ?_); refine goesL_ (some 8) rfl rfl Tryd.func10 (by kernel_rfl) rfl #[.slice A0 l0.length c0] rfl (by (try simp only [List.map_toArray, List.map_cons, List.map_nil]); first | done | rfl | (simp only [List.length_drop, List.length_take]; rfl)) ?_; (with_reducible refine (sets_Check.calls k _ _ l0 t363 _ ?side1 ?side2 A3.out).mono ?_); (case side1 => repeat (first | exact HR0.out | (with_reducible refine Kd.C_alloc ?_ _) | (with_reducible refine Kd.C_drewN ?_ _) | (with_reducible refine Kd.C_drew ?_))); (case side2 => exact HC0.out); rintro e w6 ⟨rfl, hb⟩; refine ⟨_, rfl, ?_⟩; have n0_ := Aside0.mk (below_step XShort.bel hb); clear HB; have HB := n0_; clear n0_; (try clear hb); (try clear hb2); (try clear hk); (try clear hi)) | ((with_reducible refine gate_callee (f := 30) rfl ?_); refine goesL_ (some 14) rfl rfl Tryd.func30 (by kernel_rfl) rfl #[.slice A0 l0.length c0, .int .i32 a1] rfl (by (try simp only [List.map_toArray, List.map_cons, List.map_nil]); first | done | rfl | (simp only [List.length_drop, List.length_take]; rfl)) ?_; (with_reducible refine (sets_has.calls k _ _ l0 a1 t364 _ ?side1 ?side2 A5.out).mono ?_); (case side1 => repeat (first | exact (Kd.C_below HR0.out HB.out) | (with_reducible refine Kd.C_alloc ?_ _) | (with_reducible refine Kd.C_drewN ?_ _) | (with_reducible refine Kd.C_drew ?_))); (case side2 => exact HC0.out); rintro e w7 ⟨rfl, hb⟩; refine ⟨_, rfl, ?_⟩; have n0_ := Aside0.mk (below_step XShort.bel hb); clear HB; have HB := n0_; clear n0_; (try clear hb); (try clear hb2); (try clear hk); (try clear hi)))
  go_ret2
  exact ⟨by first | rfl | (simp [errW_none, errW_some] <;> rfl) | (simp [*, errW_none, errW_some] <;> rfl), XShort.bel⟩
 ·rw [if_neg c4] at H
  have c4b0 : (t363 == 0) = false := beq_eq_false_iff_ne.mpr c4
  have c4b1 : (t363 != 0) = true := bne_iff_ne.mpr c4
  simp only [Option.some.injEq, Prod.mk.injEq] at H
  obtain ⟨rfl, rfl⟩ := H
  go_enter Tryd.func12, Tryd.ntmps12
  go_wp2_with (first | ((with_reducible refine gate_callee (f := 10) rfl ?_); refine goesL_ (some 8) rfl rfl Tryd.func10 (by kernel_rfl) rfl #[.slice A0 l0.length c0] rfl (by (try simp only [List.map_toArray, List.map_cons, List.map_nil]); first | done | rfl | (simp only [List.length_drop, List.length_take]; rfl)) ?_; (with_reducible refine (sets_Check.calls k _ _ l0 t363 _ ?side1 ?side2 A3.out).mono ?_); (case side1 => repeat (first | exact HR0.out | (with_reducible refine Kd.C_alloc ?_ _) | (with_reducible refine Kd.C_drewN ?_ _) | (with_reducible refine Kd.C_drew ?_))); (case side2 => exact HC0.out); rintro e w8 ⟨rfl, hb⟩; refine ⟨_, rfl, ?_⟩; have n0_ := Aside0.mk (below_step XShort.bel hb); clear HB; have HB := n0_; clear n0_; (try clear hb); (try clear hb2); (try clear hk); (try clear hi)))
  go_ret2
  exact ⟨by first | rfl | (simp [errW_none, errW_some] <;> rfl) | (simp [*, errW_none, errW_some] <;> rfl), XShort.bel⟩

/-! ### slices_Clone_Range: function 22 -/
def slices_Clone_Range.f (l0 : List S41) : Option (List S41) := if l0.length < 17592186044416 then some l0 else none
theorem empty_row_rng (w : World) : k41.R 41 (w.alloc (.cells #[] 41)) w.heap.size (fun _ => True) (.slice (some ⟨w.heap.size, 0, none⟩) 0 0) [] :=
 ⟨fun _ _ => trivial, [], by
  have h := World.ownsRow_lit (base := w.heap.size) (e := 41) (size := 2) w #[] 0 (Nat.le_refl _) (by decide) (by simp)
  have h2 : (w.alloc (.cells #[] 41)).ownsRow w.heap.size 41 2 (.slice (some ⟨w.heap.size, 0, none⟩) 0 0) 0 [] := by simpa using h
  exact h2, Reps.none _ _⟩
set_option maxHeartbeats 4000000 in
set_option maxRecDepth 100000 in
theorem slices_Clone_Range.calls (A0 : Option Addr) (c0 : Nat) (l0 : List S41) (r : List S41) (w : World) (hr0 : Kd.C k41 w A0 l0.length l0) (hc0 : l0.length ≤ c0) (h : slices_Clone_Range.f l0 = some r) :
  Calls Tryd.prog 22 #[.slice A0 l0.length c0] w fun e w' => ∃ v0_ : Value, e = .returned (v0_) ∧ Kd.R k41 41 w' w.heap.size (fun _ => True) v0_ r ∧ Below w.heap.size w w' := by
 unfold slices_Clone_Range.f at h
 split at h
 case isFalse => cases h
 case isTrue hn =>
 injection h with h
 subst h
 cases A0 with
 | none =>
  obtain rfl : l0 = [] := by
   rcases Nat.eq_zero_or_pos l0.length with h0 | h0
   ·exact List.length_eq_zero_iff.1 h0
   ·obtain ⟨ad, he, _⟩ := hr0.2.2 h0
    cases he
  have hq := fun (W : World) => Go.Lib.run_eql_slice_nil (P := Tryd.prog) W 24 41 none 0 c0 0 0 Tryd.underlying24
  clear hr0 hc0 hn
  go_enter Tryd.func22, Tryd.ntmps22
  go_wp2
  go_ret
  exact ⟨_, rfl, Kd.R_nil _ _ _ _ _, Below.refl _ _⟩
 | some ad =>
  have HO := Aside0.mk (empty_row_rng w)
  have HB := Aside0.mk (below_alloc (Below.refl w.heap.size w) (.cells #[] 41))
  have HC := Aside0.mk (Kd.C_below hr0 HB.out)
  have HN := Aside0.mk hn
  have hq := fun (W : World) => Go.Lib.run_eql_slice_nil (P := Tryd.prog) W 24 41 (some ad) l0.length c0 0 0 Tryd.underlying24
  clear hr0 hc0 hn
  go_enter Tryd.func22, Tryd.ntmps22
  go_wp2_with ((with_reducible refine gate_builtin (b := .append) (xs := #[.tmp 5, .tmp 6]) rfl ?_); at_builtin; refine Kd.R_append_rows k41 (w0 := w) w.heap.size rfl (.tmp 5) (.tmp 6) 24 41 (.agg #[.int .i32 0, .int .i32 0]) 8 rfl Tryd.underlying24 (by kernel_rfl) rfl (by decide) (by decide) _ [] l0 (some ad) l0.length c0 (fun _ => True) (fun _ => False) rfl rfl HO.out HC.out (fun x cs h => by obtain rfl := k41_open h; exact k41_mkM _ _ _ x) (fun _ h => h.elim) (fun _ _ => trivial) HB.out HB.out.size (by have := HN.out; simp; omega) ?_; intro v5 w5 ho hb hg hat; have HR5 := Aside0.mk ho; have HB5 := Aside0.mk hb; clear ho hb hg hat)
  go_ret
  exact ⟨_, rfl, HR5.out, HB5.out⟩

-- NOT PRINTED: function 91 (api_Range_91)

-- NOT PRINTED: function 103 (api_Range_103)

-- NOT PRINTED: function 92 (api_Range_92)

-- NOT PRINTED: function 93 (api_Range_93)

-- NOT PRINTED: function 106 (api_Range_106)

-- NOT PRINTED: function 105 (api_Range_105)

-- NOT PRINTED: function 104 (api_Range_104)

-- NOT PRINTED: function 94 (api_Range_94)

-- NOT PRINTED: function 95 (api_Range_95)

-- NOT PRINTED: function 96 (api_Range_96)

-- NOT PRINTED: function 97 (api_Range_97)

-- NOT PRINTED: function 98 (api_Range_98)

-- NOT PRINTED: function 78 (api_Range_78)

end Go.Proofs.YtcpjflgiimjfmaaDoor.XF
