/- WRITTEN BY A PROGRAM OF THIS SESSION (wip/tools/xprint.py, over the kit's printer): contracts of the functions that the seat's laws reach. -/
import Derived.Test.YtmokclfiifmhpaaDoorXS0
namespace Go.Proofs.YtmokclfiifmhpaaDoor.XS
open Go.RowKit Go.Proofs.YtmokclfiifmhpaaDoorW.PrintWords Go.Proofs.YtmokclfiifmhpaaDoorW.PrintLast Go.Proofs.YtmokclfiifmhpaaDoorW.PrintMore
attribute [local go_sem] max2_int min2_int max_two min_two max_three min_three max_four min_four   -- for this text's walks alone
set_option linter.unusedVariables false
set_option linter.unusedSimpArgs false

-- NOT PRINTED: function 25 (api_Range)

/-! ### sets_band: function 20 -/
def bandsL : List S31 := [⟨0, 55295⟩, ⟨57344, 1114111⟩, ⟨1114240, 1114367⟩]
theorem bands_reads {w : World} (hG : GOK w) : Kd.C k31 w (some ⟨2, 0, none⟩) 3 bandsL := by
  refine ⟨rfl, by omega, fun _ => ⟨_, rfl, ?_⟩⟩
  intro j p hj
  refine ⟨_, ?_, k31_mk w p, ?_⟩
  · rfl
  intro i u hu
  rcases j with _ | _ | _ | j
  · obtain rfl : p = ⟨0, 55295⟩ := by simpa [bandsL] using hj.symm
    rcases i with _ | _ | i
    · obtain rfl := Option.some.inj hu
      exact hG.sets_bands 0 _ rfl
    · obtain rfl := Option.some.inj hu
      exact hG.sets_bands 1 _ rfl
    · exact absurd hu (by simp)
  · obtain rfl : p = ⟨57344, 1114111⟩ := by simpa [bandsL] using hj.symm
    rcases i with _ | _ | i
    · obtain rfl := Option.some.inj hu
      exact hG.sets_bands 2 _ rfl
    · obtain rfl := Option.some.inj hu
      exact hG.sets_bands 3 _ rfl
    · exact absurd hu (by simp)
  · obtain rfl : p = ⟨1114240, 1114367⟩ := by simpa [bandsL] using hj.symm
    rcases i with _ | _ | i
    · obtain rfl := Option.some.inj hu
      exact hG.sets_bands 4 _ rfl
    · obtain rfl := Option.some.inj hu
      exact hG.sets_bands 5 _ rfl
    · exact absurd hu (by simp)
  · exact absurd hj (by simp [bandsL])
set_option maxHeartbeats 800000 in
theorem band_lit (x y u : Int) (g : Nat) (W : World) (hcap : W.cell? ⟨g, 0, none⟩ = some (.int .i32 u)) (hg : g < W.heap.size) :
    Calls Tryd.prog 26 #[.agg #[.int .i32 x, .int .i32 y], .pointer (some ⟨g, 0, none⟩)] W fun e w' => e = .returned (.bool (decide (x ≤ u) && decide (u ≤ y))) ∧ Below W.heap.size W w' := by
  have hu31 := Tryd.underlying31
  by_cases h1 : x ≤ u
  · have d1 : decide (x ≤ u) = true := decide_eq_true h1
    rw [d1]; simp only [Bool.true_and]
    go_enter Tryd.func26, Tryd.ntmps26
    go_wp2
    go_ret
    exact ⟨rfl, by repeat (first | exact Below.refl _ _ | apply below_alloc | apply pw_below_drewN | apply below_drew1)⟩
  · have d1 : decide (x ≤ u) = false := decide_eq_false h1
    rw [d1]; simp only [Bool.false_and]
    go_enter Tryd.func26, Tryd.ntmps26
    go_wp2
    go_ret
    exact ⟨rfl, by repeat (first | exact Below.refl _ _ | apply below_alloc | apply pw_below_drewN | apply below_drew1)⟩
def bandIdx (u : Int) : List S31 → Int → Int
  | [], _ => -1
  | x :: xs, i => if x.f0 ≤ u ∧ u ≤ x.f1 then i else bandIdx u xs (i + 1)
set_option maxHeartbeats 800000 in
set_option maxRecDepth 100000 in
theorem band_idx (u : Int) (g : Nat) (A : Option Addr) (c : Nat) (l : List S31) (w : World) (hr : Kd.C k31 w A l.length l) (hc : l.length ≤ c) (hcap : w.cell? ⟨g, 0, none⟩ = some (.int .i32 u)) (hg : g < w.heap.size) :
    Calls Tryd.prog 25 #[.slice A l.length c, .func (.func 26) #[] #[.pointer (some ⟨g, 0, none⟩)]] w fun e w' => e = .returned (.int .i64 (bandIdx u l 0)) ∧ Below w.heap.size w w' := by
  have hu31 := Tryd.underlying31
  have hm : l.length ≤ 9223372036854775807 := hr.2.1
  have HR := Aside0.mk hr
  clear hr
  have HG := Aside0.mk hcap
  clear hcap
  go_enter Tryd.func25, Tryd.ntmps25
  go_wp2
  go_loopw [8] (fun v wr => ∃ k : Nat, k ≤ l.length ∧ v = .int .i64 k ∧ Aside0 (bandIdx u (l.drop k) k = bandIdx u l 0) ∧ Aside0 (Below w.heap.size w wr)) (fun v _ => l.length - (intOf v).toNat)
  case atStart => exact ⟨0, Nat.zero_le _, rfl, ⟨rfl⟩, ⟨Below.refl _ _⟩⟩
  case round =>
    obtain ⟨k, hk, rfl, HI, HB⟩ := hrel
    by_cases hlt : k < l.length
    · have hc1 := at_T31 (Kd.C_below HR.out HB.out) k (by omega) (by omega)
      obtain ⟨ad, rfl, h0, h1⟩ := hc1
      have hI := HI.out
      rw [List.drop_eq_getElem_cons hlt, bandIdx] at hI
      have hx : rd_T31 l (k : Int) = l[k] := by simp [rd_T31, hlt]
      simp only [Int.toNat_natCast] at h0 h1
      have hcw : wr.cell? ⟨g, 0, none⟩ = some (.int .i32 u) := (HB.out.cell (p := ⟨g, 0, none⟩) hg).trans HG.out
      have hgw : g < wr.heap.size := Nat.lt_of_lt_of_le hg HB.out.size
      have HC := Aside0.mk (band_lit (rd_T31 l (k : Int)).f0 (rd_T31 l (k : Int)).f1 u g wr hcw hgw)
      clear hcw
      by_cases hp : l[k].f0 ≤ u ∧ u ≤ l[k].f1
      · rw [if_pos hp] at hI
        have HI2 := Aside0.mk hI
        have hd : (decide ((rd_T31 l (k : Int)).f0 ≤ u) && decide (u ≤ (rd_T31 l (k : Int)).f1)) = true := by rw [hx]; simp [hp]
        rw [hd] at HC
        clear hI HI hd hx hp
        go_wp2_with (refine HC.out.mono ?_; rintro e w' ⟨rfl, hb⟩; have HB2 := Aside0.mk (below_step HB.out hb); clear hb)
        go_ret
        exact ⟨by rw [← HI2.out]; rfl, HB2.out⟩
      · rw [if_neg hp] at hI
        have HI2 := Aside0.mk hI
        have hd : (decide ((rd_T31 l (k : Int)).f0 ≤ u) && decide (u ≤ (rd_T31 l (k : Int)).f1)) = false := by rw [hx]; simp; omega
        rw [hd] at HC
        clear hI HI hd hx hp
        go_wp2_with (refine HC.out.mono ?_; rintro e w' ⟨rfl, hb⟩; have HB2 := Aside0.mk (below_step HB.out hb); clear hb)
        go_roundw
        case rel => exact ⟨k + 1, by omega, by go_num, ⟨by have := HI2.out; simpa using this⟩, HB2⟩
        case measure => simp [intOf]; omega
    · have hkl : k = l.length := by omega
      have hI := HI.out
      rw [List.drop_eq_nil_of_le (by omega), bandIdx] at hI
      have HI2 := Aside0.mk hI
      clear hI HI hkl
      go_wp2
      go_ret
      exact ⟨by rw [← HI2.out]; rfl, HB.out⟩
/-- the number of the band that u lies in; -1: none -/
def sets_band.f (a0 : Int) : Option Int := some (bandIdx a0 bandsL 0)
set_option maxHeartbeats 800000 in
set_option maxRecDepth 100000 in
theorem sets_band.calls (a0 : Int) (r : Int) (w : World) (h : sets_band.f a0 = some r) (hG : GOK w := by first | (with_reducible exact HG_.out) | exact GOK.below HG_.out (by repeat (first | (with_reducible exact Below.refl _ _) | (with_reducible first | exact HB.out | apply below_alloc | apply pw_below_drewN | apply below_drew1 | refine below_set ?_ (Aside0.out (by assumption))) | exact HB.out)) | exact GOK.drewN HG_.out _ | exact GOK.drewN (GOK.drewN HG_.out _) _ | exact GOK.drew HG_.out) :
    Calls Tryd.prog 20 #[.int .i32 a0] w fun e w' => e = .returned (.int .i64 r) ∧ Below w.heap.size w w' := by
  have hu31 := Tryd.underlying31
  obtain rfl := Option.some.inj h
  have hA : Below w.heap.size w (w.alloc (.cells #[.int .i32 a0] 21)) := below_alloc (Below.refl _ _) _
  have HA := Aside0.mk hA
  have HC := Aside0.mk (band_idx a0 w.heap.size (some ⟨2, 0, none⟩) 3 bandsL (w.alloc (.cells #[.int .i32 a0] 21)) (bands_reads (hG.below hA)) (Nat.le_refl _) ((blk_cell (heap_alloc_new _ _) 0).trans rfl) (by simp))
  clear hA h
  have HGG := Aside0.mk hG
  clear hG
  go_enter Tryd.func20, Tryd.ntmps20
  go_wp2_with (refine HC.out.mono ?_; rintro e w' ⟨rfl, hb⟩; have HB := Aside0.mk (below_step HA.out hb); clear hb)
  go_ret
  exact ⟨rfl, HB.out⟩

/-! ### sets_Check: function 13 -/
mutual
def sets_Check.l0 : Nat → List (S31) → List (S31) → Int → Int → Option (Int)
  | 0, _, _, _, _ => none
  | k + 1, x0, x6, x7, x8 => if x8 < x7 then (if 0 ≤ x8 then (if x8 < (x6.length : Int) then ((sets_band.f ((rd_T31 x6 x8).f0)).bind fun t103 => (if t103 < 0 then (sets_Check.j1 k x0 x8 x6 x7 x8 true ((rd_T31 x6 x8).f0) ((rd_T31 x6 x8).f1)) else ((sets_band.f ((rd_T31 x6 x8).f1)).bind fun t104 => (if t103 = t104 then (sets_Check.j1 k x0 x8 x6 x7 x8 (decide (((rd_T31 x6 x8).f0) > ((rd_T31 x6 x8).f1))) ((rd_T31 x6 x8).f0) ((rd_T31 x6 x8).f1)) else (sets_Check.j1 k x0 x8 x6 x7 x8 true ((rd_T31 x6 x8).f0) ((rd_T31 x6 x8).f1)))))) else (none)) else (none)) else (some 0)
def sets_Check.j1 : Nat → List (S31) → Int → List (S31) → Int → Int → Bool → Int → Int → Option (Int)
  | 0, _, _, _, _, _, _, _, _ => none
  | k + 1, x0, x3, x6, x7, x8, x31, x103000, x103001 => if x31 = true then (some 1) else (if x3 > 0 then (if 0 ≤ (wrap64 (x3 - 1)) then (if (wrap64 (x3 - 1)) < (x0.length : Int) then (if x103000 ≤ ((rd_T31 x0 (wrap64 (x3 - 1))).f1) then (some 1) else (if x103000 = (wrap32 (((rd_T31 x0 (wrap64 (x3 - 1))).f1) + 1)) then (some 1) else (sets_Check.l0 k x0 x6 x7 (wrap64 (x8 + 1))))) else (none)) else (none)) else (sets_Check.l0 k x0 x6 x7 (wrap64 (x8 + 1))))
end
def sets_Check.f (k : Nat) (l0 : List (S31)) : Option (Int) := sets_Check.l0 k l0 l0 (l0.length : Int) 0
theorem sets_Check.mono_l : ∀ k, (∀ y0 y1 y2 y3, LeO (sets_Check.l0 k y0 y1 y2 y3) (sets_Check.l0 (k + 1) y0 y1 y2 y3)) ∧ (∀ y0 y1 y2 y3 y4 y5 y6 y7, LeO (sets_Check.j1 k y0 y1 y2 y3 y4 y5 y6 y7) (sets_Check.j1 (k + 1) y0 y1 y2 y3 y4 y5 y6 y7))
  | 0 => ⟨fun _ _ _ _ r h => by simp [sets_Check.l0] at h, fun _ _ _ _ _ _ _ _ r h => by simp [sets_Check.j1] at h⟩
  | k + 1 => by
    obtain ⟨ih0, ih1⟩ := sets_Check.mono_l k
    refine ⟨?_, ?_⟩
    · intro y0 y1 y2 y3
      unfold sets_Check.l0
      repeat' first
      | (with_reducible exact ih0 _ _ _ _)
      | (with_reducible exact ih1 _ _ _ _ _ _ _ _)
      | (with_reducible exact LeO.refl _)
      | (with_reducible exact LeO.none _)
      | (with_reducible refine LeO.ite ?_ ?_)
      | (with_reducible refine LeO.bind ?_ (fun _ => ?_))
      | exact ih0 _ _ _ _
      | exact ih1 _ _ _ _ _ _ _ _
      | exact LeO.none _
      | refine LeO.ite ?_ ?_
      | refine LeO.bind ?_ (fun _ => ?_)
    · intro y0 y1 y2 y3 y4 y5 y6 y7
      unfold sets_Check.j1
      repeat' first
      | (with_reducible exact ih0 _ _ _ _)
      | (with_reducible exact ih1 _ _ _ _ _ _ _ _)
      | (with_reducible exact LeO.refl _)
      | (with_reducible exact LeO.none _)
      | (with_reducible refine LeO.ite ?_ ?_)
      | (with_reducible refine LeO.bind ?_ (fun _ => ?_))
      | exact ih0 _ _ _ _
      | exact ih1 _ _ _ _ _ _ _ _
      | exact LeO.none _
      | refine LeO.ite ?_ ?_
      | refine LeO.bind ?_ (fun _ => ?_)
theorem sets_Check.mono : ∀ a0 k, LeO (sets_Check.f k a0) (sets_Check.f (k + 1) a0) := by
  intro a0 k
  obtain ⟨ih0, ih1⟩ := sets_Check.mono_l k
  unfold sets_Check.f
  repeat' first
      | (with_reducible exact ih0 _ _ _ _)
      | (with_reducible exact ih1 _ _ _ _ _ _ _ _)
      | (with_reducible exact LeO.refl _)
      | (with_reducible exact LeO.none _)
      | (with_reducible refine LeO.ite ?_ ?_)
      | (with_reducible refine LeO.bind ?_ (fun _ => ?_))
      | exact ih0 _ _ _ _
      | exact ih1 _ _ _ _ _ _ _ _
      | exact LeO.none _
      | refine LeO.ite ?_ ?_
      | refine LeO.bind ?_ (fun _ => ?_)
set_option maxHeartbeats 8000000 in
set_option maxRecDepth 100000 in
theorem sets_Check.calls (k : Nat) (A0 : Option Addr) (c0 : Nat) (l0 : List (S31)) (r : Int) (w : World) (hr0 : Kd.C k31 w A0 l0.length l0) (hc0 : l0.length ≤ c0) (h : sets_Check.f k l0 = some r) (hG : GOK w := by first | (with_reducible exact HG_.out) | exact GOK.below HG_.out (by repeat (first | (with_reducible exact Below.refl _ _) | (with_reducible first | exact HB.out | apply below_alloc | apply pw_below_drewN | apply below_drew1 | refine below_set ?_ (Aside0.out (by assumption))) | exact HB.out)) | exact GOK.drewN HG_.out _ | exact GOK.drewN (GOK.drewN HG_.out _) _ | exact GOK.drew HG_.out) :
    Calls Tryd.prog 13 #[.slice A0 l0.length c0] w fun e w' => e = .returned (.int .i64 r) ∧ Below w.heap.size w w' := by
  have HG_ := Aside0.mk hG
  clear hG
  have hu31 := Tryd.underlying31
  have HR0 := Aside0.mk hr0
  have HC0 := Aside0.mk hc0
  clear hr0 hc0
  have HB := Aside0.mk (Below.refl w.heap.size w)
  have H : (sets_Check.l0 k l0 l0 (l0.length : Int) 0) = some r := h
  clear h
  have H' := Aside0.mk H
  clear H
  go_enter Tryd.func13, Tryd.ntmps13
  go_wp2
  repeat (go_quiet (fail); try go_wp2)
  go_loopg [8] k (fun kq v8 w' => ∃ (x8_1 : Int), v8 = .int .i64 x8_1 ∧ Aside0 (sets_Check.l0 kq l0 l0 (l0.length : Int) x8_1 = some r) ∧ Aside0 (kq ≤ k) ∧ Aside0 (Below w.heap.size w w'))
  case atStart => exact ⟨(0), (by first | rfl | (simp; done) | (simp [*]; done)), H', ⟨Nat.le_refl _⟩, ⟨by repeat (first | (with_reducible first | exact HB.out | apply below_alloc | apply pw_below_drewN | apply below_drew1) | exact HB.out)⟩⟩
  case round =>
    clear H'
    try clear c1
    obtain ⟨x8_1, rfl, HA, HK1, HB⟩ := hrel
    cases gk with
    | zero => exact absurd HA.out (by simp [sets_Check.l0])
    | succ k1 =>
      have H := HA.out
      clear HA
      simp only [sets_Check.l0] at H
      by_cases c2 : x8_1 < (l0.length : Int)
      · rw [if_pos c2] at H
        have c2b0 : decide (x8_1 < (l0.length : Int)) = true := decide_eq_true c2
        clear c2
        by_cases c3 : 0 ≤ x8_1
        · rw [if_pos c3] at H
          have c3b0 : decide (0 ≤ x8_1) = true := decide_eq_true c3
          clear c3
          by_cases c4 : x8_1 < (l0.length : Int)
          · rw [if_pos c4] at H
            have c4b0 : decide (x8_1 < (l0.length : Int)) = true := decide_eq_true c4
            clear c4
            replace H := Option.bind_eq_some_iff.mp H
            obtain ⟨t103, A50, H⟩ := H
            replace H : (if t103 < 0 then (sets_Check.j1 k1 l0 x8_1 l0 (l0.length : Int) x8_1 true ((rd_T31 l0 x8_1).f0) ((rd_T31 l0 x8_1).f1)) else ((sets_band.f ((rd_T31 l0 x8_1).f1)).bind fun t104 => (if t103 = t104 then (sets_Check.j1 k1 l0 x8_1 l0 (l0.length : Int) x8_1 (decide (((rd_T31 l0 x8_1).f0) > ((rd_T31 l0 x8_1).f1))) ((rd_T31 l0 x8_1).f0) ((rd_T31 l0 x8_1).f1)) else (sets_Check.j1 k1 l0 x8_1 l0 (l0.length : Int) x8_1 true ((rd_T31 l0 x8_1).f0) ((rd_T31 l0 x8_1).f1))))) = some r := H
            have A5 := Aside0.mk A50
            clear A50
            have HC6 := Aside0.mk H
            clear H
            have p101 : 0 ≤ (x8_1 : Int) := of_decide_eq_true (by first | (with_reducible assumption) | assumption)
            have q101 : x8_1 < (l0.length : Int) := of_decide_eq_true (by first | (with_reducible assumption) | assumption)
            obtain ⟨ad101, e101, hx101_0, hx101_1⟩ := at_T31 HR0.out x8_1 p101 q101
            cases e101
            replace hx101_0 := (HB.out.cell (World.block_lt_of_cell? w _ hx101_0)).trans hx101_0
            replace hx101_1 := (HB.out.cell (World.block_lt_of_cell? w _ hx101_1)).trans hx101_1
            replace p101 := eq_true p101
            replace q101 := eq_true q101
            go_upto_region 5 with (first | ((with_reducible refine gate_dst (N := 4) rfl ?_); refine box_event ?hg (N := 4) ?hd (cs := #[.int .i32 0, .int .i32 0]) (t := 31) ?hr ?_; (case hd => rfl); (case hg => rfl); (case hr => first | (go_simp; done) | (go_simp; rfl)); intro gb102 hg w7 hbox hb; have n0_ := Aside0.mk (below_step (by repeat (first | (with_reducible first | exact HB.out | apply below_alloc | apply pw_below_drewN | apply below_drew1) | exact HB.out)) hb); have n1_ := Aside0.mk (hbox); have n2_ := Aside0.mk ((by rw [hg]; exact (below_size (by repeat (first | (with_reducible first | exact HB.out | apply below_alloc | apply pw_below_drewN | apply below_drew1) | exact HB.out))) : w.heap.size ≤ gb102)); have n3_ := Aside0.mk ((by rw [hg]; exact (below_size (by repeat (first | (with_reducible first | exact HB.out | apply below_alloc | apply pw_below_drewN | apply below_drew1) | exact HB.out))) : w.heap.size ≤ gb102)); clear HB; have HB := n0_; have BK102 := n1_; have GW102 := n2_; have GE102 := n3_; clear n0_ n1_ n2_ n3_; clear hb hbox hg; have hcz8_0 : w7.cell? ⟨gb102, 0, none⟩ = some (.int .i32 0) := (blk_cell BK102.out 0).trans rfl; have hcz8_1 : w7.cell? ⟨gb102, 1, none⟩ = some (.int .i32 0) := (blk_cell BK102.out 1).trans rfl; have hfz8_0 := blk_frozen BK102.out 0; have hfz8_1 := blk_frozen BK102.out 1) | (go_at_call 20; (with_reducible refine (sets_band.calls ((rd_T31 l0 x8_1).f0) t103 _ A5.out).mono ?_); rintro e w9 ⟨rfl, hb⟩; have n0_ := Aside0.mk (blk_below (g := gb102) (o := .cells #[.int .i32 ((rd_T31 l0 x8_1).f0), .int .i32 ((rd_T31 l0 x8_1).f1)] 31 (0, 0)) (by (with_reducible repeat (first | refine blk_drewN ?_ _ | refine blk_drew ?_ | refine blk_alloc ?_ _)); refine blk_put (cs := #[.int .i32 ((rd_T31 l0 x8_1).f0), .int .i32 0]) ?_ 1 _ rfl; (with_reducible repeat (first | refine blk_drewN ?_ _ | refine blk_drew ?_ | refine blk_alloc ?_ _)); refine blk_put (cs := #[.int .i32 0, .int .i32 0]) ?_ 0 _ rfl; (with_reducible repeat (first | refine blk_drewN ?_ _ | refine blk_drew ?_ | refine blk_alloc ?_ _)); exact BK102.out) hb); have n1_ := Aside0.mk (below_step (by repeat (first | (with_reducible first | exact HB.out | apply below_alloc | apply pw_below_drewN | apply below_drew1 | refine below_set ?_ GE102.out) | exact HB.out)) hb); clear BK102; clear HB; have BK102 := n0_; have HB := n1_; clear n0_ n1_; (try clear hb); (try clear hb2); (try clear hk); (try clear hi)))
            repeat (go_quiet (first | ((with_reducible refine gate_dst (N := 4) rfl ?_); refine box_event ?hg (N := 4) ?hd (cs := #[.int .i32 0, .int .i32 0]) (t := 31) ?hr ?_; (case hd => rfl); (case hg => rfl); (case hr => first | (go_simp; done) | (go_simp; rfl)); intro gb102 hg w7 hbox hb; have n0_ := Aside0.mk (below_step (by repeat (first | (with_reducible first | exact HB.out | apply below_alloc | apply pw_below_drewN | apply below_drew1) | exact HB.out)) hb); have n1_ := Aside0.mk (hbox); have n2_ := Aside0.mk ((by rw [hg]; exact (below_size (by repeat (first | (with_reducible first | exact HB.out | apply below_alloc | apply pw_below_drewN | apply below_drew1) | exact HB.out))) : w.heap.size ≤ gb102)); have n3_ := Aside0.mk ((by rw [hg]; exact (below_size (by repeat (first | (with_reducible first | exact HB.out | apply below_alloc | apply pw_below_drewN | apply below_drew1) | exact HB.out))) : w.heap.size ≤ gb102)); clear HB; have HB := n0_; have BK102 := n1_; have GW102 := n2_; have GE102 := n3_; clear n0_ n1_ n2_ n3_; clear hb hbox hg; have hcz8_0 : w7.cell? ⟨gb102, 0, none⟩ = some (.int .i32 0) := (blk_cell BK102.out 0).trans rfl; have hcz8_1 : w7.cell? ⟨gb102, 1, none⟩ = some (.int .i32 0) := (blk_cell BK102.out 1).trans rfl; have hfz8_0 := blk_frozen BK102.out 0; have hfz8_1 := blk_frozen BK102.out 1) | (go_at_call 20; (with_reducible refine (sets_band.calls ((rd_T31 l0 x8_1).f0) t103 _ A5.out).mono ?_); rintro e w9 ⟨rfl, hb⟩; have n0_ := Aside0.mk (blk_below (g := gb102) (o := .cells #[.int .i32 ((rd_T31 l0 x8_1).f0), .int .i32 ((rd_T31 l0 x8_1).f1)] 31 (0, 0)) (by (with_reducible repeat (first | refine blk_drewN ?_ _ | refine blk_drew ?_ | refine blk_alloc ?_ _)); refine blk_put (cs := #[.int .i32 ((rd_T31 l0 x8_1).f0), .int .i32 0]) ?_ 1 _ rfl; (with_reducible repeat (first | refine blk_drewN ?_ _ | refine blk_drew ?_ | refine blk_alloc ?_ _)); refine blk_put (cs := #[.int .i32 0, .int .i32 0]) ?_ 0 _ rfl; (with_reducible repeat (first | refine blk_drewN ?_ _ | refine blk_drew ?_ | refine blk_alloc ?_ _)); exact BK102.out) hb); have n1_ := Aside0.mk (below_step (by repeat (first | (with_reducible first | exact HB.out | apply below_alloc | apply pw_below_drewN | apply below_drew1 | refine below_set ?_ GE102.out) | exact HB.out)) hb); clear BK102; clear HB; have BK102 := n0_; have HB := n1_; clear n0_ n1_; (try clear hb); (try clear hb2); (try clear hk); (try clear hi))); go_upto_region 5 with (first | ((with_reducible refine gate_dst (N := 4) rfl ?_); refine box_event ?hg (N := 4) ?hd (cs := #[.int .i32 0, .int .i32 0]) (t := 31) ?hr ?_; (case hd => rfl); (case hg => rfl); (case hr => first | (go_simp; done) | (go_simp; rfl)); intro gb102 hg w7 hbox hb; have n0_ := Aside0.mk (below_step (by repeat (first | (with_reducible first | exact HB.out | apply below_alloc | apply pw_below_drewN | apply below_drew1) | exact HB.out)) hb); have n1_ := Aside0.mk (hbox); have n2_ := Aside0.mk ((by rw [hg]; exact (below_size (by repeat (first | (with_reducible first | exact HB.out | apply below_alloc | apply pw_below_drewN | apply below_drew1) | exact HB.out))) : w.heap.size ≤ gb102)); have n3_ := Aside0.mk ((by rw [hg]; exact (below_size (by repeat (first | (with_reducible first | exact HB.out | apply below_alloc | apply pw_below_drewN | apply below_drew1) | exact HB.out))) : w.heap.size ≤ gb102)); clear HB; have HB := n0_; have BK102 := n1_; have GW102 := n2_; have GE102 := n3_; clear n0_ n1_ n2_ n3_; clear hb hbox hg; have hcz8_0 : w7.cell? ⟨gb102, 0, none⟩ = some (.int .i32 0) := (blk_cell BK102.out 0).trans rfl; have hcz8_1 : w7.cell? ⟨gb102, 1, none⟩ = some (.int .i32 0) := (blk_cell BK102.out 1).trans rfl; have hfz8_0 := blk_frozen BK102.out 0; have hfz8_1 := blk_frozen BK102.out 1) | (go_at_call 20; (with_reducible refine (sets_band.calls ((rd_T31 l0 x8_1).f0) t103 _ A5.out).mono ?_); rintro e w9 ⟨rfl, hb⟩; have n0_ := Aside0.mk (blk_below (g := gb102) (o := .cells #[.int .i32 ((rd_T31 l0 x8_1).f0), .int .i32 ((rd_T31 l0 x8_1).f1)] 31 (0, 0)) (by (with_reducible repeat (first | refine blk_drewN ?_ _ | refine blk_drew ?_ | refine blk_alloc ?_ _)); refine blk_put (cs := #[.int .i32 ((rd_T31 l0 x8_1).f0), .int .i32 0]) ?_ 1 _ rfl; (with_reducible repeat (first | refine blk_drewN ?_ _ | refine blk_drew ?_ | refine blk_alloc ?_ _)); refine blk_put (cs := #[.int .i32 0, .int .i32 0]) ?_ 0 _ rfl; (with_reducible repeat (first | refine blk_drewN ?_ _ | refine blk_drew ?_ | refine blk_alloc ?_ _)); exact BK102.out) hb); have n1_ := Aside0.mk (below_step (by repeat (first | (with_reducible first | exact HB.out | apply below_alloc | apply pw_below_drewN | apply below_drew1 | refine below_set ?_ GE102.out) | exact HB.out)) hb); clear BK102; clear HB; have BK102 := n0_; have HB := n1_; clear n0_ n1_; (try clear hb); (try clear hb2); (try clear hk); (try clear hi))))
            (try simp only [Act.put, List.setIfInBounds_toArray, List.set_cons_zero, List.set_cons_succ])
            go_cut [31] (fun v31 wc => ∃ (kq : Nat) (x31_5 : Bool), v31 = .bool x31_5 ∧ Aside0 (sets_Check.j1 kq l0 x8_1 l0 (l0.length : Int) x8_1 x31_5 ((rd_T31 l0 x8_1).f0) ((rd_T31 l0 x8_1).f1) = some r) ∧ Aside0 (kq ≤ k1) ∧ Aside0 (wc.heap[gb102]? = some (.cells #[.int .i32 ((rd_T31 l0 x8_1).f0), .int .i32 ((rd_T31 l0 x8_1).f1)] 31 (0, 0))) ∧ Aside0 (Below w.heap.size w wc))
            case first =>
              have H := HC6.out
              clear HC6
              by_cases c10 : t103 < 0
              · rw [if_pos c10] at H
                have c10b0 : decide (t103 < 0) = true := decide_eq_true c10
                clear c10
                (first | rw [c10b0] | (simp only [i64_w, i32_w]; rw [c10b0]) | skip)
                have H' := Aside0.mk H
                clear H
                go_wp2
                repeat (go_quiet (fail); try go_wp2)
                go_meet
                case rel => exact ⟨_, (true), (by first | rfl | (simp; done) | (simp [*]; done)), H', ⟨by have := HK1.out; first | omega | exact Nat.le_refl _⟩, ⟨by (with_reducible repeat (first | refine blk_drewN ?_ _ | refine blk_drew ?_ | refine blk_alloc ?_ _)); exact BK102.out⟩, ⟨by repeat (first | (with_reducible first | exact HB.out | apply below_alloc | apply pw_below_drewN | apply below_drew1 | refine below_set ?_ GE102.out) | exact HB.out)⟩⟩
              · rw [if_neg c10] at H
                have c10b0 : decide (t103 < 0) = false := decide_eq_false c10
                clear c10
                (first | rw [c10b0] | (simp only [i64_w, i32_w]; rw [c10b0]) | skip)
                replace H := Option.bind_eq_some_iff.mp H
                obtain ⟨t104, A110, H⟩ := H
                replace H : (if t103 = t104 then (sets_Check.j1 k1 l0 x8_1 l0 (l0.length : Int) x8_1 (decide (((rd_T31 l0 x8_1).f0) > ((rd_T31 l0 x8_1).f1))) ((rd_T31 l0 x8_1).f0) ((rd_T31 l0 x8_1).f1)) else (sets_Check.j1 k1 l0 x8_1 l0 (l0.length : Int) x8_1 true ((rd_T31 l0 x8_1).f0) ((rd_T31 l0 x8_1).f1))) = some r := H
                have A11 := Aside0.mk A110
                clear A110
                by_cases c12 : t103 = t104
                · rw [if_pos c12] at H
                  have c12b0 : (t103 == t104) = true := beq_iff_eq.mpr c12
                  have c12b1 : (t103 != t104) = false := bne_eq_false_iff_eq.mpr c12
                  clear c12
                  have H' := Aside0.mk H
                  clear H
                  have hcz13_0 : w9.cell? ⟨gb102, 0, none⟩ = some (.int .i32 ((rd_T31 l0 x8_1).f0)) := (blk_cell BK102.out 0).trans rfl
                  have hcz13_1 : w9.cell? ⟨gb102, 1, none⟩ = some (.int .i32 ((rd_T31 l0 x8_1).f1)) := (blk_cell BK102.out 1).trans rfl
                  have hfz13_0 := blk_frozen BK102.out 0
                  have hfz13_1 := blk_frozen BK102.out 1
                  go_wp2_with (first | (go_at_call 20; (with_reducible refine (sets_band.calls ((rd_T31 l0 x8_1).f1) t104 _ A11.out).mono ?_); rintro e w14 ⟨rfl, hb⟩; have n0_ := Aside0.mk (blk_below (g := gb102) (o := .cells #[.int .i32 ((rd_T31 l0 x8_1).f0), .int .i32 ((rd_T31 l0 x8_1).f1)] 31 (0, 0)) (by (with_reducible repeat (first | refine blk_drewN ?_ _ | refine blk_drew ?_ | refine blk_alloc ?_ _)); exact BK102.out) hb); have n1_ := Aside0.mk (below_step (by repeat (first | (with_reducible first | exact HB.out | apply below_alloc | apply pw_below_drewN | apply below_drew1 | refine below_set ?_ GE102.out) | exact HB.out)) hb); clear BK102; clear HB; have BK102 := n0_; have HB := n1_; clear n0_ n1_; (try clear hb); (try clear hb2); (try clear hk); (try clear hi); have hcz15_0 : w14.cell? ⟨gb102, 0, none⟩ = some (.int .i32 ((rd_T31 l0 x8_1).f0)) := (blk_cell BK102.out 0).trans rfl; have hcz15_1 : w14.cell? ⟨gb102, 1, none⟩ = some (.int .i32 ((rd_T31 l0 x8_1).f1)) := (blk_cell BK102.out 1).trans rfl; have hfz15_0 := blk_frozen BK102.out 0; have hfz15_1 := blk_frozen BK102.out 1))
                  repeat (go_quiet (first | (go_at_call 20; (with_reducible refine (sets_band.calls ((rd_T31 l0 x8_1).f1) t104 _ A11.out).mono ?_); rintro e w14 ⟨rfl, hb⟩; have n0_ := Aside0.mk (blk_below (g := gb102) (o := .cells #[.int .i32 ((rd_T31 l0 x8_1).f0), .int .i32 ((rd_T31 l0 x8_1).f1)] 31 (0, 0)) (by (with_reducible repeat (first | refine blk_drewN ?_ _ | refine blk_drew ?_ | refine blk_alloc ?_ _)); exact BK102.out) hb); have n1_ := Aside0.mk (below_step (by repeat (first | (with_reducible first | exact HB.out | apply below_alloc | apply pw_below_drewN | apply below_drew1 | refine below_set ?_ GE102.out) | exact HB.out)) hb); clear BK102; clear HB; have BK102 := n0_; have HB := n1_; clear n0_ n1_; (try clear hb); (try clear hb2); (try clear hk); (try clear hi); have hcz15_0 : w14.cell? ⟨gb102, 0, none⟩ = some (.int .i32 ((rd_T31 l0 x8_1).f0)) := (blk_cell BK102.out 0).trans rfl; have hcz15_1 : w14.cell? ⟨gb102, 1, none⟩ = some (.int .i32 ((rd_T31 l0 x8_1).f1)) := (blk_cell BK102.out 1).trans rfl; have hfz15_0 := blk_frozen BK102.out 0; have hfz15_1 := blk_frozen BK102.out 1)); try go_wp2_with (first | (go_at_call 20; (with_reducible refine (sets_band.calls ((rd_T31 l0 x8_1).f1) t104 _ A11.out).mono ?_); rintro e w14 ⟨rfl, hb⟩; have n0_ := Aside0.mk (blk_below (g := gb102) (o := .cells #[.int .i32 ((rd_T31 l0 x8_1).f0), .int .i32 ((rd_T31 l0 x8_1).f1)] 31 (0, 0)) (by (with_reducible repeat (first | refine blk_drewN ?_ _ | refine blk_drew ?_ | refine blk_alloc ?_ _)); exact BK102.out) hb); have n1_ := Aside0.mk (below_step (by repeat (first | (with_reducible first | exact HB.out | apply below_alloc | apply pw_below_drewN | apply below_drew1 | refine below_set ?_ GE102.out) | exact HB.out)) hb); clear BK102; clear HB; have BK102 := n0_; have HB := n1_; clear n0_ n1_; (try clear hb); (try clear hb2); (try clear hk); (try clear hi); have hcz15_0 : w14.cell? ⟨gb102, 0, none⟩ = some (.int .i32 ((rd_T31 l0 x8_1).f0)) := (blk_cell BK102.out 0).trans rfl; have hcz15_1 : w14.cell? ⟨gb102, 1, none⟩ = some (.int .i32 ((rd_T31 l0 x8_1).f1)) := (blk_cell BK102.out 1).trans rfl; have hfz15_0 := blk_frozen BK102.out 0; have hfz15_1 := blk_frozen BK102.out 1)))
                  go_meet
                  case rel => exact ⟨_, (decide (((rd_T31 l0 x8_1).f0) > ((rd_T31 l0 x8_1).f1))), (by first | rfl | (simp; done) | (simp [*]; done)), H', ⟨by have := HK1.out; first | omega | exact Nat.le_refl _⟩, ⟨by (with_reducible repeat (first | refine blk_drewN ?_ _ | refine blk_drew ?_ | refine blk_alloc ?_ _)); exact BK102.out⟩, ⟨by repeat (first | (with_reducible first | exact HB.out | apply below_alloc | apply pw_below_drewN | apply below_drew1 | refine below_set ?_ GE102.out) | exact HB.out)⟩⟩
                · rw [if_neg c12] at H
                  have c12b0 : (t103 == t104) = false := beq_eq_false_iff_ne.mpr c12
                  have c12b1 : (t103 != t104) = true := bne_iff_ne.mpr c12
                  have H' := Aside0.mk H
                  clear H
                  have hcz16_0 : w9.cell? ⟨gb102, 0, none⟩ = some (.int .i32 ((rd_T31 l0 x8_1).f0)) := (blk_cell BK102.out 0).trans rfl
                  have hcz16_1 : w9.cell? ⟨gb102, 1, none⟩ = some (.int .i32 ((rd_T31 l0 x8_1).f1)) := (blk_cell BK102.out 1).trans rfl
                  have hfz16_0 := blk_frozen BK102.out 0
                  have hfz16_1 := blk_frozen BK102.out 1
                  go_wp2_with (first | (go_at_call 20; (with_reducible refine (sets_band.calls ((rd_T31 l0 x8_1).f1) t104 _ A11.out).mono ?_); rintro e w17 ⟨rfl, hb⟩; have n0_ := Aside0.mk (blk_below (g := gb102) (o := .cells #[.int .i32 ((rd_T31 l0 x8_1).f0), .int .i32 ((rd_T31 l0 x8_1).f1)] 31 (0, 0)) (by (with_reducible repeat (first | refine blk_drewN ?_ _ | refine blk_drew ?_ | refine blk_alloc ?_ _)); exact BK102.out) hb); have n1_ := Aside0.mk (below_step (by repeat (first | (with_reducible first | exact HB.out | apply below_alloc | apply pw_below_drewN | apply below_drew1 | refine below_set ?_ GE102.out) | exact HB.out)) hb); clear BK102; clear HB; have BK102 := n0_; have HB := n1_; clear n0_ n1_; (try clear hb); (try clear hb2); (try clear hk); (try clear hi)))
                  repeat (go_quiet (first | (go_at_call 20; (with_reducible refine (sets_band.calls ((rd_T31 l0 x8_1).f1) t104 _ A11.out).mono ?_); rintro e w17 ⟨rfl, hb⟩; have n0_ := Aside0.mk (blk_below (g := gb102) (o := .cells #[.int .i32 ((rd_T31 l0 x8_1).f0), .int .i32 ((rd_T31 l0 x8_1).f1)] 31 (0, 0)) (by (with_reducible repeat (first | refine blk_drewN ?_ _ | refine blk_drew ?_ | refine blk_alloc ?_ _)); exact BK102.out) hb); have n1_ := Aside0.mk (below_step (by repeat (first | (with_reducible first | exact HB.out | apply below_alloc | apply pw_below_drewN | apply below_drew1 | refine below_set ?_ GE102.out) | exact HB.out)) hb); clear BK102; clear HB; have BK102 := n0_; have HB := n1_; clear n0_ n1_; (try clear hb); (try clear hb2); (try clear hk); (try clear hi))); try go_wp2_with (first | (go_at_call 20; (with_reducible refine (sets_band.calls ((rd_T31 l0 x8_1).f1) t104 _ A11.out).mono ?_); rintro e w17 ⟨rfl, hb⟩; have n0_ := Aside0.mk (blk_below (g := gb102) (o := .cells #[.int .i32 ((rd_T31 l0 x8_1).f0), .int .i32 ((rd_T31 l0 x8_1).f1)] 31 (0, 0)) (by (with_reducible repeat (first | refine blk_drewN ?_ _ | refine blk_drew ?_ | refine blk_alloc ?_ _)); exact BK102.out) hb); have n1_ := Aside0.mk (below_step (by repeat (first | (with_reducible first | exact HB.out | apply below_alloc | apply pw_below_drewN | apply below_drew1 | refine below_set ?_ GE102.out) | exact HB.out)) hb); clear BK102; clear HB; have BK102 := n0_; have HB := n1_; clear n0_ n1_; (try clear hb); (try clear hb2); (try clear hk); (try clear hi))))
                  go_meet
                  case rel => exact ⟨_, (true), (by first | rfl | (simp; done) | (simp [*]; done)), H', ⟨by have := HK1.out; first | omega | exact Nat.le_refl _⟩, ⟨by (with_reducible repeat (first | refine blk_drewN ?_ _ | refine blk_drew ?_ | refine blk_alloc ?_ _)); exact BK102.out⟩, ⟨by repeat (first | (with_reducible first | exact HB.out | apply below_alloc | apply pw_below_drewN | apply below_drew1 | refine below_set ?_ GE102.out) | exact HB.out)⟩⟩
            case rest =>
              clear HC6
              try clear c1
              try clear p1
              try clear q1
              try clear hx1
              try clear c2
              try clear c2b0
              try clear p2
              try clear c3
              try clear c3b0
              try clear c4
              try clear c4b0
              try clear c10
              try clear c10b0
              try clear p10
              try clear q10
              try clear hx10
              try clear c12
              try clear c12b0
              try clear c12b1
              try clear c13
              try clear hcz13_0
              try clear hcz13_1
              try clear hcz15_0
              try clear hcz15_1
              try clear hcz16_0
              try clear hcz16_1
              try clear hcz8_0
              try clear hcz8_1
              try clear hfz13_0
              try clear hfz13_1
              try clear hfz15_0
              try clear hfz15_1
              try clear hfz16_0
              try clear hfz16_1
              try clear hfz8_0
              try clear hfz8_1
              try clear hx101_0
              try clear hx101_1
              try clear p101
              try clear q101
              obtain ⟨kq, x31_5, rfl, HA, HJ5, BK102, HB⟩ := hcut
              cases kq with
              | zero => exact absurd HA.out (by simp [sets_Check.j1])
              | succ kj5 =>
                have H := HA.out
                clear HA
                simp only [sets_Check.j1] at H
                by_cases c18 : x31_5 = true
                · subst c18
                  have H1 : (some 1) = some r := by rw [if_pos rfl] at H; exact H
                  clear H
                  have H := H1
                  clear H1
                  obtain rfl := Option.some.inj H
                  go_wp2
                  repeat (go_quiet (fail); try go_wp2)
                  go_ret
                  exact ⟨by first | rfl | (simp [errW_none, errW_some] <;> rfl) | (simp [*, errW_none, errW_some] <;> rfl), by repeat (first | (with_reducible first | exact HB.out | apply below_alloc | apply pw_below_drewN | apply below_drew1 | refine below_set ?_ GE102.out) | exact HB.out)⟩
                · replace c18 := Bool.eq_false_iff.mpr c18
                  subst c18
                  have H1 : (if x8_1 > 0 then (if 0 ≤ (wrap64 (x8_1 - 1)) then (if (wrap64 (x8_1 - 1)) < (l0.length : Int) then (if ((rd_T31 l0 x8_1).f0) ≤ ((rd_T31 l0 (wrap64 (x8_1 - 1))).f1) then (some 1) else (if ((rd_T31 l0 x8_1).f0) = (wrap32 (((rd_T31 l0 (wrap64 (x8_1 - 1))).f1) + 1)) then (some 1) else (sets_Check.l0 kj5 l0 l0 (l0.length : Int) (wrap64 (x8_1 + 1))))) else (none)) else (none)) else (sets_Check.l0 kj5 l0 l0 (l0.length : Int) (wrap64 (x8_1 + 1)))) = some r := by rw [if_neg (show ¬ (false = true) by decide)] at H; exact H
                  clear H
                  have H := H1
                  clear H1
                  by_cases c19 : x8_1 > 0
                  · rw [if_pos c19] at H
                    have c19b0 : decide (0 < x8_1) = true := decide_eq_true c19
                    clear c19
                    obtain ⟨ji20, hji20⟩ : ∃ j_ : Int, (wrap64 (x8_1 - 1)) = j_ := ⟨_, rfl⟩
                    replace H : (if 0 ≤ (ji20) then (if (ji20) < (l0.length : Int) then (if ((rd_T31 l0 x8_1).f0) ≤ ((rd_T31 l0 (ji20)).f1) then (some 1) else (if ((rd_T31 l0 x8_1).f0) = (wrap32 (((rd_T31 l0 (ji20)).f1) + 1)) then (some 1) else (sets_Check.l0 kj5 l0 l0 (l0.length : Int) (wrap64 (x8_1 + 1))))) else (none)) else (none)) = some r := by first | (rw [hji20] at H; exact H) | (simp only [hji20] at H ⊢; exact H)
                    have hji20w : (IntKind.i64.wrap (x8_1 - 1)) = ji20 := (i64_w _).trans hji20
                    by_cases c21 : 0 ≤ (ji20)
                    · rw [if_pos c21] at H
                      have c21b0 : decide (0 ≤ (ji20)) = true := decide_eq_true c21
                      clear c21
                      by_cases c22 : (ji20) < (l0.length : Int)
                      · rw [if_pos c22] at H
                        have c22b0 : decide ((ji20) < (l0.length : Int)) = true := decide_eq_true c22
                        clear c22
                        by_cases c23 : ((rd_T31 l0 x8_1).f0) ≤ ((rd_T31 l0 (ji20)).f1)
                        · rw [if_pos c23] at H
                          have c23b0 : decide (((rd_T31 l0 x8_1).f0) ≤ ((rd_T31 l0 (ji20)).f1)) = true := decide_eq_true c23
                          clear c23
                          obtain rfl := Option.some.inj H
                          have hcz24_0 : wc.cell? ⟨gb102, 0, none⟩ = some (.int .i32 ((rd_T31 l0 x8_1).f0)) := (blk_cell BK102.out 0).trans rfl
                          have hcz24_1 : wc.cell? ⟨gb102, 1, none⟩ = some (.int .i32 ((rd_T31 l0 x8_1).f1)) := (blk_cell BK102.out 1).trans rfl
                          have hfz24_0 := blk_frozen BK102.out 0
                          have hfz24_1 := blk_frozen BK102.out 1
                          have p105 : 0 ≤ ((ji20) : Int) := of_decide_eq_true (by first | (with_reducible assumption) | assumption)
                          have q105 : (ji20) < (l0.length : Int) := of_decide_eq_true (by first | (with_reducible assumption) | assumption)
                          obtain ⟨ad105, e105, hx105_0, hx105_1⟩ := at_T31 HR0.out (ji20) p105 q105
                          obtain rfl : ad101 = ad105 := (by injection e105)
                          replace hx105_0 := (HB.out.cell (World.block_lt_of_cell? w _ hx105_0)).trans hx105_0
                          replace hx105_1 := (HB.out.cell (World.block_lt_of_cell? w _ hx105_1)).trans hx105_1
                          replace p105 := eq_true p105
                          replace q105 := eq_true q105
                          go_wp2
                          repeat (go_quiet (fail); try go_wp2)
                          go_ret
                          exact ⟨by first | rfl | (simp [errW_none, errW_some] <;> rfl) | (simp only [← hji20]; first | rfl | (simp [errW_none, errW_some] <;> rfl)) | (simp [*, errW_none, errW_some] <;> rfl), by repeat (first | (with_reducible first | exact HB.out | apply below_alloc | apply pw_below_drewN | apply below_drew1 | refine below_set ?_ GE102.out) | exact HB.out)⟩
                        · rw [if_neg c23] at H
                          have c23b0 : decide (((rd_T31 l0 x8_1).f0) ≤ ((rd_T31 l0 (ji20)).f1)) = false := decide_eq_false c23
                          clear c23
                          by_cases c25 : ((rd_T31 l0 x8_1).f0) = (wrap32 (((rd_T31 l0 (ji20)).f1) + 1))
                          · rw [if_pos c25] at H
                            have c25b0 : (((rd_T31 l0 x8_1).f0) == (wrap32 (((rd_T31 l0 (ji20)).f1) + 1))) = true := beq_iff_eq.mpr c25
                            have c25b1 : (((rd_T31 l0 x8_1).f0) != (wrap32 (((rd_T31 l0 (ji20)).f1) + 1))) = false := bne_eq_false_iff_eq.mpr c25
                            clear c25
                            obtain rfl := Option.some.inj H
                            have hcz26_0 : wc.cell? ⟨gb102, 0, none⟩ = some (.int .i32 ((rd_T31 l0 x8_1).f0)) := (blk_cell BK102.out 0).trans rfl
                            have hcz26_1 : wc.cell? ⟨gb102, 1, none⟩ = some (.int .i32 ((rd_T31 l0 x8_1).f1)) := (blk_cell BK102.out 1).trans rfl
                            have hfz26_0 := blk_frozen BK102.out 0
                            have hfz26_1 := blk_frozen BK102.out 1
                            have p105 : 0 ≤ ((ji20) : Int) := of_decide_eq_true (by first | (with_reducible assumption) | assumption)
                            have q105 : (ji20) < (l0.length : Int) := of_decide_eq_true (by first | (with_reducible assumption) | assumption)
                            obtain ⟨ad105, e105, hx105_0, hx105_1⟩ := at_T31 HR0.out (ji20) p105 q105
                            obtain rfl : ad101 = ad105 := (by injection e105)
                            replace hx105_0 := (HB.out.cell (World.block_lt_of_cell? w _ hx105_0)).trans hx105_0
                            replace hx105_1 := (HB.out.cell (World.block_lt_of_cell? w _ hx105_1)).trans hx105_1
                            replace p105 := eq_true p105
                            replace q105 := eq_true q105
                            have p106 : 0 ≤ ((ji20) : Int) := of_decide_eq_true (by first | (with_reducible assumption) | assumption)
                            have q106 : (ji20) < (l0.length : Int) := of_decide_eq_true (by first | (with_reducible assumption) | assumption)
                            obtain ⟨ad106, e106, hx106_0, hx106_1⟩ := at_T31 HR0.out (ji20) p106 q106
                            obtain rfl : ad101 = ad106 := (by injection e106)
                            replace hx106_0 := (HB.out.cell (World.block_lt_of_cell? w _ hx106_0)).trans hx106_0
                            replace hx106_1 := (HB.out.cell (World.block_lt_of_cell? w _ hx106_1)).trans hx106_1
                            replace p106 := eq_true p106
                            replace q106 := eq_true q106
                            go_wp2
                            repeat (go_quiet (fail); try go_wp2)
                            go_ret
                            exact ⟨by first | rfl | (simp [errW_none, errW_some] <;> rfl) | (simp only [← hji20]; first | rfl | (simp [errW_none, errW_some] <;> rfl)) | (simp [*, errW_none, errW_some] <;> rfl), by repeat (first | (with_reducible first | exact HB.out | apply below_alloc | apply pw_below_drewN | apply below_drew1 | refine below_set ?_ GE102.out) | exact HB.out)⟩
                          · rw [if_neg c25] at H
                            have c25b0 : (((rd_T31 l0 x8_1).f0) == (wrap32 (((rd_T31 l0 (ji20)).f1) + 1))) = false := beq_eq_false_iff_ne.mpr c25
                            have c25b1 : (((rd_T31 l0 x8_1).f0) != (wrap32 (((rd_T31 l0 (ji20)).f1) + 1))) = true := bne_iff_ne.mpr c25
                            have H' := Aside0.mk H
                            clear H
                            have hcz27_0 : wc.cell? ⟨gb102, 0, none⟩ = some (.int .i32 ((rd_T31 l0 x8_1).f0)) := (blk_cell BK102.out 0).trans rfl
                            have hcz27_1 : wc.cell? ⟨gb102, 1, none⟩ = some (.int .i32 ((rd_T31 l0 x8_1).f1)) := (blk_cell BK102.out 1).trans rfl
                            have hfz27_0 := blk_frozen BK102.out 0
                            have hfz27_1 := blk_frozen BK102.out 1
                            have p105 : 0 ≤ ((ji20) : Int) := of_decide_eq_true (by first | (with_reducible assumption) | assumption)
                            have q105 : (ji20) < (l0.length : Int) := of_decide_eq_true (by first | (with_reducible assumption) | assumption)
                            obtain ⟨ad105, e105, hx105_0, hx105_1⟩ := at_T31 HR0.out (ji20) p105 q105
                            obtain rfl : ad101 = ad105 := (by injection e105)
                            replace hx105_0 := (HB.out.cell (World.block_lt_of_cell? w _ hx105_0)).trans hx105_0
                            replace hx105_1 := (HB.out.cell (World.block_lt_of_cell? w _ hx105_1)).trans hx105_1
                            replace p105 := eq_true p105
                            replace q105 := eq_true q105
                            have p106 : 0 ≤ ((ji20) : Int) := of_decide_eq_true (by first | (with_reducible assumption) | assumption)
                            have q106 : (ji20) < (l0.length : Int) := of_decide_eq_true (by first | (with_reducible assumption) | assumption)
                            obtain ⟨ad106, e106, hx106_0, hx106_1⟩ := at_T31 HR0.out (ji20) p106 q106
                            obtain rfl : ad101 = ad106 := (by injection e106)
                            replace hx106_0 := (HB.out.cell (World.block_lt_of_cell? w _ hx106_0)).trans hx106_0
                            replace hx106_1 := (HB.out.cell (World.block_lt_of_cell? w _ hx106_1)).trans hx106_1
                            replace p106 := eq_true p106
                            replace q106 := eq_true q106
                            go_wp2
                            repeat (go_quiet (fail); try go_wp2)
                            go_roundg kj5
                            case measure => have := HK1.out; have := HJ5.out; omega
                            case rel => exact ⟨(wrap64 (x8_1 + 1)), (by first | rfl | (simp; done) | (simp [*]; done)), H', ⟨by have := HK1.out; have := HJ5.out; omega⟩, ⟨by repeat (first | (with_reducible first | exact HB.out | apply below_alloc | apply pw_below_drewN | apply below_drew1 | refine below_set ?_ GE102.out) | exact HB.out)⟩⟩
                      · rw [if_neg c22] at H
                        exact absurd H (by simp)
                    · rw [if_neg c21] at H
                      exact absurd H (by simp)
                  · rw [if_neg c19] at H
                    have c19b0 : decide (0 < x8_1) = false := decide_eq_false c19
                    clear c19
                    have H' := Aside0.mk H
                    clear H
                    go_wp2
                    repeat (go_quiet (fail); try go_wp2)
                    go_roundg kj5
                    case measure => have := HK1.out; have := HJ5.out; omega
                    case rel => exact ⟨(wrap64 (x8_1 + 1)), (by first | rfl | (simp; done) | (simp [*]; done)), H', ⟨by have := HK1.out; have := HJ5.out; omega⟩, ⟨by repeat (first | (with_reducible first | exact HB.out | apply below_alloc | apply pw_below_drewN | apply below_drew1 | refine below_set ?_ GE102.out) | exact HB.out)⟩⟩
          · rw [if_neg c4] at H
            exact absurd H (by simp)
        · rw [if_neg c3] at H
          exact absurd H (by simp)
      · rw [if_neg c2] at H
        have c2b0 : decide (x8_1 < (l0.length : Int)) = false := decide_eq_false c2
        clear c2
        obtain rfl := Option.some.inj H
        go_wp2
        repeat (go_quiet (fail); try go_wp2)
        go_ret
        exact ⟨by first | rfl | (simp [errW_none, errW_some] <;> rfl) | (simp [*, errW_none, errW_some] <;> rfl), by repeat (first | (with_reducible first | exact HB.out | apply below_alloc | apply pw_below_drewN | apply below_drew1) | exact HB.out)⟩

/-! ### slices_Clone_Span: function 21 -/
def slices_Clone_Span.f (l0 : List S35) : Option (List S35) := if l0.length < 17592186044416 then some l0 else none
theorem empty_row_spn (w : World) : k35.R 35 (w.alloc (.cells #[] 35)) w.heap.size (fun _ => True) (.slice (some ⟨w.heap.size, 0, none⟩) 0 0) [] :=
  ⟨fun _ _ => trivial, [], by
    have h := World.ownsRow_lit (base := w.heap.size) (e := 35) (size := 2) w #[] 0 (Nat.le_refl _) (by decide) (by simp)
    have h2 : (w.alloc (.cells #[] 35)).ownsRow w.heap.size 35 2 (.slice (some ⟨w.heap.size, 0, none⟩) 0 0) 0 [] := by simpa using h
    exact h2, Reps.none _ _⟩
set_option maxHeartbeats 4000000 in
set_option maxRecDepth 100000 in
theorem slices_Clone_Span.calls (A0 : Option Addr) (c0 : Nat) (l0 : List S35) (r : List S35) (w : World) (hr0 : Kd.C k35 w A0 l0.length l0) (hc0 : l0.length ≤ c0) (h : slices_Clone_Span.f l0 = some r) :
    Calls Tryd.prog 21 #[.slice A0 l0.length c0] w fun e w' => ∃ v0_ : Value, e = .returned (v0_) ∧ Kd.R k35 35 w' w.heap.size (fun _ => True) v0_ r ∧ Below w.heap.size w w' := by
  unfold slices_Clone_Span.f at h
  split at h
  case isFalse => cases h
  case isTrue hn =>
  injection h with h
  subst h
  cases A0 with
  | none =>
    obtain rfl : l0 = [] := by
      rcases Nat.eq_zero_or_pos l0.length with h0 | h0
      · exact List.length_eq_zero_iff.1 h0
      · obtain ⟨ad, he, _⟩ := hr0.2.2 h0
        cases he
    have hq := fun (W : World) => Go.Lib.run_eql_slice_nil (P := Tryd.prog) W 33 35 none 0 c0 0 0 Tryd.underlying33
    clear hr0 hc0 hn
    go_enter Tryd.func21, Tryd.ntmps21
    go_wp2
    go_ret
    exact ⟨_, rfl, Kd.R_nil _ _ _ _ _, Below.refl _ _⟩
  | some ad =>
    have HO := Aside0.mk (empty_row_spn w)
    have HB := Aside0.mk (below_alloc (Below.refl w.heap.size w) (.cells #[] 35))
    have HC := Aside0.mk (Kd.C_below hr0 HB.out)
    have HN := Aside0.mk hn
    have hq := fun (W : World) => Go.Lib.run_eql_slice_nil (P := Tryd.prog) W 33 35 (some ad) l0.length c0 0 0 Tryd.underlying33
    clear hr0 hc0 hn
    go_enter Tryd.func21, Tryd.ntmps21
    go_wp2_with ((with_reducible refine gate_builtin (b := .append) (xs := #[.tmp 5, .tmp 6]) rfl ?_); at_builtin; refine Kd.R_append_rows k35 (w0 := w) w.heap.size rfl (.tmp 5) (.tmp 6) 33 35 (.agg #[.int .u8 0, .int .u8 0]) 2 rfl Tryd.underlying33 (by kernel_rfl) rfl (by decide) (by decide) _ [] l0 (some ad) l0.length c0 (fun _ => True) (fun _ => False) rfl rfl HO.out HC.out (fun x cs h => by obtain rfl := k35_open h; exact k35_mkM _ _ _ x) (fun _ h => h.elim) (fun _ _ => trivial) HB.out HB.out.size (by have := HN.out; simp; omega) ?_; intro v5 w5 ho hb hg hat; have HR5 := Aside0.mk ho; have HB5 := Aside0.mk hb; clear ho hb hg hat)
    go_ret
    exact ⟨_, rfl, HR5.out, HB5.out⟩

/-! ### seqs_span: function 22 -/
def seqs_span.f (a0 : Int) (a1 : Int) (a2 : Int) : Option (Int × Int) := some ((wrap32 (a0 + a1)) % 256, (wrap32 (a0 + a2)) % 256)
set_option maxHeartbeats 8000000 in
set_option maxRecDepth 100000 in
theorem seqs_span.calls (a0 : Int) (a1 : Int) (a2 : Int) (r1 : Int) (r2 : Int) (w : World) (h : seqs_span.f a0 a1 a2 = some (r1, r2)) :
    Calls Tryd.prog 22 #[.int .i32 a0, .int .i32 a1, .int .i32 a2] w fun e w' => e = .returned (.agg #[.int .u8 r1, .int .u8 r2]) ∧ Below w.heap.size w w' := by
  have hu35 := Tryd.underlying35
  have HB := Aside0.mk (Below.refl w.heap.size w)
  have H : (some ((wrap32 (a0 + a1)) % 256, (wrap32 (a0 + a2)) % 256)) = some (r1, r2) := h
  clear h
  simp only [Option.some.injEq, Prod.mk.injEq] at H
  obtain ⟨rfl, rfl⟩ := H
  go_enter Tryd.func22, Tryd.ntmps22
  go_wp2_with (first | ((with_reducible refine gate_dst (N := 6) rfl ?_); refine box_event ?hg (N := 6) ?hd (cs := #[.int .u8 0, .int .u8 0]) (t := 35) ?hr ?_; (case hd => rfl); (case hg => rfl); (case hr => first | (go_simp; done) | (go_simp; rfl)); intro gb107 hg w4 hbox hb; have n0_ := Aside0.mk (below_step (by repeat (first | (with_reducible first | exact HB.out | apply below_alloc | apply pw_below_drewN | apply below_drew1) | exact HB.out)) hb); have n1_ := Aside0.mk (hbox); have n2_ := Aside0.mk ((by rw [hg]; exact (below_size (by repeat (first | (with_reducible first | exact HB.out | apply below_alloc | apply pw_below_drewN | apply below_drew1) | exact HB.out))) : w.heap.size ≤ gb107)); have n3_ := Aside0.mk ((by rw [hg]; exact (below_size (by repeat (first | (with_reducible first | exact HB.out | apply below_alloc | apply pw_below_drewN | apply below_drew1) | exact HB.out))) : w.heap.size ≤ gb107)); clear HB; have HB := n0_; have BK107 := n1_; have GW107 := n2_; have GE107 := n3_; clear n0_ n1_ n2_ n3_; clear hb hbox hg; have hcz5_0 : w4.cell? ⟨gb107, 0, none⟩ = some (.int .u8 0) := (blk_cell BK107.out 0).trans rfl; have hcz5_1 : w4.cell? ⟨gb107, 1, none⟩ = some (.int .u8 0) := (blk_cell BK107.out 1).trans rfl; have hfz5_0 := blk_frozen BK107.out 0; have hfz5_1 := blk_frozen BK107.out 1))
  refine bodyPost_ret (results_cell_row rfl _ _ gb107 35 #[.int .u8 ((wrap32 (a0 + a1)) % 256), .int .u8 ((wrap32 (a0 + a2)) % 256)] (0, 0) _ rfl (by (with_reducible repeat (first | refine blk_drewN ?_ _ | refine blk_drew ?_ | refine blk_alloc ?_ _)); refine blk_put (cs := #[.int .u8 ((wrap32 (a0 + a1)) % 256), .int .u8 0]) ?_ 1 _ rfl; (with_reducible repeat (first | refine blk_drewN ?_ _ | refine blk_drew ?_ | refine blk_alloc ?_ _)); refine blk_put (cs := #[.int .u8 0, .int .u8 0]) ?_ 0 _ rfl; (with_reducible repeat (first | refine blk_drewN ?_ _ | refine blk_drew ?_ | refine blk_alloc ?_ _)); exact BK107.out) Tryd.underlying35 rfl (by kernel_rfl)) rfl ?_
  exact ⟨by first | rfl | (simp [errW_none, errW_some] <;> rfl) | (simp [*, errW_none, errW_some] <;> rfl), by repeat (first | (with_reducible first | exact HB.out | apply below_alloc | apply pw_below_drewN | apply below_drew1 | refine below_set ?_ GE107.out) | exact HB.out)⟩

-- NOT PRINTED: function 14 (seqs_cutter_cut)

end Go.Proofs.YtmokclfiifmhpaaDoor.XS
