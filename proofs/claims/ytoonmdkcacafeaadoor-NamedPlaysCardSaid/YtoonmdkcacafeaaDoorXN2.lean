/- WRITTEN BY A PROGRAM OF THIS SESSION (wip/tools/xprint.py, over the kit's printer): contracts of the functions that the seat's laws reach. -/
import Derived.Test.YtoonmdkcacafeaaDoorXN0
import Derived.Test.YtoonmdkcacafeaaDoorXN1
namespace Go.Proofs.YtoonmdkcacafeaaDoor.XN
open Go.RowKit Go.Proofs.YtoonmdkcacafeaaDoorW.PrintWords Go.Proofs.YtoonmdkcacafeaaDoorW.PrintLast Go.Proofs.YtoonmdkcacafeaaDoorW.PrintMore
attribute [local go_sem] max2_int min2_int max_two min_two max_three min_three max_four min_four   -- for this text's walks alone
set_option linter.unusedVariables false
set_option linter.unusedSimpArgs false

/-! ### sets_band: function 69 -/
def bandsL : List S31 := [⟨0, 55295⟩, ⟨57344, 1114111⟩, ⟨1114240, 1114367⟩]
theorem bands_reads {w : World} (hG : GOK w) : Kd.C k31 w (some ⟨4, 0, none⟩) 3 bandsL := by
  refine ⟨rfl, by omega, fun _ => ⟨_, rfl, ?_⟩⟩
  intro j p hj
  refine ⟨_, ?_, k31_mk w p, ?_⟩
  · rfl
  intro i u hu
  rcases j with _ | _ | _ | j
  · obtain rfl : p = ⟨0, 55295⟩ := by simpa [bandsL] using hj.symm
    rcases i with _ | _ | i
    · obtain rfl := Option.some.inj hu
      exact hG.sets_bands 0 _ rfl
    · obtain rfl := Option.some.inj hu
      exact hG.sets_bands 1 _ rfl
    · exact absurd hu (by simp)
  · obtain rfl : p = ⟨57344, 1114111⟩ := by simpa [bandsL] using hj.symm
    rcases i with _ | _ | i
    · obtain rfl := Option.some.inj hu
      exact hG.sets_bands 2 _ rfl
    · obtain rfl := Option.some.inj hu
      exact hG.sets_bands 3 _ rfl
    · exact absurd hu (by simp)
  · obtain rfl : p = ⟨1114240, 1114367⟩ := by simpa [bandsL] using hj.symm
    rcases i with _ | _ | i
    · obtain rfl := Option.some.inj hu
      exact hG.sets_bands 4 _ rfl
    · obtain rfl := Option.some.inj hu
      exact hG.sets_bands 5 _ rfl
    · exact absurd hu (by simp)
  · exact absurd hj (by simp [bandsL])
set_option maxHeartbeats 800000 in
theorem band_lit (x y u : Int) (g : Nat) (W : World) (hcap : W.cell? ⟨g, 0, none⟩ = some (.int .i32 u)) (hg : g < W.heap.size) :
    Calls Tryd.prog 89 #[.agg #[.int .i32 x, .int .i32 y], .pointer (some ⟨g, 0, none⟩)] W fun e w' => e = .returned (.bool (decide (x ≤ u) && decide (u ≤ y))) ∧ Below W.heap.size W w' := by
  have hu31 := Tryd.underlying31
  by_cases h1 : x ≤ u
  · have d1 : decide (x ≤ u) = true := decide_eq_true h1
    rw [d1]; simp only [Bool.true_and]
    go_enter Tryd.func89, Tryd.ntmps89
    go_wp2
    go_ret
    exact ⟨rfl, by repeat (first | exact Below.refl _ _ | apply below_alloc | apply pw_below_drewN | apply below_drew1)⟩
  · have d1 : decide (x ≤ u) = false := decide_eq_false h1
    rw [d1]; simp only [Bool.false_and]
    go_enter Tryd.func89, Tryd.ntmps89
    go_wp2
    go_ret
    exact ⟨rfl, by repeat (first | exact Below.refl _ _ | apply below_alloc | apply pw_below_drewN | apply below_drew1)⟩
def bandIdx (u : Int) : List S31 → Int → Int
  | [], _ => -1
  | x :: xs, i => if x.f0 ≤ u ∧ u ≤ x.f1 then i else bandIdx u xs (i + 1)
set_option maxHeartbeats 800000 in
set_option maxRecDepth 100000 in
theorem band_idx (u : Int) (g : Nat) (A : Option Addr) (c : Nat) (l : List S31) (w : World) (hr : Kd.C k31 w A l.length l) (hc : l.length ≤ c) (hcap : w.cell? ⟨g, 0, none⟩ = some (.int .i32 u)) (hg : g < w.heap.size) :
    Calls Tryd.prog 88 #[.slice A l.length c, .func (.func 89) #[] #[.pointer (some ⟨g, 0, none⟩)]] w fun e w' => e = .returned (.int .i64 (bandIdx u l 0)) ∧ Below w.heap.size w w' := by
  have hu31 := Tryd.underlying31
  have hm : l.length ≤ 9223372036854775807 := hr.2.1
  have HR := Aside0.mk hr
  clear hr
  have HG := Aside0.mk hcap
  clear hcap
  go_enter Tryd.func88, Tryd.ntmps88
  go_wp2
  go_loopw [8] (fun v wr => ∃ k : Nat, k ≤ l.length ∧ v = .int .i64 k ∧ Aside0 (bandIdx u (l.drop k) k = bandIdx u l 0) ∧ Aside0 (Below w.heap.size w wr)) (fun v _ => l.length - (intOf v).toNat)
  case atStart => exact ⟨0, Nat.zero_le _, rfl, ⟨rfl⟩, ⟨Below.refl _ _⟩⟩
  case round =>
    obtain ⟨k, hk, rfl, HI, HB⟩ := hrel
    by_cases hlt : k < l.length
    · have hc1 := at_T31 (Kd.C_below HR.out HB.out) k (by omega) (by omega)
      obtain ⟨ad, rfl, h0, h1⟩ := hc1
      have hI := HI.out
      rw [List.drop_eq_getElem_cons hlt, bandIdx] at hI
      have hx : rd_T31 l (k : Int) = l[k] := by simp [rd_T31, hlt]
      simp only [Int.toNat_natCast] at h0 h1
      have hcw : wr.cell? ⟨g, 0, none⟩ = some (.int .i32 u) := (HB.out.cell (p := ⟨g, 0, none⟩) hg).trans HG.out
      have hgw : g < wr.heap.size := Nat.lt_of_lt_of_le hg HB.out.size
      have HC := Aside0.mk (band_lit (rd_T31 l (k : Int)).f0 (rd_T31 l (k : Int)).f1 u g wr hcw hgw)
      clear hcw
      by_cases hp : l[k].f0 ≤ u ∧ u ≤ l[k].f1
      · rw [if_pos hp] at hI
        have HI2 := Aside0.mk hI
        have hd : (decide ((rd_T31 l (k : Int)).f0 ≤ u) && decide (u ≤ (rd_T31 l (k : Int)).f1)) = true := by rw [hx]; simp [hp]
        rw [hd] at HC
        clear hI HI hd hx hp
        go_wp2_with (refine HC.out.mono ?_; rintro e w' ⟨rfl, hb⟩; have HB2 := Aside0.mk (below_step HB.out hb); clear hb)
        go_ret
        exact ⟨by rw [← HI2.out]; rfl, HB2.out⟩
      · rw [if_neg hp] at hI
        have HI2 := Aside0.mk hI
        have hd : (decide ((rd_T31 l (k : Int)).f0 ≤ u) && decide (u ≤ (rd_T31 l (k : Int)).f1)) = false := by rw [hx]; simp; omega
        rw [hd] at HC
        clear hI HI hd hx hp
        go_wp2_with (refine HC.out.mono ?_; rintro e w' ⟨rfl, hb⟩; have HB2 := Aside0.mk (below_step HB.out hb); clear hb)
        go_roundw
        case rel => exact ⟨k + 1, by omega, by go_num, ⟨by have := HI2.out; simpa using this⟩, HB2⟩
        case measure => simp [intOf]; omega
    · have hkl : k = l.length := by omega
      have hI := HI.out
      rw [List.drop_eq_nil_of_le (by omega), bandIdx] at hI
      have HI2 := Aside0.mk hI
      clear hI HI hkl
      go_wp2
      go_ret
      exact ⟨by rw [← HI2.out]; rfl, HB.out⟩
/-- the number of the band that u lies in; -1: none -/
def sets_band.f (a0 : Int) : Option Int := some (bandIdx a0 bandsL 0)
set_option maxHeartbeats 800000 in
set_option maxRecDepth 100000 in
theorem sets_band.calls (a0 : Int) (r : Int) (w : World) (h : sets_band.f a0 = some r) (hG : GOK w := by first | (with_reducible exact HG_.out) | exact GOK.below HG_.out (by repeat (first | (with_reducible exact Below.refl _ _) | (with_reducible first | exact HB.out | apply below_alloc | apply pw_below_drewN | apply below_drew1 | refine below_set ?_ (Aside0.out (by assumption))) | exact HB.out)) | exact GOK.drewN HG_.out _ | exact GOK.drewN (GOK.drewN HG_.out _) _ | exact GOK.drew HG_.out) :
    Calls Tryd.prog 69 #[.int .i32 a0] w fun e w' => e = .returned (.int .i64 r) ∧ Below w.heap.size w w' := by
  have hu31 := Tryd.underlying31
  obtain rfl := Option.some.inj h
  have hA : Below w.heap.size w (w.alloc (.cells #[.int .i32 a0] 21)) := below_alloc (Below.refl _ _) _
  have HA := Aside0.mk hA
  have HC := Aside0.mk (band_idx a0 w.heap.size (some ⟨4, 0, none⟩) 3 bandsL (w.alloc (.cells #[.int .i32 a0] 21)) (bands_reads (hG.below hA)) (Nat.le_refl _) ((blk_cell (heap_alloc_new _ _) 0).trans rfl) (by simp))
  clear hA h
  have HGG := Aside0.mk hG
  clear hG
  go_enter Tryd.func69, Tryd.ntmps69
  go_wp2_with (refine HC.out.mono ?_; rintro e w' ⟨rfl, hb⟩; have HB := Aside0.mk (below_step HA.out hb); clear hb)
  go_ret
  exact ⟨rfl, HB.out⟩

/-! ### sets_Check: function 41 -/
mutual
def sets_Check.l0 : Nat → List (S31) → List (S31) → Int → Int → Option (Int)
  | 0, _, _, _, _ => none
  | k + 1, x0, x6, x7, x8 => if x8 < x7 then (if 0 ≤ x8 then (if x8 < (x6.length : Int) then ((sets_band.f ((rd_T31 x6 x8).f0)).bind fun t116 => (if t116 < 0 then (sets_Check.j1 k x0 x8 x6 x7 x8 true ((rd_T31 x6 x8).f0) ((rd_T31 x6 x8).f1)) else ((sets_band.f ((rd_T31 x6 x8).f1)).bind fun t117 => (if t116 = t117 then (sets_Check.j1 k x0 x8 x6 x7 x8 (decide (((rd_T31 x6 x8).f0) > ((rd_T31 x6 x8).f1))) ((rd_T31 x6 x8).f0) ((rd_T31 x6 x8).f1)) else (sets_Check.j1 k x0 x8 x6 x7 x8 true ((rd_T31 x6 x8).f0) ((rd_T31 x6 x8).f1)))))) else (none)) else (none)) else (some 0)
def sets_Check.j1 : Nat → List (S31) → Int → List (S31) → Int → Int → Bool → Int → Int → Option (Int)
  | 0, _, _, _, _, _, _, _, _ => none
  | k + 1, x0, x3, x6, x7, x8, x31, x116000, x116001 => if x31 = true then (some 1) else (if x3 > 0 then (if 0 ≤ (wrap64 (x3 - 1)) then (if (wrap64 (x3 - 1)) < (x0.length : Int) then (if x116000 ≤ ((rd_T31 x0 (wrap64 (x3 - 1))).f1) then (some 1) else (if x116000 = (wrap32 (((rd_T31 x0 (wrap64 (x3 - 1))).f1) + 1)) then (some 1) else (sets_Check.l0 k x0 x6 x7 (wrap64 (x8 + 1))))) else (none)) else (none)) else (sets_Check.l0 k x0 x6 x7 (wrap64 (x8 + 1))))
end
def sets_Check.f (k : Nat) (l0 : List (S31)) : Option (Int) := sets_Check.l0 k l0 l0 (l0.length : Int) 0
theorem sets_Check.mono_l : ∀ k, (∀ y0 y1 y2 y3, LeO (sets_Check.l0 k y0 y1 y2 y3) (sets_Check.l0 (k + 1) y0 y1 y2 y3)) ∧ (∀ y0 y1 y2 y3 y4 y5 y6 y7, LeO (sets_Check.j1 k y0 y1 y2 y3 y4 y5 y6 y7) (sets_Check.j1 (k + 1) y0 y1 y2 y3 y4 y5 y6 y7))
  | 0 => ⟨fun _ _ _ _ r h => by simp [sets_Check.l0] at h, fun _ _ _ _ _ _ _ _ r h => by simp [sets_Check.j1] at h⟩
  | k + 1 => by
    obtain ⟨ih0, ih1⟩ := sets_Check.mono_l k
    refine ⟨?_, ?_⟩
    · intro y0 y1 y2 y3
      unfold sets_Check.l0
      repeat' first
      | (with_reducible exact ih0 _ _ _ _)
      | (with_reducible exact ih1 _ _ _ _ _ _ _ _)
      | (with_reducible exact LeO.refl _)
      | (with_reducible exact LeO.none _)
      | (with_reducible refine LeO.ite ?_ ?_)
      | (with_reducible refine LeO.bind ?_ (fun _ => ?_))
      | exact ih0 _ _ _ _
      | exact ih1 _ _ _ _ _ _ _ _
      | exact LeO.none _
      | refine LeO.ite ?_ ?_
      | refine LeO.bind ?_ (fun _ => ?_)
    · intro y0 y1 y2 y3 y4 y5 y6 y7
      unfold sets_Check.j1
      repeat' first
      | (with_reducible exact ih0 _ _ _ _)
      | (with_reducible exact ih1 _ _ _ _ _ _ _ _)
      | (with_reducible exact LeO.refl _)
      | (with_reducible exact LeO.none _)
      | (with_reducible refine LeO.ite ?_ ?_)
      | (with_reducible refine LeO.bind ?_ (fun _ => ?_))
      | exact ih0 _ _ _ _
      | exact ih1 _ _ _ _ _ _ _ _
      | exact LeO.none _
      | refine LeO.ite ?_ ?_
      | refine LeO.bind ?_ (fun _ => ?_)
theorem sets_Check.mono : ∀ a0 k, LeO (sets_Check.f k a0) (sets_Check.f (k + 1) a0) := by
  intro a0 k
  obtain ⟨ih0, ih1⟩ := sets_Check.mono_l k
  unfold sets_Check.f
  repeat' first
      | (with_reducible exact ih0 _ _ _ _)
      | (with_reducible exact ih1 _ _ _ _ _ _ _ _)
      | (with_reducible exact LeO.refl _)
      | (with_reducible exact LeO.none _)
      | (with_reducible refine LeO.ite ?_ ?_)
      | (with_reducible refine LeO.bind ?_ (fun _ => ?_))
      | exact ih0 _ _ _ _
      | exact ih1 _ _ _ _ _ _ _ _
      | exact LeO.none _
      | refine LeO.ite ?_ ?_
      | refine LeO.bind ?_ (fun _ => ?_)
set_option maxHeartbeats 8000000 in
set_option maxRecDepth 100000 in
theorem sets_Check.calls (k : Nat) (A0 : Option Addr) (c0 : Nat) (l0 : List (S31)) (r : Int) (w : World) (hr0 : Kd.C k31 w A0 l0.length l0) (hc0 : l0.length ≤ c0) (h : sets_Check.f k l0 = some r) (hG : GOK w := by first | (with_reducible exact HG_.out) | exact GOK.below HG_.out (by repeat (first | (with_reducible exact Below.refl _ _) | (with_reducible first | exact HB.out | apply below_alloc | apply pw_below_drewN | apply below_drew1 | refine below_set ?_ (Aside0.out (by assumption))) | exact HB.out)) | exact GOK.drewN HG_.out _ | exact GOK.drewN (GOK.drewN HG_.out _) _ | exact GOK.drew HG_.out) :
    Calls Tryd.prog 41 #[.slice A0 l0.length c0] w fun e w' => e = .returned (.int .i64 r) ∧ Below w.heap.size w w' := by
  have HG_ := Aside0.mk hG
  clear hG
  have hu31 := Tryd.underlying31
  have HR0 := Aside0.mk hr0
  have HC0 := Aside0.mk hc0
  clear hr0 hc0
  have HB := Aside0.mk (Below.refl w.heap.size w)
  have H : (sets_Check.l0 k l0 l0 (l0.length : Int) 0) = some r := h
  clear h
  have H' := Aside0.mk H
  clear H
  go_enter Tryd.func41, Tryd.ntmps41
  go_wp2
  repeat (go_quiet (fail); try go_wp2)
  go_loopg [8] k (fun kq v8 w' => ∃ (x8_1 : Int), v8 = .int .i64 x8_1 ∧ Aside0 (sets_Check.l0 kq l0 l0 (l0.length : Int) x8_1 = some r) ∧ Aside0 (kq ≤ k) ∧ Aside0 (Below w.heap.size w w'))
  case atStart => exact ⟨(0), (by first | rfl | (simp; done) | (simp [*]; done)), H', ⟨Nat.le_refl _⟩, ⟨by repeat (first | (with_reducible first | exact HB.out | apply below_alloc | apply pw_below_drewN | apply below_drew1) | exact HB.out)⟩⟩
  case round =>
    clear H'
    obtain ⟨x8_1, rfl, HA, HK1, HB⟩ := hrel
    cases gk with
    | zero => exact absurd HA.out (by simp [sets_Check.l0])
    | succ k1 =>
      have H := HA.out
      clear HA
      simp only [sets_Check.l0] at H
      by_cases c2 : x8_1 < (l0.length : Int)
      · rw [if_pos c2] at H
        have c2b0 : decide (x8_1 < (l0.length : Int)) = true := decide_eq_true c2
        clear c2
        by_cases c3 : 0 ≤ x8_1
        · rw [if_pos c3] at H
          have c3b0 : decide (0 ≤ x8_1) = true := decide_eq_true c3
          clear c3
          by_cases c4 : x8_1 < (l0.length : Int)
          · rw [if_pos c4] at H
            have c4b0 : decide (x8_1 < (l0.length : Int)) = true := decide_eq_true c4
            clear c4
            replace H := Option.bind_eq_some_iff.mp H
            obtain ⟨t116, A50, H⟩ := H
            replace H : (if t116 < 0 then (sets_Check.j1 k1 l0 x8_1 l0 (l0.length : Int) x8_1 true ((rd_T31 l0 x8_1).f0) ((rd_T31 l0 x8_1).f1)) else ((sets_band.f ((rd_T31 l0 x8_1).f1)).bind fun t117 => (if t116 = t117 then (sets_Check.j1 k1 l0 x8_1 l0 (l0.length : Int) x8_1 (decide (((rd_T31 l0 x8_1).f0) > ((rd_T31 l0 x8_1).f1))) ((rd_T31 l0 x8_1).f0) ((rd_T31 l0 x8_1).f1)) else (sets_Check.j1 k1 l0 x8_1 l0 (l0.length : Int) x8_1 true ((rd_T31 l0 x8_1).f0) ((rd_T31 l0 x8_1).f1))))) = some r := H
            have A5 := Aside0.mk A50
            clear A50
            have HC6 := Aside0.mk H
            clear H
            have p114 : 0 ≤ (x8_1 : Int) := of_decide_eq_true (by first | (with_reducible assumption) | assumption)
            have q114 : x8_1 < (l0.length : Int) := of_decide_eq_true (by first | (with_reducible assumption) | assumption)
            obtain ⟨ad114, e114, hx114_0, hx114_1⟩ := at_T31 HR0.out x8_1 p114 q114
            cases e114
            replace hx114_0 := (HB.out.cell (World.block_lt_of_cell? w _ hx114_0)).trans hx114_0
            replace hx114_1 := (HB.out.cell (World.block_lt_of_cell? w _ hx114_1)).trans hx114_1
            replace p114 := eq_true p114
            replace q114 := eq_true q114
            go_upto_region 5 with (first | ((with_reducible refine gate_dst (N := 4) rfl ?_); refine box_event ?hg (N := 4) ?hd (cs := #[.int .i32 0, .int .i32 0]) (t := 31) ?hr ?_; (case hd => rfl); (case hg => rfl); (case hr => first | (go_simp; done) | (go_simp; rfl)); intro gb115 hg w7 hbox hb; have n0_ := Aside0.mk (below_step (by repeat (first | (with_reducible first | exact HB.out | apply below_alloc | apply pw_below_drewN | apply below_drew1) | exact HB.out)) hb); have n1_ := Aside0.mk (hbox); have n2_ := Aside0.mk ((by rw [hg]; exact (below_size (by repeat (first | (with_reducible first | exact HB.out | apply below_alloc | apply pw_below_drewN | apply below_drew1) | exact HB.out))) : w.heap.size ≤ gb115)); have n3_ := Aside0.mk ((by rw [hg]; exact (below_size (by repeat (first | (with_reducible first | exact HB.out | apply below_alloc | apply pw_below_drewN | apply below_drew1) | exact HB.out))) : w.heap.size ≤ gb115)); clear HB; have HB := n0_; have BK115 := n1_; have GW115 := n2_; have GE115 := n3_; clear n0_ n1_ n2_ n3_; clear hb hbox hg; have hcz8_0 : w7.cell? ⟨gb115, 0, none⟩ = some (.int .i32 0) := (blk_cell BK115.out 0).trans rfl; have hcz8_1 : w7.cell? ⟨gb115, 1, none⟩ = some (.int .i32 0) := (blk_cell BK115.out 1).trans rfl; have hfz8_0 := blk_frozen BK115.out 0; have hfz8_1 := blk_frozen BK115.out 1) | (go_at_call 69; (with_reducible refine (sets_band.calls ((rd_T31 l0 x8_1).f0) t116 _ A5.out).mono ?_); rintro e w9 ⟨rfl, hb⟩; have n0_ := Aside0.mk (blk_below (g := gb115) (o := .cells #[.int .i32 ((rd_T31 l0 x8_1).f0), .int .i32 ((rd_T31 l0 x8_1).f1)] 31 (0, 0)) (by (with_reducible repeat (first | refine blk_drewN ?_ _ | refine blk_drew ?_ | refine blk_alloc ?_ _)); refine blk_put (cs := #[.int .i32 ((rd_T31 l0 x8_1).f0), .int .i32 0]) ?_ 1 _ rfl; (with_reducible repeat (first | refine blk_drewN ?_ _ | refine blk_drew ?_ | refine blk_alloc ?_ _)); refine blk_put (cs := #[.int .i32 0, .int .i32 0]) ?_ 0 _ rfl; (with_reducible repeat (first | refine blk_drewN ?_ _ | refine blk_drew ?_ | refine blk_alloc ?_ _)); exact BK115.out) hb); have n1_ := Aside0.mk (below_step (by repeat (first | (with_reducible first | exact HB.out | apply below_alloc | apply pw_below_drewN | apply below_drew1 | refine below_set ?_ GE115.out) | exact HB.out)) hb); clear BK115; clear HB; have BK115 := n0_; have HB := n1_; clear n0_ n1_; (try clear hb); (try clear hb2); (try clear hk); (try clear hi)))
            repeat (go_quiet (first | ((with_reducible refine gate_dst (N := 4) rfl ?_); refine box_event ?hg (N := 4) ?hd (cs := #[.int .i32 0, .int .i32 0]) (t := 31) ?hr ?_; (case hd => rfl); (case hg => rfl); (case hr => first | (go_simp; done) | (go_simp; rfl)); intro gb115 hg w7 hbox hb; have n0_ := Aside0.mk (below_step (by repeat (first | (with_reducible first | exact HB.out | apply below_alloc | apply pw_below_drewN | apply below_drew1) | exact HB.out)) hb); have n1_ := Aside0.mk (hbox); have n2_ := Aside0.mk ((by rw [hg]; exact (below_size (by repeat (first | (with_reducible first | exact HB.out | apply below_alloc | apply pw_below_drewN | apply below_drew1) | exact HB.out))) : w.heap.size ≤ gb115)); have n3_ := Aside0.mk ((by rw [hg]; exact (below_size (by repeat (first | (with_reducible first | exact HB.out | apply below_alloc | apply pw_below_drewN | apply below_drew1) | exact HB.out))) : w.heap.size ≤ gb115)); clear HB; have HB := n0_; have BK115 := n1_; have GW115 := n2_; have GE115 := n3_; clear n0_ n1_ n2_ n3_; clear hb hbox hg; have hcz8_0 : w7.cell? ⟨gb115, 0, none⟩ = some (.int .i32 0) := (blk_cell BK115.out 0).trans rfl; have hcz8_1 : w7.cell? ⟨gb115, 1, none⟩ = some (.int .i32 0) := (blk_cell BK115.out 1).trans rfl; have hfz8_0 := blk_frozen BK115.out 0; have hfz8_1 := blk_frozen BK115.out 1) | (go_at_call 69; (with_reducible refine (sets_band.calls ((rd_T31 l0 x8_1).f0) t116 _ A5.out).mono ?_); rintro e w9 ⟨rfl, hb⟩; have n0_ := Aside0.mk (blk_below (g := gb115) (o := .cells #[.int .i32 ((rd_T31 l0 x8_1).f0), .int .i32 ((rd_T31 l0 x8_1).f1)] 31 (0, 0)) (by (with_reducible repeat (first | refine blk_drewN ?_ _ | refine blk_drew ?_ | refine blk_alloc ?_ _)); refine blk_put (cs := #[.int .i32 ((rd_T31 l0 x8_1).f0), .int .i32 0]) ?_ 1 _ rfl; (with_reducible repeat (first | refine blk_drewN ?_ _ | refine blk_drew ?_ | refine blk_alloc ?_ _)); refine blk_put (cs := #[.int .i32 0, .int .i32 0]) ?_ 0 _ rfl; (with_reducible repeat (first | refine blk_drewN ?_ _ | refine blk_drew ?_ | refine blk_alloc ?_ _)); exact BK115.out) hb); have n1_ := Aside0.mk (below_step (by repeat (first | (with_reducible first | exact HB.out | apply below_alloc | apply pw_below_drewN | apply below_drew1 | refine below_set ?_ GE115.out) | exact HB.out)) hb); clear BK115; clear HB; have BK115 := n0_; have HB := n1_; clear n0_ n1_; (try clear hb); (try clear hb2); (try clear hk); (try clear hi))); go_upto_region 5 with (first | ((with_reducible refine gate_dst (N := 4) rfl ?_); refine box_event ?hg (N := 4) ?hd (cs := #[.int .i32 0, .int .i32 0]) (t := 31) ?hr ?_; (case hd => rfl); (case hg => rfl); (case hr => first | (go_simp; done) | (go_simp; rfl)); intro gb115 hg w7 hbox hb; have n0_ := Aside0.mk (below_step (by repeat (first | (with_reducible first | exact HB.out | apply below_alloc | apply pw_below_drewN | apply below_drew1) | exact HB.out)) hb); have n1_ := Aside0.mk (hbox); have n2_ := Aside0.mk ((by rw [hg]; exact (below_size (by repeat (first | (with_reducible first | exact HB.out | apply below_alloc | apply pw_below_drewN | apply below_drew1) | exact HB.out))) : w.heap.size ≤ gb115)); have n3_ := Aside0.mk ((by rw [hg]; exact (below_size (by repeat (first | (with_reducible first | exact HB.out | apply below_alloc | apply pw_below_drewN | apply below_drew1) | exact HB.out))) : w.heap.size ≤ gb115)); clear HB; have HB := n0_; have BK115 := n1_; have GW115 := n2_; have GE115 := n3_; clear n0_ n1_ n2_ n3_; clear hb hbox hg; have hcz8_0 : w7.cell? ⟨gb115, 0, none⟩ = some (.int .i32 0) := (blk_cell BK115.out 0).trans rfl; have hcz8_1 : w7.cell? ⟨gb115, 1, none⟩ = some (.int .i32 0) := (blk_cell BK115.out 1).trans rfl; have hfz8_0 := blk_frozen BK115.out 0; have hfz8_1 := blk_frozen BK115.out 1) | (go_at_call 69; (with_reducible refine (sets_band.calls ((rd_T31 l0 x8_1).f0) t116 _ A5.out).mono ?_); rintro e w9 ⟨rfl, hb⟩; have n0_ := Aside0.mk (blk_below (g := gb115) (o := .cells #[.int .i32 ((rd_T31 l0 x8_1).f0), .int .i32 ((rd_T31 l0 x8_1).f1)] 31 (0, 0)) (by (with_reducible repeat (first | refine blk_drewN ?_ _ | refine blk_drew ?_ | refine blk_alloc ?_ _)); refine blk_put (cs := #[.int .i32 ((rd_T31 l0 x8_1).f0), .int .i32 0]) ?_ 1 _ rfl; (with_reducible repeat (first | refine blk_drewN ?_ _ | refine blk_drew ?_ | refine blk_alloc ?_ _)); refine blk_put (cs := #[.int .i32 0, .int .i32 0]) ?_ 0 _ rfl; (with_reducible repeat (first | refine blk_drewN ?_ _ | refine blk_drew ?_ | refine blk_alloc ?_ _)); exact BK115.out) hb); have n1_ := Aside0.mk (below_step (by repeat (first | (with_reducible first | exact HB.out | apply below_alloc | apply pw_below_drewN | apply below_drew1 | refine below_set ?_ GE115.out) | exact HB.out)) hb); clear BK115; clear HB; have BK115 := n0_; have HB := n1_; clear n0_ n1_; (try clear hb); (try clear hb2); (try clear hk); (try clear hi))))
            (try simp only [Act.put, List.setIfInBounds_toArray, List.set_cons_zero, List.set_cons_succ])
            go_cut [31] (fun v31 wc => ∃ (kq : Nat) (x31_5 : Bool), v31 = .bool x31_5 ∧ Aside0 (sets_Check.j1 kq l0 x8_1 l0 (l0.length : Int) x8_1 x31_5 ((rd_T31 l0 x8_1).f0) ((rd_T31 l0 x8_1).f1) = some r) ∧ Aside0 (kq ≤ k1) ∧ Aside0 (wc.heap[gb115]? = some (.cells #[.int .i32 ((rd_T31 l0 x8_1).f0), .int .i32 ((rd_T31 l0 x8_1).f1)] 31 (0, 0))) ∧ Aside0 (Below w.heap.size w wc))
            case first =>
              have H := HC6.out
              clear HC6
              by_cases c10 : t116 < 0
              · rw [if_pos c10] at H
                have c10b0 : decide (t116 < 0) = true := decide_eq_true c10
                clear c10
                (first | rw [c10b0] | (simp only [i64_w, i32_w]; rw [c10b0]) | skip)
                have H' := Aside0.mk H
                clear H
                go_wp2
                repeat (go_quiet (fail); try go_wp2)
                go_meet
                case rel => exact ⟨_, (true), (by first | rfl | (simp; done) | (simp [*]; done)), H', ⟨by have := HK1.out; first | omega | exact Nat.le_refl _⟩, ⟨by (with_reducible repeat (first | refine blk_drewN ?_ _ | refine blk_drew ?_ | refine blk_alloc ?_ _)); exact BK115.out⟩, ⟨by repeat (first | (with_reducible first | exact HB.out | apply below_alloc | apply pw_below_drewN | apply below_drew1 | refine below_set ?_ GE115.out) | exact HB.out)⟩⟩
              · rw [if_neg c10] at H
                have c10b0 : decide (t116 < 0) = false := decide_eq_false c10
                clear c10
                (first | rw [c10b0] | (simp only [i64_w, i32_w]; rw [c10b0]) | skip)
                replace H := Option.bind_eq_some_iff.mp H
                obtain ⟨t117, A110, H⟩ := H
                replace H : (if t116 = t117 then (sets_Check.j1 k1 l0 x8_1 l0 (l0.length : Int) x8_1 (decide (((rd_T31 l0 x8_1).f0) > ((rd_T31 l0 x8_1).f1))) ((rd_T31 l0 x8_1).f0) ((rd_T31 l0 x8_1).f1)) else (sets_Check.j1 k1 l0 x8_1 l0 (l0.length : Int) x8_1 true ((rd_T31 l0 x8_1).f0) ((rd_T31 l0 x8_1).f1))) = some r := H
                have A11 := Aside0.mk A110
                clear A110
                by_cases c12 : t116 = t117
                · rw [if_pos c12] at H
                  have c12b0 : (t116 == t117) = true := beq_iff_eq.mpr c12
                  have c12b1 : (t116 != t117) = false := bne_eq_false_iff_eq.mpr c12
                  clear c12
                  have H' := Aside0.mk H
                  clear H
                  have hcz13_0 : w9.cell? ⟨gb115, 0, none⟩ = some (.int .i32 ((rd_T31 l0 x8_1).f0)) := (blk_cell BK115.out 0).trans rfl
                  have hcz13_1 : w9.cell? ⟨gb115, 1, none⟩ = some (.int .i32 ((rd_T31 l0 x8_1).f1)) := (blk_cell BK115.out 1).trans rfl
                  have hfz13_0 := blk_frozen BK115.out 0
                  have hfz13_1 := blk_frozen BK115.out 1
                  go_wp2_with (first | (go_at_call 69; (with_reducible refine (sets_band.calls ((rd_T31 l0 x8_1).f1) t117 _ A11.out).mono ?_); rintro e w14 ⟨rfl, hb⟩; have n0_ := Aside0.mk (blk_below (g := gb115) (o := .cells #[.int .i32 ((rd_T31 l0 x8_1).f0), .int .i32 ((rd_T31 l0 x8_1).f1)] 31 (0, 0)) (by (with_reducible repeat (first | refine blk_drewN ?_ _ | refine blk_drew ?_ | refine blk_alloc ?_ _)); exact BK115.out) hb); have n1_ := Aside0.mk (below_step (by repeat (first | (with_reducible first | exact HB.out | apply below_alloc | apply pw_below_drewN | apply below_drew1 | refine below_set ?_ GE115.out) | exact HB.out)) hb); clear BK115; clear HB; have BK115 := n0_; have HB := n1_; clear n0_ n1_; (try clear hb); (try clear hb2); (try clear hk); (try clear hi); have hcz15_0 : w14.cell? ⟨gb115, 0, none⟩ = some (.int .i32 ((rd_T31 l0 x8_1).f0)) := (blk_cell BK115.out 0).trans rfl; have hcz15_1 : w14.cell? ⟨gb115, 1, none⟩ = some (.int .i32 ((rd_T31 l0 x8_1).f1)) := (blk_cell BK115.out 1).trans rfl; have hfz15_0 := blk_frozen BK115.out 0; have hfz15_1 := blk_frozen BK115.out 1))
                  repeat (go_quiet (first | (go_at_call 69; (with_reducible refine (sets_band.calls ((rd_T31 l0 x8_1).f1) t117 _ A11.out).mono ?_); rintro e w14 ⟨rfl, hb⟩; have n0_ := Aside0.mk (blk_below (g := gb115) (o := .cells #[.int .i32 ((rd_T31 l0 x8_1).f0), .int .i32 ((rd_T31 l0 x8_1).f1)] 31 (0, 0)) (by (with_reducible repeat (first | refine blk_drewN ?_ _ | refine blk_drew ?_ | refine blk_alloc ?_ _)); exact BK115.out) hb); have n1_ := Aside0.mk (below_step (by repeat (first | (with_reducible first | exact HB.out | apply below_alloc | apply pw_below_drewN | apply below_drew1 | refine below_set ?_ GE115.out) | exact HB.out)) hb); clear BK115; clear HB; have BK115 := n0_; have HB := n1_; clear n0_ n1_; (try clear hb); (try clear hb2); (try clear hk); (try clear hi); have hcz15_0 : w14.cell? ⟨gb115, 0, none⟩ = some (.int .i32 ((rd_T31 l0 x8_1).f0)) := (blk_cell BK115.out 0).trans rfl; have hcz15_1 : w14.cell? ⟨gb115, 1, none⟩ = some (.int .i32 ((rd_T31 l0 x8_1).f1)) := (blk_cell BK115.out 1).trans rfl; have hfz15_0 := blk_frozen BK115.out 0; have hfz15_1 := blk_frozen BK115.out 1)); try go_wp2_with (first | (go_at_call 69; (with_reducible refine (sets_band.calls ((rd_T31 l0 x8_1).f1) t117 _ A11.out).mono ?_); rintro e w14 ⟨rfl, hb⟩; have n0_ := Aside0.mk (blk_below (g := gb115) (o := .cells #[.int .i32 ((rd_T31 l0 x8_1).f0), .int .i32 ((rd_T31 l0 x8_1).f1)] 31 (0, 0)) (by (with_reducible repeat (first | refine blk_drewN ?_ _ | refine blk_drew ?_ | refine blk_alloc ?_ _)); exact BK115.out) hb); have n1_ := Aside0.mk (below_step (by repeat (first | (with_reducible first | exact HB.out | apply below_alloc | apply pw_below_drewN | apply below_drew1 | refine below_set ?_ GE115.out) | exact HB.out)) hb); clear BK115; clear HB; have BK115 := n0_; have HB := n1_; clear n0_ n1_; (try clear hb); (try clear hb2); (try clear hk); (try clear hi); have hcz15_0 : w14.cell? ⟨gb115, 0, none⟩ = some (.int .i32 ((rd_T31 l0 x8_1).f0)) := (blk_cell BK115.out 0).trans rfl; have hcz15_1 : w14.cell? ⟨gb115, 1, none⟩ = some (.int .i32 ((rd_T31 l0 x8_1).f1)) := (blk_cell BK115.out 1).trans rfl; have hfz15_0 := blk_frozen BK115.out 0; have hfz15_1 := blk_frozen BK115.out 1)))
                  go_meet
                  case rel => exact ⟨_, (decide (((rd_T31 l0 x8_1).f0) > ((rd_T31 l0 x8_1).f1))), (by first | rfl | (simp; done) | (simp [*]; done)), H', ⟨by have := HK1.out; first | omega | exact Nat.le_refl _⟩, ⟨by (with_reducible repeat (first | refine blk_drewN ?_ _ | refine blk_drew ?_ | refine blk_alloc ?_ _)); exact BK115.out⟩, ⟨by repeat (first | (with_reducible first | exact HB.out | apply below_alloc | apply pw_below_drewN | apply below_drew1 | refine below_set ?_ GE115.out) | exact HB.out)⟩⟩
                · rw [if_neg c12] at H
                  have c12b0 : (t116 == t117) = false := beq_eq_false_iff_ne.mpr c12
                  have c12b1 : (t116 != t117) = true := bne_iff_ne.mpr c12
                  have H' := Aside0.mk H
                  clear H
                  have hcz16_0 : w9.cell? ⟨gb115, 0, none⟩ = some (.int .i32 ((rd_T31 l0 x8_1).f0)) := (blk_cell BK115.out 0).trans rfl
                  have hcz16_1 : w9.cell? ⟨gb115, 1, none⟩ = some (.int .i32 ((rd_T31 l0 x8_1).f1)) := (blk_cell BK115.out 1).trans rfl
                  have hfz16_0 := blk_frozen BK115.out 0
                  have hfz16_1 := blk_frozen BK115.out 1
                  go_wp2_with (first | (go_at_call 69; (with_reducible refine (sets_band.calls ((rd_T31 l0 x8_1).f1) t117 _ A11.out).mono ?_); rintro e w17 ⟨rfl, hb⟩; have n0_ := Aside0.mk (blk_below (g := gb115) (o := .cells #[.int .i32 ((rd_T31 l0 x8_1).f0), .int .i32 ((rd_T31 l0 x8_1).f1)] 31 (0, 0)) (by (with_reducible repeat (first | refine blk_drewN ?_ _ | refine blk_drew ?_ | refine blk_alloc ?_ _)); exact BK115.out) hb); have n1_ := Aside0.mk (below_step (by repeat (first | (with_reducible first | exact HB.out | apply below_alloc | apply pw_below_drewN | apply below_drew1 | refine below_set ?_ GE115.out) | exact HB.out)) hb); clear BK115; clear HB; have BK115 := n0_; have HB := n1_; clear n0_ n1_; (try clear hb); (try clear hb2); (try clear hk); (try clear hi)))
                  repeat (go_quiet (first | (go_at_call 69; (with_reducible refine (sets_band.calls ((rd_T31 l0 x8_1).f1) t117 _ A11.out).mono ?_); rintro e w17 ⟨rfl, hb⟩; have n0_ := Aside0.mk (blk_below (g := gb115) (o := .cells #[.int .i32 ((rd_T31 l0 x8_1).f0), .int .i32 ((rd_T31 l0 x8_1).f1)] 31 (0, 0)) (by (with_reducible repeat (first | refine blk_drewN ?_ _ | refine blk_drew ?_ | refine blk_alloc ?_ _)); exact BK115.out) hb); have n1_ := Aside0.mk (below_step (by repeat (first | (with_reducible first | exact HB.out | apply below_alloc | apply pw_below_drewN | apply below_drew1 | refine below_set ?_ GE115.out) | exact HB.out)) hb); clear BK115; clear HB; have BK115 := n0_; have HB := n1_; clear n0_ n1_; (try clear hb); (try clear hb2); (try clear hk); (try clear hi))); try go_wp2_with (first | (go_at_call 69; (with_reducible refine (sets_band.calls ((rd_T31 l0 x8_1).f1) t117 _ A11.out).mono ?_); rintro e w17 ⟨rfl, hb⟩; have n0_ := Aside0.mk (blk_below (g := gb115) (o := .cells #[.int .i32 ((rd_T31 l0 x8_1).f0), .int .i32 ((rd_T31 l0 x8_1).f1)] 31 (0, 0)) (by (with_reducible repeat (first | refine blk_drewN ?_ _ | refine blk_drew ?_ | refine blk_alloc ?_ _)); exact BK115.out) hb); have n1_ := Aside0.mk (below_step (by repeat (first | (with_reducible first | exact HB.out | apply below_alloc | apply pw_below_drewN | apply below_drew1 | refine below_set ?_ GE115.out) | exact HB.out)) hb); clear BK115; clear HB; have BK115 := n0_; have HB := n1_; clear n0_ n1_; (try clear hb); (try clear hb2); (try clear hk); (try clear hi))))
                  go_meet
                  case rel => exact ⟨_, (true), (by first | rfl | (simp; done) | (simp [*]; done)), H', ⟨by have := HK1.out; first | omega | exact Nat.le_refl _⟩, ⟨by (with_reducible repeat (first | refine blk_drewN ?_ _ | refine blk_drew ?_ | refine blk_alloc ?_ _)); exact BK115.out⟩, ⟨by repeat (first | (with_reducible first | exact HB.out | apply below_alloc | apply pw_below_drewN | apply below_drew1 | refine below_set ?_ GE115.out) | exact HB.out)⟩⟩
            case rest =>
              clear HC6
              try clear c1
              try clear p1
              try clear q1
              try clear hx1
              try clear c2
              try clear c2b0
              try clear p2
              try clear c3
              try clear c3b0
              try clear c4
              try clear c4b0
              try clear c10
              try clear c10b0
              try clear p11
              try clear q11
              try clear hx11
              try clear c12
              try clear c12b0
              try clear c12b1
              try clear hcz13_0
              try clear hcz13_1
              try clear hcz15_0
              try clear hcz15_1
              try clear hcz16_0
              try clear hcz16_1
              try clear hcz8_0
              try clear hcz8_1
              try clear hfz13_0
              try clear hfz13_1
              try clear hfz15_0
              try clear hfz15_1
              try clear hfz16_0
              try clear hfz16_1
              try clear hfz8_0
              try clear hfz8_1
              try clear hx114_0
              try clear hx114_1
              try clear p114
              try clear q114
              obtain ⟨kq, x31_5, rfl, HA, HJ5, BK115, HB⟩ := hcut
              cases kq with
              | zero => exact absurd HA.out (by simp [sets_Check.j1])
              | succ kj5 =>
                have H := HA.out
                clear HA
                simp only [sets_Check.j1] at H
                by_cases c18 : x31_5 = true
                · subst c18
                  have H1 : (some 1) = some r := by rw [if_pos rfl] at H; exact H
                  clear H
                  have H := H1
                  clear H1
                  obtain rfl := Option.some.inj H
                  go_wp2
                  repeat (go_quiet (fail); try go_wp2)
                  go_ret
                  exact ⟨by first | rfl | (simp [errW_none, errW_some] <;> rfl) | (simp [*, errW_none, errW_some] <;> rfl), by repeat (first | (with_reducible first | exact HB.out | apply below_alloc | apply pw_below_drewN | apply below_drew1 | refine below_set ?_ GE115.out) | exact HB.out)⟩
                · replace c18 := Bool.eq_false_iff.mpr c18
                  subst c18
                  have H1 : (if x8_1 > 0 then (if 0 ≤ (wrap64 (x8_1 - 1)) then (if (wrap64 (x8_1 - 1)) < (l0.length : Int) then (if ((rd_T31 l0 x8_1).f0) ≤ ((rd_T31 l0 (wrap64 (x8_1 - 1))).f1) then (some 1) else (if ((rd_T31 l0 x8_1).f0) = (wrap32 (((rd_T31 l0 (wrap64 (x8_1 - 1))).f1) + 1)) then (some 1) else (sets_Check.l0 kj5 l0 l0 (l0.length : Int) (wrap64 (x8_1 + 1))))) else (none)) else (none)) else (sets_Check.l0 kj5 l0 l0 (l0.length : Int) (wrap64 (x8_1 + 1)))) = some r := by rw [if_neg (show ¬ (false = true) by decide)] at H; exact H
                  clear H
                  have H := H1
                  clear H1
                  by_cases c19 : x8_1 > 0
                  · rw [if_pos c19] at H
                    have c19b0 : decide (0 < x8_1) = true := decide_eq_true c19
                    clear c19
                    obtain ⟨ji20, hji20⟩ : ∃ j_ : Int, (wrap64 (x8_1 - 1)) = j_ := ⟨_, rfl⟩
                    replace H : (if 0 ≤ (ji20) then (if (ji20) < (l0.length : Int) then (if ((rd_T31 l0 x8_1).f0) ≤ ((rd_T31 l0 (ji20)).f1) then (some 1) else (if ((rd_T31 l0 x8_1).f0) = (wrap32 (((rd_T31 l0 (ji20)).f1) + 1)) then (some 1) else (sets_Check.l0 kj5 l0 l0 (l0.length : Int) (wrap64 (x8_1 + 1))))) else (none)) else (none)) = some r := by first | (rw [hji20] at H; exact H) | (simp only [hji20] at H ⊢; exact H)
                    have hji20w : (IntKind.i64.wrap (x8_1 - 1)) = ji20 := (i64_w _).trans hji20
                    by_cases c21 : 0 ≤ (ji20)
                    · rw [if_pos c21] at H
                      have c21b0 : decide (0 ≤ (ji20)) = true := decide_eq_true c21
                      clear c21
                      by_cases c22 : (ji20) < (l0.length : Int)
                      · rw [if_pos c22] at H
                        have c22b0 : decide ((ji20) < (l0.length : Int)) = true := decide_eq_true c22
                        clear c22
                        by_cases c23 : ((rd_T31 l0 x8_1).f0) ≤ ((rd_T31 l0 (ji20)).f1)
                        · rw [if_pos c23] at H
                          have c23b0 : decide (((rd_T31 l0 x8_1).f0) ≤ ((rd_T31 l0 (ji20)).f1)) = true := decide_eq_true c23
                          clear c23
                          obtain rfl := Option.some.inj H
                          have hcz24_0 : wc.cell? ⟨gb115, 0, none⟩ = some (.int .i32 ((rd_T31 l0 x8_1).f0)) := (blk_cell BK115.out 0).trans rfl
                          have hcz24_1 : wc.cell? ⟨gb115, 1, none⟩ = some (.int .i32 ((rd_T31 l0 x8_1).f1)) := (blk_cell BK115.out 1).trans rfl
                          have hfz24_0 := blk_frozen BK115.out 0
                          have hfz24_1 := blk_frozen BK115.out 1
                          have p118 : 0 ≤ ((ji20) : Int) := of_decide_eq_true (by first | (with_reducible assumption) | assumption)
                          have q118 : (ji20) < (l0.length : Int) := of_decide_eq_true (by first | (with_reducible assumption) | assumption)
                          obtain ⟨ad118, e118, hx118_0, hx118_1⟩ := at_T31 HR0.out (ji20) p118 q118
                          obtain rfl : ad114 = ad118 := (by injection e118)
                          replace hx118_0 := (HB.out.cell (World.block_lt_of_cell? w _ hx118_0)).trans hx118_0
                          replace hx118_1 := (HB.out.cell (World.block_lt_of_cell? w _ hx118_1)).trans hx118_1
                          replace p118 := eq_true p118
                          replace q118 := eq_true q118
                          go_wp2
                          repeat (go_quiet (fail); try go_wp2)
                          go_ret
                          exact ⟨by first | rfl | (simp [errW_none, errW_some] <;> rfl) | (simp only [← hji20]; first | rfl | (simp [errW_none, errW_some] <;> rfl)) | (simp [*, errW_none, errW_some] <;> rfl), by repeat (first | (with_reducible first | exact HB.out | apply below_alloc | apply pw_below_drewN | apply below_drew1 | refine below_set ?_ GE115.out) | exact HB.out)⟩
                        · rw [if_neg c23] at H
                          have c23b0 : decide (((rd_T31 l0 x8_1).f0) ≤ ((rd_T31 l0 (ji20)).f1)) = false := decide_eq_false c23
                          clear c23
                          by_cases c25 : ((rd_T31 l0 x8_1).f0) = (wrap32 (((rd_T31 l0 (ji20)).f1) + 1))
                          · rw [if_pos c25] at H
                            have c25b0 : (((rd_T31 l0 x8_1).f0) == (wrap32 (((rd_T31 l0 (ji20)).f1) + 1))) = true := beq_iff_eq.mpr c25
                            have c25b1 : (((rd_T31 l0 x8_1).f0) != (wrap32 (((rd_T31 l0 (ji20)).f1) + 1))) = false := bne_eq_false_iff_eq.mpr c25
                            clear c25
                            obtain rfl := Option.some.inj H
                            have hcz26_0 : wc.cell? ⟨gb115, 0, none⟩ = some (.int .i32 ((rd_T31 l0 x8_1).f0)) := (blk_cell BK115.out 0).trans rfl
                            have hcz26_1 : wc.cell? ⟨gb115, 1, none⟩ = some (.int .i32 ((rd_T31 l0 x8_1).f1)) := (blk_cell BK115.out 1).trans rfl
                            have hfz26_0 := blk_frozen BK115.out 0
                            have hfz26_1 := blk_frozen BK115.out 1
                            have p118 : 0 ≤ ((ji20) : Int) := of_decide_eq_true (by first | (with_reducible assumption) | assumption)
                            have q118 : (ji20) < (l0.length : Int) := of_decide_eq_true (by first | (with_reducible assumption) | assumption)
                            obtain ⟨ad118, e118, hx118_0, hx118_1⟩ := at_T31 HR0.out (ji20) p118 q118
                            obtain rfl : ad114 = ad118 := (by injection e118)
                            replace hx118_0 := (HB.out.cell (World.block_lt_of_cell? w _ hx118_0)).trans hx118_0
                            replace hx118_1 := (HB.out.cell (World.block_lt_of_cell? w _ hx118_1)).trans hx118_1
                            replace p118 := eq_true p118
                            replace q118 := eq_true q118
                            have p119 : 0 ≤ ((ji20) : Int) := of_decide_eq_true (by first | (with_reducible assumption) | assumption)
                            have q119 : (ji20) < (l0.length : Int) := of_decide_eq_true (by first | (with_reducible assumption) | assumption)
                            obtain ⟨ad119, e119, hx119_0, hx119_1⟩ := at_T31 HR0.out (ji20) p119 q119
                            obtain rfl : ad114 = ad119 := (by injection e119)
                            replace hx119_0 := (HB.out.cell (World.block_lt_of_cell? w _ hx119_0)).trans hx119_0
                            replace hx119_1 := (HB.out.cell (World.block_lt_of_cell? w _ hx119_1)).trans hx119_1
                            replace p119 := eq_true p119
                            replace q119 := eq_true q119
                            go_wp2
                            repeat (go_quiet (fail); try go_wp2)
                            go_ret
                            exact ⟨by first | rfl | (simp [errW_none, errW_some] <;> rfl) | (simp only [← hji20]; first | rfl | (simp [errW_none, errW_some] <;> rfl)) | (simp [*, errW_none, errW_some] <;> rfl), by repeat (first | (with_reducible first | exact HB.out | apply below_alloc | apply pw_below_drewN | apply below_drew1 | refine below_set ?_ GE115.out) | exact HB.out)⟩
                          · rw [if_neg c25] at H
                            have c25b0 : (((rd_T31 l0 x8_1).f0) == (wrap32 (((rd_T31 l0 (ji20)).f1) + 1))) = false := beq_eq_false_iff_ne.mpr c25
                            have c25b1 : (((rd_T31 l0 x8_1).f0) != (wrap32 (((rd_T31 l0 (ji20)).f1) + 1))) = true := bne_iff_ne.mpr c25
                            have H' := Aside0.mk H
                            clear H
                            have hcz27_0 : wc.cell? ⟨gb115, 0, none⟩ = some (.int .i32 ((rd_T31 l0 x8_1).f0)) := (blk_cell BK115.out 0).trans rfl
                            have hcz27_1 : wc.cell? ⟨gb115, 1, none⟩ = some (.int .i32 ((rd_T31 l0 x8_1).f1)) := (blk_cell BK115.out 1).trans rfl
                            have hfz27_0 := blk_frozen BK115.out 0
                            have hfz27_1 := blk_frozen BK115.out 1
                            have p118 : 0 ≤ ((ji20) : Int) := of_decide_eq_true (by first | (with_reducible assumption) | assumption)
                            have q118 : (ji20) < (l0.length : Int) := of_decide_eq_true (by first | (with_reducible assumption) | assumption)
                            obtain ⟨ad118, e118, hx118_0, hx118_1⟩ := at_T31 HR0.out (ji20) p118 q118
                            obtain rfl : ad114 = ad118 := (by injection e118)
                            replace hx118_0 := (HB.out.cell (World.block_lt_of_cell? w _ hx118_0)).trans hx118_0
                            replace hx118_1 := (HB.out.cell (World.block_lt_of_cell? w _ hx118_1)).trans hx118_1
                            replace p118 := eq_true p118
                            replace q118 := eq_true q118
                            have p119 : 0 ≤ ((ji20) : Int) := of_decide_eq_true (by first | (with_reducible assumption) | assumption)
                            have q119 : (ji20) < (l0.length : Int) := of_decide_eq_true (by first | (with_reducible assumption) | assumption)
                            obtain ⟨ad119, e119, hx119_0, hx119_1⟩ := at_T31 HR0.out (ji20) p119 q119
                            obtain rfl : ad114 = ad119 := (by injection e119)
                            replace hx119_0 := (HB.out.cell (World.block_lt_of_cell? w _ hx119_0)).trans hx119_0
                            replace hx119_1 := (HB.out.cell (World.block_lt_of_cell? w _ hx119_1)).trans hx119_1
                            replace p119 := eq_true p119
                            replace q119 := eq_true q119
                            go_wp2
                            repeat (go_quiet (fail); try go_wp2)
                            go_roundg kj5
                            case measure => have := HK1.out; have := HJ5.out; omega
                            case rel => exact ⟨(wrap64 (x8_1 + 1)), (by first | rfl | (simp; done) | (simp [*]; done)), H', ⟨by have := HK1.out; have := HJ5.out; omega⟩, ⟨by repeat (first | (with_reducible first | exact HB.out | apply below_alloc | apply pw_below_drewN | apply below_drew1 | refine below_set ?_ GE115.out) | exact HB.out)⟩⟩
                      · rw [if_neg c22] at H
                        exact absurd H (by simp)
                    · rw [if_neg c21] at H
                      exact absurd H (by simp)
                  · rw [if_neg c19] at H
                    have c19b0 : decide (0 < x8_1) = false := decide_eq_false c19
                    clear c19
                    have H' := Aside0.mk H
                    clear H
                    go_wp2
                    repeat (go_quiet (fail); try go_wp2)
                    go_roundg kj5
                    case measure => have := HK1.out; have := HJ5.out; omega
                    case rel => exact ⟨(wrap64 (x8_1 + 1)), (by first | rfl | (simp; done) | (simp [*]; done)), H', ⟨by have := HK1.out; have := HJ5.out; omega⟩, ⟨by repeat (first | (with_reducible first | exact HB.out | apply below_alloc | apply pw_below_drewN | apply below_drew1 | refine below_set ?_ GE115.out) | exact HB.out)⟩⟩
          · rw [if_neg c4] at H
            exact absurd H (by simp)
        · rw [if_neg c3] at H
          exact absurd H (by simp)
      · rw [if_neg c2] at H
        have c2b0 : decide (x8_1 < (l0.length : Int)) = false := decide_eq_false c2
        clear c2
        obtain rfl := Option.some.inj H
        go_wp2
        repeat (go_quiet (fail); try go_wp2)
        go_ret
        exact ⟨by first | rfl | (simp [errW_none, errW_some] <;> rfl) | (simp [*, errW_none, errW_some] <;> rfl), by repeat (first | (with_reducible first | exact HB.out | apply below_alloc | apply pw_below_drewN | apply below_drew1) | exact HB.out)⟩

-- NOT PRINTED: function 84 (api_Range_rune)

/-! ### sets_has: function 60 -/
/-- what the binary search asks of a range: -1 where it lies below u, 1 where it lies above, else 0 -/
def hasCmp (x : S31) (u : Int) : Int := if x.f1 < u then -1 else if u < x.f0 then 1 else 0
set_option maxHeartbeats 800000 in
theorem has_lit (x y u : Int) (W : World) :
    Calls Tryd.prog 85 #[.agg #[.int .i32 x, .int .i32 y], .int .i32 u] W fun e w' => e = .returned (.int .i64 (hasCmp ⟨x, y⟩ u)) ∧ Below W.heap.size W w' := by
  have hu31 := Tryd.underlying31
  unfold hasCmp
  by_cases h1 : y < u
  · rw [if_pos h1]
    have d1 : decide (y < u) = true := decide_eq_true h1
    go_enter Tryd.func85, Tryd.ntmps85
    go_wp2
    go_ret
    exact ⟨rfl, by repeat (first | exact Below.refl _ _ | apply below_alloc | apply pw_below_drewN | apply below_drew1)⟩
  · rw [if_neg h1]
    have d1 : decide (y < u) = false := decide_eq_false h1
    by_cases h2 : u < x
    · rw [if_pos h2]
      have d2 : decide (u < x) = true := decide_eq_true h2
      go_enter Tryd.func85, Tryd.ntmps85
      go_wp2
      go_ret
      exact ⟨rfl, by repeat (first | exact Below.refl _ _ | apply below_alloc | apply pw_below_drewN | apply below_drew1)⟩
    · rw [if_neg h2]
      have d2 : decide (u < x) = false := decide_eq_false h2
      go_enter Tryd.func85, Tryd.ntmps85
      go_wp2
      go_ret
      exact ⟨rfl, by repeat (first | exact Below.refl _ _ | apply below_alloc | apply pw_below_drewN | apply below_drew1)⟩
/-- the search between i and j: the least place from i on whose range does not lie below u, if the ranges rise -/
def hasFind (u : Int) (l : List S31) : Nat → Nat → Nat → Option Nat
  | 0, _, _ => none
  | k + 1, i, j => if i < j then (if hasCmp (l.getD ((i + j) / 2) z31) u < 0 then hasFind u l k ((i + j) / 2 + 1) j else hasFind u l k i ((i + j) / 2)) else some i
theorem hasFind.mono (u : Int) (l : List S31) : ∀ k i j, LeO (hasFind u l k i j) (hasFind u l (k + 1) i j)
  | 0, _, _ => fun r h => by simp [hasFind] at h
  | k + 1, i, j => by
    have ih := hasFind.mono u l k
    unfold hasFind
    refine LeO.ite (LeO.ite ?_ ?_) (LeO.refl _)
    · exact ih _ _
    · exact ih _ _
def sets_has.f (k : Nat) (l0 : List S31) (a1 : Int) : Option Bool :=
  if l0.length ≤ 4611686018427387903 then ((hasFind a1 l0 k 0 l0.length).bind fun i => some (decide (i < l0.length) && decide (hasCmp (l0.getD i z31) a1 = 0))) else none
theorem sets_has.mono : ∀ a0 a1 k, LeO (sets_has.f k a0 a1) (sets_has.f (k + 1) a0 a1) := by
  intro a0 a1 k
  unfold sets_has.f
  exact LeO.ite (LeO.bind (hasFind.mono _ _ _ _ _) (fun _ => LeO.refl _)) (LeO.none _)
set_option maxHeartbeats 1600000 in
set_option maxRecDepth 100000 in
theorem has_search (k : Nat) (u : Int) (A : Option Addr) (c : Nat) (l : List S31) (n : Nat) (w : World) (hr : Kd.C k31 w A l.length l) (hc : l.length ≤ c) (hb8 : l.length ≤ 4611686018427387903) (h : hasFind u l k 0 l.length = some n) :
    Calls Tryd.prog 84 #[.slice A l.length c, .int .i32 u, .func (.func 85) #[] #[]] w fun e w' => e = .returned (.tuple #[.int .i64 n, .bool (decide (n < l.length) && decide (hasCmp (l.getD n z31) u = 0))]) ∧ Below w.heap.size w w' := by
  have hu31 := Tryd.underlying31
  have HR := Aside0.mk hr
  have HK := Aside0.mk hc
  have HF := Aside0.mk h
  clear hr hc h
  go_enter Tryd.func84, Tryd.ntmps84
  go_wp2
  go_loopw [9, 10] (fun vi vj wr => ∃ i j : Nat, i ≤ j ∧ j ≤ l.length ∧ vi = .int .i64 i ∧ vj = .int .i64 j ∧ Aside0 (∃ k, hasFind u l k i j = some n) ∧ Aside0 (Below w.heap.size w wr)) (fun vi vj _ => (intOf vj).toNat - (intOf vi).toNat)
  case atStart => exact ⟨0, l.length, Nat.zero_le _, Nat.le_refl _, rfl, rfl, ⟨⟨k, HF.out⟩⟩, ⟨Below.refl _ _⟩⟩
  case round =>
    obtain ⟨i, j, hij, hjl, rfl, rfl, HI, HB⟩ := hrel
    by_cases hlt : i < j
    · have hlt1 : decide ((i : Int) < (j : Int)) = true := decide_eq_true (by omega)
      obtain ⟨kk, hkk⟩ := HI.out
      have hn : (((i : Int) + (j : Int)) / 2).toNat = (i + j) / 2 := by omega
      have hrd : rd_T31 l (((i : Int) + (j : Int)) / 2) = l.getD ((i + j) / 2) z31 := by rw [rd_T31, hn]
      obtain ⟨ad, e1, h0, h1⟩ := at_T31 (Kd.C_below HR.out HB.out) (((i : Int) + (j : Int)) / 2) (by omega) (by omega)
      subst e1
      rw [hn] at h0 h1
      have hp : 0 ≤ ((i : Int) + (j : Int)) / 2 := by omega
      have hq : ((i : Int) + (j : Int)) / 2 < (l.length : Int) := by omega
      have HL := Aside0.mk (has_lit (rd_T31 l (((i : Int) + (j : Int)) / 2)).f0 (rd_T31 l (((i : Int) + (j : Int)) / 2)).f1 u wr)
      cases kk with
      | zero => exact absurd hkk (by simp [hasFind])
      | succ kk =>
        rw [hasFind, if_pos hlt] at hkk
        have hce : hasCmp ⟨(rd_T31 l (((i : Int) + (j : Int)) / 2)).f0, (rd_T31 l (((i : Int) + (j : Int)) / 2)).f1⟩ u = hasCmp (l.getD ((i + j) / 2) z31) u := by rw [hrd]
        by_cases hcm : hasCmp (l.getD ((i + j) / 2) z31) u < 0
        · rw [if_pos hcm] at hkk
          have HKK := Aside0.mk hkk
          have d1 : decide (hasCmp ⟨(rd_T31 l (((i : Int) + (j : Int)) / 2)).f0, (rd_T31 l (((i : Int) + (j : Int)) / 2)).f1⟩ u < 0) = true := by rw [hce]; exact decide_eq_true hcm
          clear hkk hcm hce hrd hn
          go_wp2_with (refine HL.out.mono ?_; rintro e w' ⟨rfl, hb⟩; have HB2 := Aside0.mk (below_step HB.out hb); clear hb)
          go_roundw
          case rel => exact ⟨(i + j) / 2 + 1, j, by omega, hjl, by go_num, rfl, ⟨⟨kk, HKK.out⟩⟩, HB2⟩
          case measure => simp [intOf]; omega
        · rw [if_neg hcm] at hkk
          have HKK := Aside0.mk hkk
          have d1 : decide (hasCmp ⟨(rd_T31 l (((i : Int) + (j : Int)) / 2)).f0, (rd_T31 l (((i : Int) + (j : Int)) / 2)).f1⟩ u < 0) = false := by rw [hce]; exact decide_eq_false hcm
          clear hkk hcm hce hrd hn
          go_wp2_with (refine HL.out.mono ?_; rintro e w' ⟨rfl, hb⟩; have HB2 := Aside0.mk (below_step HB.out hb); clear hb)
          go_roundw
          case rel => exact ⟨i, (i + j) / 2, by omega, by omega, rfl, by go_num, ⟨⟨kk, HKK.out⟩⟩, HB2⟩
          case measure => simp [intOf]; omega
    · have hlt1 : decide ((i : Int) < (j : Int)) = false := decide_eq_false (by omega)
      obtain ⟨kk, hkk⟩ := HI.out
      have hin : i = n := by
        cases kk with
        | zero => exact absurd hkk (by simp [hasFind])
        | succ kk => rw [hasFind, if_neg hlt] at hkk; exact Option.some.inj hkk
      subst hin
      clear hkk HI HF
      by_cases hil : i < l.length
      · have d2 : decide ((i : Int) < (l.length : Int)) = true := decide_eq_true (by omega)
        have d3 : decide (i < l.length) = true := decide_eq_true hil
        obtain ⟨ad, e1, h0, h1⟩ := at_T31 (Kd.C_below HR.out HB.out) (i : Int) (by omega) (by omega)
        subst e1
        simp only [Int.toNat_natCast] at h0 h1
        have hrd : rd_T31 l (i : Int) = l.getD i z31 := by simp [rd_T31]
        have HL := Aside0.mk (has_lit (rd_T31 l (i : Int)).f0 (rd_T31 l (i : Int)).f1 u wr)
        have hp : 0 ≤ (i : Int) := by omega
        have hq : (i : Int) < (l.length : Int) := by omega
        have HRD := Aside0.mk hrd
        clear hrd
        go_wp2_with (refine HL.out.mono ?_; rintro e w' ⟨rfl, hb⟩; have HB2 := Aside0.mk (below_step HB.out hb); clear hb)
        go_ret2
        refine ⟨?_, HB2.out⟩
        rw [d3, Bool.true_and, ← HRD.out]
        have hb2 : ∀ x : Int, (x == 0) = decide (x = 0) := fun x => by by_cases hx : x = 0 <;> simp [hx]
        rw [← hb2]
        rfl
      · have d2 : decide ((i : Int) < (l.length : Int)) = false := decide_eq_false (by omega)
        have d3 : decide (i < l.length) = false := decide_eq_false hil
        go_wp2
        go_ret2
        exact ⟨by rw [d3]; rfl, HB.out⟩
set_option maxHeartbeats 800000 in
set_option maxRecDepth 100000 in
theorem sets_has.calls (k : Nat) (A0 : Option Addr) (c0 : Nat) (l0 : List S31) (a1 : Int) (r : Bool) (w : World) (hr0 : Kd.C k31 w A0 l0.length l0) (hc0 : l0.length ≤ c0) (h : sets_has.f k l0 a1 = some r) (hG : GOK w := by first | (with_reducible exact HG_.out) | exact GOK.below HG_.out (by repeat (first | (with_reducible exact Below.refl _ _) | (with_reducible first | exact HB.out | apply below_alloc | apply pw_below_drewN | apply below_drew1 | refine below_set ?_ (Aside0.out (by assumption))) | exact HB.out)) | exact GOK.drewN HG_.out _ | exact GOK.drewN (GOK.drewN HG_.out _) _ | exact GOK.drew HG_.out) :
    Calls Tryd.prog 60 #[.slice A0 l0.length c0, .int .i32 a1] w fun e w' => e = .returned (.bool r) ∧ Below w.heap.size w w' := by
  unfold sets_has.f at h
  by_cases hb8 : l0.length ≤ 4611686018427387903
  · rw [if_pos hb8] at h
    obtain ⟨n, hn, h⟩ := Option.bind_eq_some_iff.mp h
    obtain rfl := Option.some.inj h
    have HC := Aside0.mk (has_search k a1 A0 c0 l0 n w hr0 hc0 hb8 hn)
    clear hr0 hc0 hn h hG hb8
    go_enter Tryd.func60, Tryd.ntmps60
    go_wp2_with (refine HC.out.mono ?_; rintro e w' ⟨rfl, hb⟩; have HB := Aside0.mk hb; clear hb)
    go_ret
    exact ⟨rfl, HB.out⟩
  · rw [if_neg hb8] at h
    cases h

/-! ### sets_Has: function 27 -/
def sets_Has.f (k : Nat) (l0 : List (S31)) (a1 : Int) : Option (Bool × Int) := (sets_Check.f k l0).bind fun t120 => (if t120 = 0 then ((sets_has.f k l0 a1).bind fun t121 => (some (t121, 0))) else (some (false, t120)))
theorem sets_Has.mono : ∀ a0 a1 k, LeO (sets_Has.f k a0 a1) (sets_Has.f (k + 1) a0 a1) := by
  intro a0 a1 k
  unfold sets_Has.f
  repeat' first
      | (with_reducible exact sets_Check.mono _ _)
      | (with_reducible exact sets_has.mono _ _ _)
      | (with_reducible exact LeO.refl _)
      | (with_reducible exact LeO.none _)
      | (with_reducible refine LeO.ite ?_ ?_)
      | (with_reducible refine LeO.bind ?_ (fun _ => ?_))
      | exact sets_Check.mono _ _
      | exact sets_has.mono _ _ _
      | exact LeO.none _
      | refine LeO.ite ?_ ?_
      | refine LeO.bind ?_ (fun _ => ?_)
set_option maxHeartbeats 8000000 in
set_option maxRecDepth 100000 in
theorem sets_Has.calls (k : Nat) (A0 : Option Addr) (c0 : Nat) (l0 : List (S31)) (a1 : Int) (r1 : Bool) (r2 : Int) (w : World) (hr0 : Kd.C k31 w A0 l0.length l0) (hc0 : l0.length ≤ c0) (h : sets_Has.f k l0 a1 = some (r1, r2)) (hG : GOK w := by first | (with_reducible exact HG_.out) | exact GOK.below HG_.out (by repeat (first | (with_reducible exact Below.refl _ _) | (with_reducible first | exact HB.out | apply below_alloc | apply pw_below_drewN | apply below_drew1 | refine below_set ?_ (Aside0.out (by assumption))) | exact HB.out)) | exact GOK.drewN HG_.out _ | exact GOK.drewN (GOK.drewN HG_.out _) _ | exact GOK.drew HG_.out) :
    Calls Tryd.prog 27 #[.slice A0 l0.length c0, .int .i32 a1] w fun e w' => e = .returned (.tuple #[.bool r1, .int .i64 r2]) ∧ Below w.heap.size w w' := by
  have HG_ := Aside0.mk hG
  clear hG
  have HR0 := Aside0.mk hr0
  have HC0 := Aside0.mk hc0
  clear hr0 hc0
  have HB := Aside0.mk (Below.refl w.heap.size w)
  have H : ((sets_Check.f k l0).bind fun t120 => (if t120 = 0 then ((sets_has.f k l0 a1).bind fun t121 => (some (t121, 0))) else (some (false, t120)))) = some (r1, r2) := h
  clear h
  replace H := Option.bind_eq_some_iff.mp H
  obtain ⟨t120, A30, H⟩ := H
  replace H : (if t120 = 0 then ((sets_has.f k l0 a1).bind fun t121 => (some (t121, 0))) else (some (false, t120))) = some (r1, r2) := H
  have A3 := Aside0.mk A30
  clear A30
  by_cases c4 : t120 = 0
  · rw [if_pos c4] at H
    have c4b0 : (t120 == 0) = true := beq_iff_eq.mpr c4
    have c4b1 : (t120 != 0) = false := bne_eq_false_iff_eq.mpr c4
    clear c4
    replace H := Option.bind_eq_some_iff.mp H
    obtain ⟨t121, A50, H⟩ := H
    replace H : (some (t121, 0)) = some (r1, r2) := H
    have A5 := Aside0.mk A50
    clear A50
    simp only [Option.some.injEq, Prod.mk.injEq] at H
    obtain ⟨rfl, rfl⟩ := H
    go_enter Tryd.func27, Tryd.ntmps27
    go_wp2_with (first | ((with_reducible refine gate_callee (f := 41) rfl ?_); refine goesL_ (some 8) rfl rfl Tryd.func41 (by kernel_rfl) rfl #[.slice A0 l0.length c0] rfl (by (try simp only [List.map_toArray, List.map_cons, List.map_nil]); first | done | rfl | (simp only [List.length_drop, List.length_take]; rfl)) ?_; (with_reducible refine (sets_Check.calls k _ _ l0 t120 _ ?side1 ?side2 A3.out).mono ?_); (case side1 => repeat (first | exact HR0.out | (with_reducible refine Kd.C_alloc ?_ _) | (with_reducible refine Kd.C_drewN ?_ _) | (with_reducible refine Kd.C_drew ?_))); (case side2 => exact HC0.out); rintro e w6 ⟨rfl, hb⟩; refine ⟨_, rfl, ?_⟩; have n0_ := Aside0.mk (below_step (by repeat (first | (with_reducible first | exact HB.out | apply below_alloc | apply pw_below_drewN | apply below_drew1) | exact HB.out)) hb); clear HB; have HB := n0_; clear n0_; (try clear hb); (try clear hb2); (try clear hk); (try clear hi)) | ((with_reducible refine gate_callee (f := 60) rfl ?_); refine goesL_ (some 14) rfl rfl Tryd.func60 (by kernel_rfl) rfl #[.slice A0 l0.length c0, .int .i32 a1] rfl (by (try simp only [List.map_toArray, List.map_cons, List.map_nil]); first | done | rfl | (simp only [List.length_drop, List.length_take]; rfl)) ?_; (with_reducible refine (sets_has.calls k _ _ l0 a1 t121 _ ?side1 ?side2 A5.out).mono ?_); (case side1 => repeat (first | exact (Kd.C_below HR0.out HB.out) | (with_reducible refine Kd.C_alloc ?_ _) | (with_reducible refine Kd.C_drewN ?_ _) | (with_reducible refine Kd.C_drew ?_))); (case side2 => exact HC0.out); rintro e w7 ⟨rfl, hb⟩; refine ⟨_, rfl, ?_⟩; have n0_ := Aside0.mk (below_step (by repeat (first | (with_reducible first | exact HB.out | apply below_alloc | apply pw_below_drewN | apply below_drew1) | exact HB.out)) hb); clear HB; have HB := n0_; clear n0_; (try clear hb); (try clear hb2); (try clear hk); (try clear hi)))
    go_ret2
    exact ⟨by first | rfl | (simp [errW_none, errW_some] <;> rfl) | (simp [*, errW_none, errW_some] <;> rfl), by repeat (first | (with_reducible first | exact HB.out | apply below_alloc | apply pw_below_drewN | apply below_drew1) | exact HB.out)⟩
  · rw [if_neg c4] at H
    have c4b0 : (t120 == 0) = false := beq_eq_false_iff_ne.mpr c4
    have c4b1 : (t120 != 0) = true := bne_iff_ne.mpr c4
    simp only [Option.some.injEq, Prod.mk.injEq] at H
    obtain ⟨rfl, rfl⟩ := H
    go_enter Tryd.func27, Tryd.ntmps27
    go_wp2_with (first | ((with_reducible refine gate_callee (f := 41) rfl ?_); refine goesL_ (some 8) rfl rfl Tryd.func41 (by kernel_rfl) rfl #[.slice A0 l0.length c0] rfl (by (try simp only [List.map_toArray, List.map_cons, List.map_nil]); first | done | rfl | (simp only [List.length_drop, List.length_take]; rfl)) ?_; (with_reducible refine (sets_Check.calls k _ _ l0 t120 _ ?side1 ?side2 A3.out).mono ?_); (case side1 => repeat (first | exact HR0.out | (with_reducible refine Kd.C_alloc ?_ _) | (with_reducible refine Kd.C_drewN ?_ _) | (with_reducible refine Kd.C_drew ?_))); (case side2 => exact HC0.out); rintro e w8 ⟨rfl, hb⟩; refine ⟨_, rfl, ?_⟩; have n0_ := Aside0.mk (below_step (by repeat (first | (with_reducible first | exact HB.out | apply below_alloc | apply pw_below_drewN | apply below_drew1) | exact HB.out)) hb); clear HB; have HB := n0_; clear n0_; (try clear hb); (try clear hb2); (try clear hk); (try clear hi)))
    go_ret2
    exact ⟨by first | rfl | (simp [errW_none, errW_some] <;> rfl) | (simp [*, errW_none, errW_some] <;> rfl), by repeat (first | (with_reducible first | exact HB.out | apply below_alloc | apply pw_below_drewN | apply below_drew1) | exact HB.out)⟩

/-! ### named_Of: function 25 -/
def named_Of.go (k : Nat) (u : Int) : List (ByteArray × List S31) → List ByteArray → Option (List ByteArray)
  | [], acc => some acc
  | p :: r, acc => (sets_Has.f k p.2 u).bind fun t => named_Of.go k u r (if t.1 = true then acc ++ [p.1] else acc)
def named_Of.f (k : Nat) (a0 : Int) : Option (List ByteArray) := named_Of.go k a0 classTab []
theorem named_Of.mono_go (k : Nat) (u : Int) : ∀ l acc, LeO (named_Of.go k u l acc) (named_Of.go (k + 1) u l acc)
  | [], _ => LeO.refl _
  | p :: r, acc => by
    rw [named_Of.go, named_Of.go]
    exact LeO.bind (sets_Has.mono _ _ _) (fun _ => named_Of.mono_go k u r _)
theorem named_Of.mono : ∀ a0 k, LeO (named_Of.f k a0) (named_Of.f (k + 1) a0) := fun a0 k => named_Of.mono_go k a0 classTab []
theorem findIn_nodup {β : Type} : ∀ (L : List (ByteArray × List β)) (i j : Nat) (n : ByteArray) (l : List β), (L.map fun p => p.1).Nodup → L[i]? = some (n, l) → XLib.findIn n L j = some (j + i, l)
  | [], i, j, n, l, _, h => by simp at h
  | (m, q) :: L, 0, j, n, l, _, h => by
    obtain ⟨rfl, rfl⟩ : m = n ∧ q = l := by simpa using h
    simp [XLib.findIn]
  | (m, q) :: L, i + 1, j, n, l, hn, h => by
    rw [List.map_cons, List.nodup_cons] at hn
    have hL : L[i]? = some (n, l) := by simpa using h
    have hne : n ≠ m := by
      rintro rfl
      exact hn.1 (List.mem_map.2 ⟨(n, l), List.mem_of_getElem? hL, rfl⟩)
    rw [XLib.findIn, if_neg hne, findIn_nodup L i (j + 1) n l hn.2 hL]
    congr 2
    omega
set_option maxHeartbeats 1600000 in
set_option maxRecDepth 100000 in
theorem named_Of.calls (k : Nat) (a0 : Int) (r : List ByteArray) (w : World) (h : named_Of.f k a0 = some r) (hG : GOK w := by first | (with_reducible exact HG_.out) | exact GOK.below HG_.out (by repeat (first | (with_reducible exact Below.refl _ _) | (with_reducible first | exact HB.out | apply below_alloc | apply pw_below_drewN | apply below_drew1 | refine below_set ?_ (Aside0.out (by assumption))) | exact HB.out)) | exact GOK.drewN HG_.out _ | exact GOK.drewN (GOK.drewN HG_.out _) _ | exact GOK.drew HG_.out) :
    Calls Tryd.prog 25 #[.int .i32 a0] w fun e w' => ∃ v0_ : Value, e = .returned (v0_) ∧ Kd.R Kd.string 9 w' w.heap.size (fun _ => True) v0_ r ∧ Below w.heap.size w w' := by
  have HG_ := Aside0.mk hG
  have HF0 := Aside0.mk h
  clear hG h
  go_enter Tryd.func25, Tryd.ntmps25
  go_wp2_with fail
  refine (named_classes.calls w HG_.out).mono ?_
  rintro e w1 ⟨B, rfl, hm, hb⟩
  have HM := Aside0.mk hm
  have HB1 := Aside0.mk hb
  clear hm hb
  go_wp2_with fail
  refine (keys_k _ _).mono ?_
  rintro e w2 ⟨rfl, rfl⟩
  go_wp2_with fail
  refine (sorted_k _ B w1 HM.out).mono ?_
  rintro e w3 ⟨v, rfl, hR, hb⟩
  obtain ⟨A, c, rfl, _, hC⟩ := Kd.R_reads hR
  have HC := Aside0.mk hC
  have HM3 := Aside0.mk (HM.out.below hb)
  have HB3 := Aside0.mk (below_step HB1.out hb)
  have HLEN : Aside0 (classNames.length = 20 ∧ classTab.length = 20) := ⟨rfl, rfl⟩
  clear hR hb hC
  rw [show classNames.length = 20 from rfl] at HC ⊢
  go_wp2_with fail
  go_loopw [3, 14] (fun v3 v14 wr => ∃ (i : Nat) (acc : List ByteArray), i ≤ 20 ∧ v14 = .int .i64 (i : Int) ∧ acc.length ≤ i ∧ Aside0 (Kd.R Kd.string 9 wr w3.heap.size (fun _ => True) v3 acc) ∧ Aside0 (Below w3.heap.size w3 wr) ∧ Aside0 (named_Of.go k a0 (classTab.drop i) acc = some r)) (fun _ v14 _ => 20 - (intOf v14).toNat)
  case atStart => exact ⟨0, [], Nat.zero_le _, rfl, Nat.le_refl _, ⟨Kd.R_nil _ _ _ _ _⟩, ⟨Below.refl _ _⟩, HF0⟩
  case round =>
    clear HF0
    obtain ⟨i, acc, hi, rfl, hacc, HR, HB, HF⟩ := hrel
    by_cases hl : i < 20
    · have hlt : i < classTab.length := by have := HLEN.out.2; omega
      have hF := HF.out
      rw [List.drop_eq_getElem_cons hlt, named_Of.go] at hF
      obtain ⟨⟨t1, t2⟩, ht, hF3⟩ := Option.bind_eq_some_iff.mp hF
      have HT := Aside0.mk ht
      have HF2 := Aside0.mk hF3
      have HMr := Aside0.mk (HM3.out.below HB.out)
      have HCr := Aside0.mk (Kd.C_below HC.out HB.out)
      have hgt : classTab[i]? = some (classTab[i].1, classTab[i].2) := by rw [List.getElem?_eq_getElem hlt]
      have HFI := Aside0.mk (findIn_nodup classTab i 0 _ _ classNames_nodup hgt)
      obtain ⟨ad, e, hx⟩ := Kd.at_string HCr.out (i : Int) (by omega) (by omega)
      cases e
      rw [Int.toNat_natCast, show rdOf ByteArray.empty classNames (i : Int) = classTab[i].1 by
        unfold rdOf classNames
        rw [Int.toNat_natCast, List.getD_eq_getElem?_getD, List.getElem?_map, List.getElem?_eq_getElem hlt]
        rfl] at hx
      have hi0 : (0 : Int) ≤ (i : Int) := by omega
      have HI := Aside0.mk hi
      have HACC := Aside0.mk hacc
      have HL := Aside0.mk hl
      clear ht hF3 hF HF hi hacc hgt
      generalize classTab[i] = p at HT HF2 HFI hx
      clear hlt
      go_wp2_with ((with_reducible refine XLib.wpList_lookup_one rfl _ _ _ _ _ rfl Tryd.underlying104 Tryd.underlying9 w.heap.size B classTab rfl p.1 rfl HMr.out (0 + i) p.2 HFI.out ?_); intro vl hvl; obtain ⟨Al, cl, rfl, hcl, hCl⟩ := Kd.R_reads hvl; have HCL := Aside0.mk hcl; have HVL := Aside0.mk hCl; clear hvl hcl hCl)
      refine (sets_Has.calls k Al cl p.2 a0 t1 t2 _ HVL.out HCL.out HT.out (HG_.out.below ((HB3.out.trans (HB.out.mono HB3.out.size)))) ).mono ?_
      rintro e w5 ⟨rfl, hb⟩
      have HB5 := Aside0.mk (below_step HB.out hb)
      have HR5 := Aside0.mk (Kd.R_below HR.out hb)
      clear hb HR HB HMr HCr HVL
      cases t1 with
      | false =>
        go_wp2_with fail
        go_roundw
        case rel => exact ⟨i + 1, acc, by have := HL.out; omega, rfl, by have := HACC.out; omega, HR5, HB5, by simpa using HF2⟩
        case measure => have := HL.out; simp only [intOf]; omega
      | true =>
        go_wp2_with ((with_reducible refine gate_builtin (b := .append) (xs := #[.tmp 27, .tmp 29]) rfl ?_); at_builtin; refine Kd.R_append Kd.string (w0 := w3) w3.heap.size rfl (.tmp 27) (.tmp 29) 57 9 (.string ByteArray.empty) 16 rfl Tryd.underlying57 (by kernel_rfl) rfl (by decide) (by omega) _ acc p.1 [.string p.1] (fun _ => True) (fun _ => False) rfl rfl rfl (fun _ hk => hk.elim) (fun _ _ => trivial) HR5.out HB5.out HB5.out.size (by have := HACC.out; have := HI.out; omega) ?_; intro v6 w6 ho hb hg hat; have HR6 := Aside0.mk ho; have HB6 := Aside0.mk hb; clear ho hb hg hat)
        go_roundw
        case rel => exact ⟨i + 1, acc ++ [p.1], by have := HL.out; omega, rfl, by have := HACC.out; simp; omega, HR6, HB6, by simpa using HF2⟩
        case measure => have := HL.out; simp only [intOf]; omega
    · obtain rfl : i = 20 := by omega
      have hF := HF.out
      rw [List.drop_of_length_le (by have := HLEN.out.2; omega), named_Of.go] at hF
      obtain rfl := Option.some.inj hF
      clear hF hi hl hacc
      go_wp2_with fail
      go_ret
      exact ⟨_, rfl, Kd.R_lower HR.out HB3.out.size, HB3.out.trans (HB.out.mono HB3.out.size)⟩

end Go.Proofs.YtoonmdkcacafeaaDoor.XN
