/- WRITTEN BY A PROGRAM OF THIS SESSION (wip/tools/xprint.py, over the kit's printer): contracts of the functions that the seat's laws reach. -/
import Derived.Test.YtcpjflgiimjfmaaDoorXC0
import Derived.Test.YtcpjflgiimjfmaaDoorXC6
import Derived.Test.YtcpjflgiimjfmaaDoorXC7
namespace Go.Proofs.YtcpjflgiimjfmaaDoor.XC
open Go.RowKit Go.Proofs.YtcpjflgiimjfmaaDoorW.PrintWords Go.Proofs.YtcpjflgiimjfmaaDoorW.PrintLast Go.Proofs.YtcpjflgiimjfmaaDoorW.PrintMore
attribute [local go_sem] max2_int min2_int max_two min_two max_three min_three max_four min_four   -- for this text's walks alone
set_option linter.unusedVariables false
set_option linter.unusedSimpArgs false

/-! ### sets_check: function 31 -/
def sets_check.l0 : Nat → List (List (S41)) → Int → Int → Option (Int)
  | 0, _, _, _ => none
  | k + 1, x5, x6, x7 => if x7 < x6 then (if 0 ≤ x7 then (if x7 < (x5.length : Int) then ((sets_Check.f k (rd_L5 x5 x7)).bind fun t162 => (if t162 = 0 then (sets_check.l0 k x5 x6 (wrap64 (x7 + 1))) else (some 1))) else (none)) else (none)) else (some 0)
def sets_check.f (k : Nat) (l0 : List (List (S41))) : Option (Int) := sets_check.l0 k l0 (l0.length : Int) 0
theorem sets_check.mono_l : ∀ k, (∀ y0 y1 y2, LeO (sets_check.l0 k y0 y1 y2) (sets_check.l0 (k + 1) y0 y1 y2))
  | 0 => fun _ _ _ r h => by simp [sets_check.l0] at h
  | k + 1 => by
    have ih0 := sets_check.mono_l k
    · intro y0 y1 y2
      unfold sets_check.l0
      repeat' first
      | (with_reducible exact ih0 _ _ _)
      | (with_reducible exact sets_Check.mono _ _)
      | (with_reducible exact LeO.refl _)
      | (with_reducible exact LeO.none _)
      | (with_reducible refine LeO.ite ?_ ?_)
      | (with_reducible refine LeO.bind ?_ (fun _ => ?_))
      | exact ih0 _ _ _
      | exact sets_Check.mono _ _
      | exact LeO.none _
      | refine LeO.ite ?_ ?_
      | refine LeO.bind ?_ (fun _ => ?_)
theorem sets_check.mono : ∀ a0 k, LeO (sets_check.f k a0) (sets_check.f (k + 1) a0) := by
  intro a0 k
  have ih0 := sets_check.mono_l k
  unfold sets_check.f
  repeat' first
      | (with_reducible exact ih0 _ _ _)
      | (with_reducible exact sets_Check.mono _ _)
      | (with_reducible exact LeO.refl _)
      | (with_reducible exact LeO.none _)
      | (with_reducible refine LeO.ite ?_ ?_)
      | (with_reducible refine LeO.bind ?_ (fun _ => ?_))
      | exact ih0 _ _ _
      | exact sets_Check.mono _ _
      | exact LeO.none _
      | refine LeO.ite ?_ ?_
      | refine LeO.bind ?_ (fun _ => ?_)
set_option maxHeartbeats 8000000 in
set_option maxRecDepth 100000 in
theorem sets_check.calls (k : Nat) (A0 : Option Addr) (c0 : Nat) (l0 : List (List (S41))) (r : Int) (w : World) (hr0 : Kd.C (Kd.slice 41 k41) w A0 l0.length l0) (hc0 : l0.length ≤ c0) (h : sets_check.f k l0 = some r) (hG : GOK w := by first | (with_reducible exact HG_.out) | exact GOK.below HG_.out (by repeat (first | (with_reducible exact Below.refl _ _) | (with_reducible first | exact HB.out | apply below_alloc | apply pw_below_drewN | apply below_drew1 | refine below_set ?_ (Aside0.out (by assumption))) | exact HB.out)) | exact GOK.drewN HG_.out _ | exact GOK.drewN (GOK.drewN HG_.out _) _ | exact GOK.drew HG_.out) :
    Calls Tryd.prog 31 #[.slice A0 l0.length c0] w fun e w' => e = .returned (.int .i64 r) ∧ Below w.heap.size w w' := by
  have HG_ := Aside0.mk hG
  clear hG
  have HR0 := Aside0.mk hr0
  have HC0 := Aside0.mk hc0
  clear hr0 hc0
  have HB := Aside0.mk (Below.refl w.heap.size w)
  have H : (sets_check.l0 k l0 (l0.length : Int) 0) = some r := h
  clear h
  have H' := Aside0.mk H
  clear H
  go_enter Tryd.func31, Tryd.ntmps31
  go_wp2
  go_loopg [7] k (fun kq v7 w' => ∃ (x7_1 : Int), v7 = .int .i64 x7_1 ∧ Aside0 (sets_check.l0 kq l0 (l0.length : Int) x7_1 = some r) ∧ Aside0 (kq ≤ k) ∧ Aside0 (Below w.heap.size w w'))
  case atStart => exact ⟨(0), (by first | rfl | (simp; done) | (simp [*]; done)), H', ⟨Nat.le_refl _⟩, ⟨by repeat (first | (with_reducible first | exact HB.out | apply below_alloc | apply pw_below_drewN | apply below_drew1) | exact HB.out)⟩⟩
  case round =>
    clear H'
    obtain ⟨x7_1, rfl, HA, HK1, HB⟩ := hrel
    cases gk with
    | zero => exact absurd HA.out (by simp [sets_check.l0])
    | succ k1 =>
      have H := HA.out
      clear HA
      simp only [sets_check.l0] at H
      by_cases c2 : x7_1 < (l0.length : Int)
      · rw [if_pos c2] at H
        have c2b0 : decide (x7_1 < (l0.length : Int)) = true := decide_eq_true c2
        clear c2
        by_cases c3 : 0 ≤ x7_1
        · rw [if_pos c3] at H
          have c3b0 : decide (0 ≤ x7_1) = true := decide_eq_true c3
          clear c3
          by_cases c4 : x7_1 < (l0.length : Int)
          · rw [if_pos c4] at H
            have c4b0 : decide (x7_1 < (l0.length : Int)) = true := decide_eq_true c4
            clear c4
            replace H := Option.bind_eq_some_iff.mp H
            obtain ⟨t162, A50, H⟩ := H
            replace H : (if t162 = 0 then (sets_check.l0 k1 l0 (l0.length : Int) (wrap64 (x7_1 + 1))) else (some 1)) = some r := H
            have A5 := Aside0.mk A50
            clear A50
            by_cases c6 : t162 = 0
            · rw [if_pos c6] at H
              have c6b0 : (t162 == 0) = true := beq_iff_eq.mpr c6
              have c6b1 : (t162 != 0) = false := bne_eq_false_iff_eq.mpr c6
              clear c6
              have H' := Aside0.mk H
              clear H
              have p161 : 0 ≤ (x7_1 : Int) := of_decide_eq_true (by first | (with_reducible assumption) | assumption)
              have q161 : x7_1 < (l0.length : Int) := of_decide_eq_true (by first | (with_reducible assumption) | assumption)
              obtain ⟨ad161, A161_0, c161_0, e161, hx161_0, hl161_0, hi161_0⟩ := at_L5 HR0.out x7_1 p161 q161
              cases e161
              replace hx161_0 := (HB.out.cell (World.block_lt_of_cell? w _ hx161_0)).trans hx161_0
              have HR161_0 := Aside0.mk hi161_0
              have HC161_0 := Aside0.mk hl161_0
              clear hi161_0 hl161_0
              replace p161 := eq_true p161
              replace q161 := eq_true q161
              go_wp2_with (first | ((with_reducible refine gate_callee (f := 10) rfl ?_); refine goesL_ (some 12) rfl rfl Tryd.func10 (by kernel_rfl) rfl #[.slice A161_0 (rd_L5 l0 x7_1).length c161_0] rfl (by (try simp only [List.map_toArray, List.map_cons, List.map_nil]); first | done | rfl | (simp only [List.length_drop, List.length_take]; rfl)) ?_; (with_reducible refine (sets_Check.calls k1 _ _ (rd_L5 l0 x7_1) t162 _ ?side1 ?side2 A5.out).mono ?_); (case side1 => repeat (first | exact (Kd.C_below HR161_0.out HB.out) | (with_reducible refine Kd.C_alloc ?_ _) | (with_reducible refine Kd.C_drewN ?_ _) | (with_reducible refine Kd.C_drew ?_))); (case side2 => exact HC161_0.out); rintro e w7 ⟨rfl, hb⟩; refine ⟨_, rfl, ?_⟩; have n0_ := Aside0.mk (below_step (by repeat (first | (with_reducible first | exact HB.out | apply below_alloc | apply pw_below_drewN | apply below_drew1) | exact HB.out)) hb); clear HB; have HB := n0_; clear n0_; (try clear hb); (try clear hb2); (try clear hk); (try clear hi)))
              go_roundg k1
              case measure => have := HK1.out; omega
              case rel => exact ⟨(wrap64 (x7_1 + 1)), (by first | rfl | (simp; done) | (simp [*]; done)), H', ⟨by have := HK1.out; omega⟩, ⟨by repeat (first | (with_reducible first | exact HB.out | apply below_alloc | apply pw_below_drewN | apply below_drew1) | exact HB.out)⟩⟩
            · rw [if_neg c6] at H
              have c6b0 : (t162 == 0) = false := beq_eq_false_iff_ne.mpr c6
              have c6b1 : (t162 != 0) = true := bne_iff_ne.mpr c6
              obtain rfl := Option.some.inj H
              have p161 : 0 ≤ (x7_1 : Int) := of_decide_eq_true (by first | (with_reducible assumption) | assumption)
              have q161 : x7_1 < (l0.length : Int) := of_decide_eq_true (by first | (with_reducible assumption) | assumption)
              obtain ⟨ad161, A161_0, c161_0, e161, hx161_0, hl161_0, hi161_0⟩ := at_L5 HR0.out x7_1 p161 q161
              cases e161
              replace hx161_0 := (HB.out.cell (World.block_lt_of_cell? w _ hx161_0)).trans hx161_0
              have HR161_0 := Aside0.mk hi161_0
              have HC161_0 := Aside0.mk hl161_0
              clear hi161_0 hl161_0
              replace p161 := eq_true p161
              replace q161 := eq_true q161
              go_wp2_with (first | ((with_reducible refine gate_callee (f := 10) rfl ?_); refine goesL_ (some 12) rfl rfl Tryd.func10 (by kernel_rfl) rfl #[.slice A161_0 (rd_L5 l0 x7_1).length c161_0] rfl (by (try simp only [List.map_toArray, List.map_cons, List.map_nil]); first | done | rfl | (simp only [List.length_drop, List.length_take]; rfl)) ?_; (with_reducible refine (sets_Check.calls k1 _ _ (rd_L5 l0 x7_1) t162 _ ?side1 ?side2 A5.out).mono ?_); (case side1 => repeat (first | exact (Kd.C_below HR161_0.out HB.out) | (with_reducible refine Kd.C_alloc ?_ _) | (with_reducible refine Kd.C_drewN ?_ _) | (with_reducible refine Kd.C_drew ?_))); (case side2 => exact HC161_0.out); rintro e w8 ⟨rfl, hb⟩; refine ⟨_, rfl, ?_⟩; have n0_ := Aside0.mk (below_step (by repeat (first | (with_reducible first | exact HB.out | apply below_alloc | apply pw_below_drewN | apply below_drew1) | exact HB.out)) hb); clear HB; have HB := n0_; clear n0_; (try clear hb); (try clear hb2); (try clear hk); (try clear hi)))
              go_ret
              exact ⟨by first | rfl | (simp [errW_none, errW_some] <;> rfl) | (simp [*, errW_none, errW_some] <;> rfl), by repeat (first | (with_reducible first | exact HB.out | apply below_alloc | apply pw_below_drewN | apply below_drew1) | exact HB.out)⟩
          · rw [if_neg c4] at H
            exact absurd H (by simp)
        · rw [if_neg c3] at H
          exact absurd H (by simp)
      · rw [if_neg c2] at H
        have c2b0 : decide (x7_1 < (l0.length : Int)) = false := decide_eq_false c2
        clear c2
        obtain rfl := Option.some.inj H
        go_wp2
        go_ret
        exact ⟨by first | rfl | (simp [errW_none, errW_some] <;> rfl) | (simp [*, errW_none, errW_some] <;> rfl), by repeat (first | (with_reducible first | exact HB.out | apply below_alloc | apply pw_below_drewN | apply below_drew1) | exact HB.out)⟩

-- NOT PRINTED: function 57 (api_Range_57)

/-! ### slices_Concat_Range: function 33 -/
namespace CC
abbrev CcR := S41
theorem cc_w64n {n : Nat} (h : n < 8796093022208) : wrap64 (n : Int) = (n : Int) := by unfold wrap64; omega
theorem cc_lim {n : Nat} (h : n < 8796093022208) : (([] : List CcR).length + (n : Int).toNat) * 8 ≤ 140737488355328 := by simp; omega
set_option maxHeartbeats 4000000 in
set_option maxRecDepth 100000 in
theorem cc_grow_nil (n : Nat) (hn : n < 8796093022208) (w : World) : Calls Tryd.prog 57 #[.slice none 0 0, .int .i64 (n : Int)] w fun e w' => ∃ v : Value, e = .returned v ∧ Kd.R k41 41 w' w.heap.size (fun _ => True) v [] ∧ Below w.heap.size w w' := by
  have h0 : ¬ ((n : Int) < 0) := by omega
  have hw := cc_w64n hn
  have HN := Aside0.mk hn
  have HW := Aside0.mk hw
  clear hn
  rcases Nat.eq_zero_or_pos n with rfl | hp
  · go_enter Tryd.func57, Tryd.ntmps57
    go_wp2_with fail
    go_ret
    exact ⟨_, rfl, Kd.R_nil _ _ _ _ _, Below.refl _ _⟩
  · have hp2 : (0 : Int) < (n : Int) := by omega
    go_enter Tryd.func57, Tryd.ntmps57
    go_wp2_with (at_builtin; refine Kd.R_append_zeros k41 (w0 := w) (W := w) w.heap.size rfl (.tmp 20) (.tmp 21) 24 3 41 (.agg #[.int .i32 0, .int .i32 0]) 8 rfl Tryd.underlying24 (k := .i64) Tryd.underlying3 (by kernel_rfl) rfl (by decide) (by decide) (.slice none 0 0) [] ⟨0, 0⟩ (kx := .i64) (wrap64 (n : Int)) (fun _ => True) rfl rfl (k41_mkM _ _ _ (⟨0, 0⟩ : CcR)) (fun _ _ => trivial) (Kd.R_nil _ _ _ _ _) (by rw [HW.out]; exact Int.natCast_nonneg n) (Below.refl _ _) (Nat.le_refl _) (by rw [HW.out]; exact cc_lim HN.out) ?_; intro v1 w1 hr hb hg hat; obtain ⟨A1, c1, hs1⟩ := Kd.R_slice hr; subst hs1; have HT := Aside0.mk (Kd.R_take hr (m := 0) (Nat.zero_le _)); have HB := Aside0.mk hb; clear hr hb hg hat)
    go_ret
    exact ⟨_, rfl, HT.out, HB.out⟩
theorem cc_flat_succ (l : List (List CcR)) (i : Nat) (h : i < l.length) : (l.take (i + 1)).flatten = (l.take i).flatten ++ l[i] := by
  rw [List.take_succ_eq_append_getElem h, List.flatten_append]
  simp
theorem cc_at_list {w : World} {A : Option Addr} {n : Nat} {l : List (List CcR)} (h : Kd.C (Kd.slice 41 k41) w A n l) (i : Nat) (hi : i < l.length) : ∃ ad A1 c1, A = some ad ∧ w.cell? (ad.add i) = some (.slice A1 (l[i].length) c1) ∧ Kd.C k41 w A1 l[i].length l[i] := by
  have hl := h.1
  obtain ⟨ad, rfl, h3⟩ := h.2.2 (by omega)
  obtain ⟨cs, _, ⟨A1, c1, rfl, _, hC⟩, hcc⟩ := h3 i l[i] (List.getElem?_eq_getElem hi)
  have h2 := hcc 0 _ rfl
  rw [show (Kd.slice 41 k41).sz = 1 from rfl, Nat.mul_one, Nat.add_zero] at h2
  exact ⟨ad, A1, c1, rfl, h2, hC⟩
theorem cc_flat_le (l : List (List CcR)) (i : Nat) : (l.take i).flatten.length ≤ l.flatten.length := by
  conv => rhs; rw [← List.take_append_drop i l]
  rw [List.flatten_append, List.length_append]
  omega
theorem cc_wrap_s {i : Nat} (h : i < 1000) : wrap64 ((i : Int) + 1) = ((i + 1 : Nat) : Int) := by unfold wrap64; omega
theorem cc_meas {i k : Nat} (h : i < k) : k - ((i + 1 : Nat) : Int).toNat < k - ((i : Nat) : Int).toNat := by omega
theorem cc_eq_of {i k : Nat} (h : i ≤ k) (h1 : ¬ i < k) : i = k := by omega
theorem cc_sum_ok {a b c : Nat} (h : a + b ≤ c) (hc : c < 8796093022208) : wrap64 ((a : Int) + (b : Int)) = ((a + b : Nat) : Int) ∧ ¬ (((a + b : Nat) : Int) < 0) ∧ (a + b) * 8 ≤ 140737488355328 := by
  refine ⟨?_, by omega, by omega⟩
  unfold wrap64
  omega
def ccSz (l : List (List CcR)) (i : Nat) : Nat := (l.take i).flatten.length
theorem cc_sz (l : List (List CcR)) (i : Nat) (h : i < l.length) : ccSz l i + l[i].length = ccSz l (i + 1) ∧ ccSz l (i + 1) ≤ l.flatten.length := by
  have h1 := cc_flat_succ l i h
  have h2 := cc_flat_le l (i + 1)
  unfold ccSz
  refine ⟨?_, h2⟩
  rw [h1, List.length_append]
end CC
def slices_Concat_Range.f (l0 : List (List S41)) : Option (List S41) := if l0.length < 1000 then (if l0.flatten.length < 8796093022208 then some l0.flatten else none) else none
set_option maxHeartbeats 8000000 in
set_option maxRecDepth 100000 in
theorem slices_Concat_Range.calls (A0 : Option Addr) (c0 : Nat) (l0 : List (List S41)) (r : List S41) (w : World) (hr0 : Kd.C (Kd.slice 41 k41) w A0 l0.length l0) (hc0 : l0.length ≤ c0) (h : slices_Concat_Range.f l0 = some r) :
    Calls Tryd.prog 33 #[.slice A0 l0.length c0] w fun e w' => ∃ v0_ : Value, e = .returned (v0_) ∧ Kd.R k41 41 w' w.heap.size (fun _ => True) v0_ r ∧ Below w.heap.size w w' := by
  unfold slices_Concat_Range.f at h
  split at h
  case isFalse => cases h
  case isTrue hn =>
  split at h
  case isFalse => cases h
  case isTrue hfl =>
  injection h with h
  subst h
  have HC := Aside0.mk hr0
  have HN := Aside0.mk hn
  have HFL := Aside0.mk hfl
  clear hr0 hc0 hn hfl
  go_enter Tryd.func33, Tryd.ntmps33
  go_wp2_with fail
  go_loopw [3, 11] (fun v3 v11 wr => ∃ i : Nat, i ≤ l0.length ∧ v11 = .int .i64 (i : Int) ∧ v3 = .int .i64 ((CC.ccSz l0 i : Nat) : Int) ∧ wr = w) (fun _ v11 _ => l0.length - (intOf v11).toNat)
  case atStart => exact ⟨0, Nat.zero_le _, rfl, rfl, rfl⟩
  case round =>
    obtain ⟨i, hi, rfl, rfl, hwr⟩ := hrel
    obtain rfl := hwr.symm
    by_cases hlt : i < l0.length
    · have hlt2 : (i : Int) < (l0.length : Int) := Int.ofNat_lt.2 hlt
      obtain ⟨ad, A1, c1, e1, hx, _⟩ := CC.cc_at_list HC.out i hlt
      subst e1
      obtain ⟨z1, z2⟩ := CC.cc_sz l0 i hlt
      generalize l0[i].length = m at hx z1
      obtain ⟨s1, s2, _⟩ := CC.cc_sum_ok (a := CC.ccSz l0 i) (b := m) (by rw [z1]; exact z2) HFL.out
      have HLT := Aside0.mk hlt
      have HZ := Aside0.mk z1
      clear hi z1 z2
      go_wp2_with fail
      go_roundw
      case measure =>
        show l0.length - (intOf (.int .i64 (wrap64 ((i : Int) + 1)))).toNat < l0.length - (intOf (.int .i64 (i : Int))).toNat
        rw [CC.cc_wrap_s (Nat.lt_trans HLT.out HN.out)]
        exact CC.cc_meas HLT.out
      case rel =>
        try rw [CC.cc_wrap_s (Nat.lt_trans HLT.out HN.out)]
        try rw [s1]
        exact ⟨i + 1, HLT.out, rfl, by rw [← HZ.out, Int.natCast_add], by first | rfl | trivial⟩
    · obtain rfl : i = l0.length := CC.cc_eq_of hi hlt
      obtain ⟨Z, hZ⟩ : ∃ Z, CC.ccSz l0 l0.length = Z := ⟨_, rfl⟩
      have HZ : Aside0 (Z < 8796093022208) := ⟨by have := HFL.out; rw [← hZ]; unfold CC.ccSz; rwa [List.take_length]⟩
      have hlt2 : ¬ ((l0.length : Int) < (l0.length : Int)) := Int.lt_irrefl _
      clear hi hlt
      rw [hZ]
      clear hZ
      go_wp2_with fail
      refine (CC.cc_grow_nil Z HZ.out w).mono ?_
      rintro e w1 ⟨v1, rfl, hr, hb⟩
      have HR := Aside0.mk hr
      have HB := Aside0.mk hb
      clear hr hb
      go_wp2_with fail
      go_loopw [6, 27] (fun v6 v27 w2 => ∃ i : Nat, i ≤ l0.length ∧ v27 = .int .i64 (i : Int) ∧ Aside0 (Kd.R k41 41 w2 w.heap.size (fun _ => True) v6 ((l0.take i).flatten)) ∧ Aside0 (Below w.heap.size w w2)) (fun _ v27 _ => l0.length - (intOf v27).toNat)
      case atStart => exact ⟨0, Nat.zero_le _, rfl, HR, HB⟩
      case round =>
        clear HR HB
        obtain ⟨i, hi, rfl, HR, HB⟩ := hrel
        obtain ⟨A6, c6, hs6⟩ := Kd.R_slice HR.out
        subst hs6
        by_cases hlt : i < l0.length
        · have hlt2 : (i : Int) < (l0.length : Int) := Int.ofNat_lt.2 hlt
          obtain ⟨ad, A1, c1, e1, hx, hC1⟩ := CC.cc_at_list HC.out i hlt
          subst e1
          replace hx := (HB.out.cell (World.block_lt_of_cell? w _ hx)).trans hx
          have HC1 := Aside0.mk (Kd.C_below hC1 HB.out)
          obtain ⟨z1, z2⟩ := CC.cc_sz l0 i hlt
          have HFS := Aside0.mk (CC.cc_flat_succ l0 i hlt)
          have HLT := Aside0.mk hlt
          have HLM := Aside0.mk (CC.cc_sum_ok (a := CC.ccSz l0 i) (b := l0[i].length) (by rw [z1]; exact z2) HFL.out).2.2
          unfold CC.ccSz at HLM
          clear hi z1 z2 hC1
          generalize l0[i] = y at hx HC1 HFS HLM
          generalize (l0.take i).flatten = X at HR HFS HLM ⊢
          clear hlt
          obtain ⟨m, hm⟩ : ∃ m, m = y.length := ⟨_, rfl⟩
          rw [← hm] at hx HC1 HLM
          obtain ⟨q, hq⟩ : ∃ q, q = X.length := ⟨_, rfl⟩
          rw [← hq] at HR ⊢
          have HQ := Aside0.mk hq
          clear hm hq
          go_wp2_with ((with_reducible refine gate_builtin (b := .append) (xs := #[.tmp 31, .tmp 32]) rfl ?_); at_builtin; refine Kd.R_append_rows k41 (w0 := w) (W := wr) w.heap.size rfl (.tmp 31) (.tmp 32) 24 41 (.agg #[.int .i32 0, .int .i32 0]) 8 rfl Tryd.underlying24 (by kernel_rfl) rfl (by decide) (by decide) (.slice A6 q c6) X y A1 m c1 (fun _ => True) (fun _ => False) rfl rfl HR.out HC1.out (fun x cs h => by obtain rfl := k41_open h; exact k41_mkM _ _ _ x) (fun _ h => h.elim) (fun _ _ => trivial) HB.out HB.out.size HLM.out ?_; intro v7 w7 hr7 hb7 hg7 hat7; rw [← HFS.out] at hr7; have HR7 := Aside0.mk hr7; have HB7 := Aside0.mk hb7; clear hr7 hb7 hg7 hat7)
          go_roundw
          case measure =>
            show l0.length - (intOf (.int .i64 (wrap64 ((i : Int) + 1)))).toNat < l0.length - (intOf (.int .i64 (i : Int))).toNat
            rw [CC.cc_wrap_s (Nat.lt_trans HLT.out HN.out)]
            exact CC.cc_meas HLT.out
          case rel =>
            try rw [CC.cc_wrap_s (Nat.lt_trans HLT.out HN.out)]
            exact ⟨i + 1, HLT.out, rfl, HR7, HB7⟩
        · obtain rfl : i = l0.length := CC.cc_eq_of hi hlt
          have hlt2 : ¬ ((l0.length : Int) < (l0.length : Int)) := Int.lt_irrefl _
          have hr8 := HR.out
          generalize (l0.take l0.length).flatten.length = q at hr8 ⊢
          rw [List.take_length] at hr8
          have HR8 := Aside0.mk hr8
          clear hr8
          clear hi hlt HR
          go_wp2_with fail
          go_ret
          exact ⟨_, rfl, HR8.out, HB.out⟩

/-! ### sets_Or: function 13 -/
def sets_Or.f (k : Nat) (l0 : List (S41)) (l1 : List (S41)) : Option ((List (S41)) × Int) := (sets_check.f k (([l0, l1] : List (List (S41))))).bind fun t166 => (if t166 = 0 then ((slices_Concat_Range.f (([l0, l1] : List (List (S41))))).bind fun t170 => ((sets_gather.f k t170).bind fun t173 => (some (t173, 0)))) else (some (([] : List (S41)), t166)))
theorem sets_Or.mono : ∀ a0 a1 k, LeO (sets_Or.f k a0 a1) (sets_Or.f (k + 1) a0 a1) := by
  intro a0 a1 k
  unfold sets_Or.f
  repeat' first
      | (with_reducible exact sets_check.mono _ _)
      | (with_reducible exact sets_gather.mono _ _)
      | (with_reducible exact LeO.refl _)
      | (with_reducible exact LeO.none _)
      | (with_reducible refine LeO.ite ?_ ?_)
      | (with_reducible refine LeO.bind ?_ (fun _ => ?_))
      | exact sets_check.mono _ _
      | exact sets_gather.mono _ _
      | exact LeO.none _
      | refine LeO.ite ?_ ?_
      | refine LeO.bind ?_ (fun _ => ?_)
set_option maxHeartbeats 8000000 in
set_option maxRecDepth 100000 in
theorem sets_Or.calls (k : Nat) (P0_ : Nat → Prop) (A0 : Option Addr) (c0 : Nat) (l0 : List (S41)) (P1_ : Nat → Prop) (A1 : Option Addr) (c1 : Nat) (l1 : List (S41)) (r1 : List (S41)) (r2 : Int) (w : World) (hs0 : Kd.V k41 41 w w.heap.size (fun k_ => P0_ k_) (.slice A0 l0.length c0) l0) (hs1 : Kd.V k41 41 w w.heap.size (fun k_ => P1_ k_) (.slice A1 l1.length c1) l1) (h : sets_Or.f k l0 l1 = some (r1, r2)) (hG : GOK w := by first | (with_reducible exact HG_.out) | exact GOK.below HG_.out (by repeat (first | (with_reducible exact Below.refl _ _) | (with_reducible first | exact HB.out | apply below_alloc | apply pw_below_drewN | apply below_drew1 | refine below_set ?_ (Aside0.out (by assumption))) | exact HB.out)) | exact GOK.drewN HG_.out _ | exact GOK.drewN (GOK.drewN HG_.out _) _ | exact GOK.drew HG_.out) :
    Calls Tryd.prog 13 #[.slice A0 l0.length c0, .slice A1 l1.length c1] w fun e w' => ∃ v0_ : Value, e = .returned (.tuple #[v0_, .int .i64 r2]) ∧ Kd.R k41 41 w' w.heap.size (fun k_ => (w.heap.size ≤ k_)) v0_ r1 ∧ Below w.heap.size w w' := by
  have HG_ := Aside0.mk hG
  clear hG
  have HO0 := Aside0.mk (show Kd.V k41 41 w w.heap.size (fun k_ => ((P0_ k_ ∨ P1_ k_) ∨ w.heap.size ≤ k_)) (.slice A0 l0.length c0) l0 from Kd.V_mono hs0 (fun k_ hk => .inl (.inl hk)))
  have HO1 := Aside0.mk (show Kd.V k41 41 w w.heap.size (fun k_ => ((P0_ k_ ∨ P1_ k_) ∨ w.heap.size ≤ k_)) (.slice A1 l1.length c1) l1 from Kd.V_mono hs1 (fun k_ hk => .inl (.inr hk)))
  have HB := Aside0.mk (Below.refl w.heap.size w)
  have H : ((sets_check.f k (([l0, l1] : List (List (S41))))).bind fun t166 => (if t166 = 0 then ((slices_Concat_Range.f (([l0, l1] : List (List (S41))))).bind fun t170 => ((sets_gather.f k t170).bind fun t173 => (some (t173, 0)))) else (some (([] : List (S41)), t166)))) = some (r1, r2) := h
  clear h
  obtain ⟨y163, hy163⟩ : ∃ y_ : List (List (S41)), y_ = (([l0, l1] : List (List (S41)))) := ⟨_, rfl⟩
  replace H : ((sets_check.f k y163).bind fun t166 => (if t166 = 0 then ((slices_Concat_Range.f (([l0, l1] : List (List (S41))))).bind fun t170 => ((sets_gather.f k t170).bind fun t173 => (some (t173, 0)))) else (some (([] : List (S41)), t166)))) = some (r1, r2) := by first | (rw [hy163]; with_reducible exact H) | (have H2_ := (Option.bind_some _ _).symm.trans H; rw [hy163]; with_reducible exact H2_) | (have H2_ := (Option.bind_some _ _).symm.trans H; with_reducible exact H2_) | with_reducible exact H | (rw [hy163]; exact H) | exact H
  have Ny163 := Aside0.mk hy163
  clear hy163
  replace H := Option.bind_eq_some_iff.mp H
  obtain ⟨t166, A30, H⟩ := H
  replace H : (if t166 = 0 then ((slices_Concat_Range.f (([l0, l1] : List (List (S41))))).bind fun t170 => ((sets_gather.f k t170).bind fun t173 => (some (t173, 0)))) else (some (([] : List (S41)), t166))) = some (r1, r2) := H
  have A3 := Aside0.mk A30
  clear A30
  by_cases c4 : t166 = 0
  · rw [if_pos c4] at H
    have c4b0 : (t166 == 0) = true := beq_iff_eq.mpr c4
    have c4b1 : (t166 != 0) = false := bne_eq_false_iff_eq.mpr c4
    clear c4
    obtain ⟨y167, hy167⟩ : ∃ y_ : List (List (S41)), y_ = (([l0, l1] : List (List (S41)))) := ⟨_, rfl⟩
    replace H : ((slices_Concat_Range.f y167).bind fun t170 => ((sets_gather.f k t170).bind fun t173 => (some (t173, 0)))) = some (r1, r2) := by first | (rw [hy167]; with_reducible exact H) | (have H2_ := (Option.bind_some _ _).symm.trans H; rw [hy167]; with_reducible exact H2_) | (have H2_ := (Option.bind_some _ _).symm.trans H; with_reducible exact H2_) | with_reducible exact H | (rw [hy167]; exact H) | exact H
    have Ny167 := Aside0.mk hy167
    clear hy167
    replace H := Option.bind_eq_some_iff.mp H
    obtain ⟨t170, A50, H⟩ := H
    replace H : ((sets_gather.f k t170).bind fun t173 => (some (t173, 0))) = some (r1, r2) := H
    have A5 := Aside0.mk A50
    clear A50
    replace H := Option.bind_eq_some_iff.mp H
    obtain ⟨t173, A60, H⟩ := H
    replace H : (some (t173, 0)) = some (r1, r2) := H
    have A6 := Aside0.mk A60
    clear A60
    simp only [Option.some.injEq, Prod.mk.injEq] at H
    obtain ⟨rfl, rfl⟩ := H
    go_enter Tryd.func13, Tryd.ntmps13
    go_wp2_with (first | ((with_reducible refine gate_dst (N := 9) rfl ?_); refine Kd.N_lit (Kd.slice 41 k41) _ 24 ?hg (N' := 9) ?hd (xs := ([l0, l1] : List (List (S41)))) (inner := [.slice A0 l0.length c0, .slice A1 l1.length c1]) (ok := (fun k_ => ((P0_ k_ ∨ P1_ k_) ∨ w.heap.size ≤ k_))) (okp := (fun k_ => ((P0_ k_ ∨ P1_ k_) ∨ w.heap.size ≤ k_))) ?hr ?hp (fun _ hk => hk) ((show ∀ k_, w.heap.size ≤ k_ → (fun k_ => ((P0_ k_ ∨ P1_ k_) ∨ w.heap.size ≤ k_)) k_ from fun k_ hk => (.inr (Nat.le_trans (below_size (by repeat (first | (with_reducible first | exact HB.out | apply below_alloc | apply pw_below_drewN | apply below_drew1) | exact HB.out))) hk))) _ (Nat.le_refl _)) (Below.refl _ _) (Nat.le_refl _) (by simp) ?_; (case hd => rfl); (case hg => rfl); (case hr => first | (go_simp; done) | (go_simp; rfl)); (case hp => exact (Reps.one (show Kd.FK (Kd.slice 41 k41) _ _ l0 [.slice A0 l0.length c0] from (Kd.FK_slice_mk (Kd.V_reads' (Kd.V_mono (ok' := (fun k_ => ((P0_ k_ ∨ P1_ k_) ∨ w.heap.size ≤ k_))) (HO0.out) (fun k_ hk => hk))).2.1 (Kd.V_F (Kd.V_mono (ok' := (fun k_ => ((P0_ k_ ∨ P1_ k_) ∨ w.heap.size ≤ k_))) (HO0.out) (fun k_ hk => hk))))) (Reps.one (show Kd.FK (Kd.slice 41 k41) _ _ l1 [.slice A1 l1.length c1] from (Kd.FK_slice_mk (Kd.V_reads' (Kd.V_mono (ok' := (fun k_ => ((P0_ k_ ∨ P1_ k_) ∨ w.heap.size ≤ k_))) (HO1.out) (fun k_ hk => hk))).2.1 (Kd.V_F (Kd.V_mono (ok' := (fun k_ => ((P0_ k_ ∨ P1_ k_) ∨ w.heap.size ≤ k_))) (HO1.out) (fun k_ hk => hk))))) (Reps.none _ _)))); intro v164 w7 ho8 hb hg_ hnew_; clear hg_ hnew_; (first | rw [← Ny163.out] at ho8 | (simp only [Int.reduceToNat] at ho8; rw [← Ny163.out] at ho8)); have n0_ := Aside0.mk (Kd.V_elder' (by (with_reducible repeat (first | apply Kd.V_alloc | apply Kd.V_drewN | apply Kd.V_drew)); exact HO0.out) (Kd.N_base ho8) hb); have n1_ := Aside0.mk (Kd.V_elder' (by (with_reducible repeat (first | apply Kd.V_alloc | apply Kd.V_drewN | apply Kd.V_drew)); exact HO1.out) (Kd.N_base ho8) hb); have n2_ := Aside0.mk (Kd.N_lower ho8 (below_size (by repeat (first | (with_reducible first | exact HB.out | apply below_alloc | apply pw_below_drewN | apply below_drew1) | exact HB.out)))); have n3_ := Aside0.mk (below_step (by repeat (first | (with_reducible first | exact HB.out | apply below_alloc | apply pw_below_drewN | apply below_drew1) | exact HB.out)) hb); clear HO0; clear HO1; clear HB; have HO0 := n0_; have HO1 := n1_; have HO165 := n2_; have HB := n3_; clear n0_ n1_ n2_ n3_; clear hb ho8; obtain ⟨Ao9, co9, eo9⟩ := Kd.N_slice HO165.out; subst eo9) | ((with_reducible refine gate_callee (f := 31) rfl ?_); refine goesL_ (some 10) rfl rfl Tryd.func31 (by kernel_rfl) rfl #[.slice Ao9 y163.length co9] rfl (by (try simp only [List.map_toArray, List.map_cons, List.map_nil]); first | done | rfl | (simp only [List.length_drop, List.length_take]; rfl)) ?_; (with_reducible refine (sets_check.calls k _ _ y163 t166 _ ?side1 ?side2 A3.out).mono ?_); (case side1 => repeat (first | exact (Kd.N_reads' HO165.out).2.2 | (with_reducible refine Kd.C_alloc ?_ _) | (with_reducible refine Kd.C_drewN ?_ _) | (with_reducible refine Kd.C_drew ?_))); (case side2 => exact (Kd.N_reads' HO165.out).2.1); rintro e w10 ⟨rfl, hb⟩; refine ⟨_, rfl, ?_⟩; have n0_ := Aside0.mk (Kd.V_below (by (with_reducible repeat (first | apply Kd.V_alloc | apply Kd.V_drewN | apply Kd.V_drew)); exact HO0.out) hb); have n1_ := Aside0.mk (Kd.V_below (by (with_reducible repeat (first | apply Kd.V_alloc | apply Kd.V_drewN | apply Kd.V_drew)); exact HO1.out) hb); have n2_ := Aside0.mk (Kd.N_below (by (with_reducible repeat (first | apply Kd.N_alloc | apply Kd.N_drewN | apply Kd.N_drew)); exact HO165.out) hb); have n3_ := Aside0.mk (below_step (by repeat (first | (with_reducible first | exact HB.out | apply below_alloc | apply pw_below_drewN | apply below_drew1) | exact HB.out)) hb); clear HO0; clear HO1; clear HO165; clear HB; have HO0 := n0_; have HO1 := n1_; have HO165 := n2_; have HB := n3_; clear n0_ n1_ n2_ n3_; (try clear hb); (try clear hb2); (try clear hk); (try clear hi)) | ((with_reducible refine gate_dst (N := 16) rfl ?_); refine Kd.N_lit (Kd.slice 41 k41) _ 24 ?hg (N' := 16) ?hd (xs := ([l0, l1] : List (List (S41)))) (inner := [.slice A0 l0.length c0, .slice A1 l1.length c1]) (ok := (fun k_ => ((P0_ k_ ∨ P1_ k_) ∨ w.heap.size ≤ k_) ∧ some k_ ≠ (.slice Ao9 y163.length co9 : Value).ownBlock)) (okp := (fun k_ => ((P0_ k_ ∨ P1_ k_) ∨ w.heap.size ≤ k_) ∧ some k_ ≠ (.slice Ao9 y163.length co9 : Value).ownBlock)) ?hr ?hp (fun _ hk => hk) ((show ∀ k_, w10.heap.size ≤ k_ → (fun k_ => ((P0_ k_ ∨ P1_ k_) ∨ w.heap.size ≤ k_) ∧ some k_ ≠ (.slice Ao9 y163.length co9 : Value).ownBlock) k_ from fun k_ hk => ⟨(.inr (Nat.le_trans (below_size (by repeat (first | (with_reducible first | exact HB.out | apply below_alloc | apply pw_below_drewN | apply below_drew1) | exact HB.out))) hk)), Kd.fresh' (Kd.N_lt (by (with_reducible repeat (first | apply Kd.N_alloc | apply Kd.N_drewN | apply Kd.N_drew)); exact HO165.out)) k_ hk⟩) _ (Nat.le_refl _)) (Below.refl _ _) (Nat.le_refl _) (by simp) ?_; (case hd => rfl); (case hg => rfl); (case hr => first | (go_simp; done) | (go_simp; rfl)); (case hp => exact (Reps.one (show Kd.FK (Kd.slice 41 k41) _ _ l0 [.slice A0 l0.length c0] from (Kd.FK_slice_mk (Kd.V_reads' (Kd.V_mono (ok' := (fun k_ => ((P0_ k_ ∨ P1_ k_) ∨ w.heap.size ≤ k_) ∧ some k_ ≠ (.slice Ao9 y163.length co9 : Value).ownBlock)) (HO0.out) (fun k_ hk => ⟨hk.1, hk.2⟩))).2.1 (Kd.V_F (Kd.V_mono (ok' := (fun k_ => ((P0_ k_ ∨ P1_ k_) ∨ w.heap.size ≤ k_) ∧ some k_ ≠ (.slice Ao9 y163.length co9 : Value).ownBlock)) (HO0.out) (fun k_ hk => ⟨hk.1, hk.2⟩))))) (Reps.one (show Kd.FK (Kd.slice 41 k41) _ _ l1 [.slice A1 l1.length c1] from (Kd.FK_slice_mk (Kd.V_reads' (Kd.V_mono (ok' := (fun k_ => ((P0_ k_ ∨ P1_ k_) ∨ w.heap.size ≤ k_) ∧ some k_ ≠ (.slice Ao9 y163.length co9 : Value).ownBlock)) (HO1.out) (fun k_ hk => ⟨hk.1, hk.2⟩))).2.1 (Kd.V_F (Kd.V_mono (ok' := (fun k_ => ((P0_ k_ ∨ P1_ k_) ∨ w.heap.size ≤ k_) ∧ some k_ ≠ (.slice Ao9 y163.length co9 : Value).ownBlock)) (HO1.out) (fun k_ hk => ⟨hk.1, hk.2⟩))))) (Reps.none _ _)))); intro v168 w11 ho12 hb hg_ hnew_; clear hg_ hnew_; (first | rw [← Ny167.out] at ho12 | (simp only [Int.reduceToNat] at ho12; rw [← Ny167.out] at ho12)); have n0_ := Aside0.mk (Kd.V_elder' (by (with_reducible repeat (first | apply Kd.V_alloc | apply Kd.V_drewN | apply Kd.V_drew)); exact HO0.out) (Kd.N_base ho12) hb); have n1_ := Aside0.mk (Kd.V_elder' (by (with_reducible repeat (first | apply Kd.V_alloc | apply Kd.V_drewN | apply Kd.V_drew)); exact HO1.out) (Kd.N_base ho12) hb); have n2_ := Aside0.mk (Kd.N_elder' (by (with_reducible repeat (first | apply Kd.N_alloc | apply Kd.N_drewN | apply Kd.N_drew)); exact HO165.out) (Kd.N_base ho12) hb); have n3_ := Aside0.mk (Kd.N_lower ho12 (below_size (by repeat (first | (with_reducible first | exact HB.out | apply below_alloc | apply pw_below_drewN | apply below_drew1) | exact HB.out)))); have n4_ := Aside0.mk (below_step (by repeat (first | (with_reducible first | exact HB.out | apply below_alloc | apply pw_below_drewN | apply below_drew1) | exact HB.out)) hb); clear HO0; clear HO1; clear HO165; clear HB; have HO0 := n0_; have HO1 := n1_; have HO165 := n2_; have HO169 := n3_; have HB := n4_; clear n0_ n1_ n2_ n3_ n4_; clear hb ho12; obtain ⟨Ao13, co13, eo13⟩ := Kd.N_slice HO169.out; subst eo13) | ((with_reducible refine gate_callee (f := 33) rfl ?_); refine goesL_ (some 17) rfl rfl Tryd.func33 (by kernel_rfl) rfl #[.slice Ao13 y167.length co13] rfl (by (try simp only [List.map_toArray, List.map_cons, List.map_nil]); first | done | rfl | (simp only [List.length_drop, List.length_take]; rfl)) ?_; (with_reducible refine (slices_Concat_Range.calls _ _ y167 t170 _ ?side1 ?side2 A5.out).mono ?_); (case side1 => repeat (first | exact (Kd.N_reads' HO169.out).2.2 | (with_reducible refine Kd.C_alloc ?_ _) | (with_reducible refine Kd.C_drewN ?_ _) | (with_reducible refine Kd.C_drew ?_))); (case side2 => exact (Kd.N_reads' HO169.out).2.1); rintro e w14 ⟨v171, rfl, ho0, hb⟩; refine ⟨_, rfl, ?_⟩; have n0_ := Aside0.mk (Kd.V_elder' (by (with_reducible repeat (first | apply Kd.V_alloc | apply Kd.V_drewN | apply Kd.V_drew)); exact HO0.out) (Kd.R_base ho0) hb); have n1_ := Aside0.mk (Kd.V_elder' (by (with_reducible repeat (first | apply Kd.V_alloc | apply Kd.V_drewN | apply Kd.V_drew)); exact HO1.out) (Kd.R_base ho0) hb); have n2_ := Aside0.mk (Kd.N_elder' (by (with_reducible repeat (first | apply Kd.N_alloc | apply Kd.N_drewN | apply Kd.N_drew)); exact HO165.out) (Kd.R_base ho0) hb); have n3_ := Aside0.mk (Kd.N_elder' (by (with_reducible repeat (first | apply Kd.N_alloc | apply Kd.N_drewN | apply Kd.N_drew)); exact HO169.out) (Kd.R_base ho0) hb); have n4_ := Aside0.mk (Kd.R_lower (Kd.R_newM (M := fun k_ => (w.heap.size ≤ k_)) ho0 (below_size (by repeat (first | (with_reducible first | exact HB.out | apply below_alloc | apply pw_below_drewN | apply below_drew1) | exact HB.out))) (fun k_ h_ => h_)) (below_size (by repeat (first | (with_reducible first | exact HB.out | apply below_alloc | apply pw_below_drewN | apply below_drew1) | exact HB.out)))); have n5_ := Aside0.mk (below_step (by repeat (first | (with_reducible first | exact HB.out | apply below_alloc | apply pw_below_drewN | apply below_drew1) | exact HB.out)) hb); clear HO0; clear HO1; clear HO165; clear HO169; clear HB; have HO0 := n0_; have HO1 := n1_; have HO165 := n2_; have HO169 := n3_; have HO172 := n4_; have HB := n5_; clear n0_ n1_ n2_ n3_ n4_ n5_; (try clear hb); (try clear hb2); (try clear hk); (try clear hi); (try clear ho0); obtain ⟨Ao15, co15, eo15⟩ := Kd.R_slice HO172.out; subst eo15) | ((with_reducible refine gate_callee (f := 32) rfl ?_); refine goesL_ (some 18) rfl rfl Tryd.func32 (by kernel_rfl) rfl #[.slice Ao15 t170.length co15] rfl (by (try simp only [List.map_toArray, List.map_cons, List.map_nil]); first | done | rfl | (simp only [List.length_drop, List.length_take]; rfl)) ?_; (with_reducible refine (sets_gather.calls k (fun k_ => some k_ = (.slice Ao15 t170.length co15 : Value).ownBlock) (.slice Ao15 t170.length co15) t170 t173 w _ ?side1 ?side2 A6.out).mono ?_); (case side1 => repeat (first | (with_reducible first | exact HB.out | apply below_alloc | apply pw_below_drewN | apply below_drew1) | exact HB.out)); (case side2 => exact Kd.R_tight rfl HO172.out); rintro e w16 ⟨v174, rfl, ho0, hb, hkp⟩; refine ⟨_, rfl, ?_⟩; have n0_ := Aside0.mk (Kd.V_mono (ok' := fun k_ => ((P0_ k_ ∨ P1_ k_) ∨ w.heap.size ≤ k_) ∧ some k_ ≠ (.slice Ao9 y163.length co9 : Value).ownBlock ∧ some k_ ≠ (.slice Ao13 y167.length co13 : Value).ownBlock ∧ some k_ ≠ (v174 : Value).ownBlock) (Kd.V_keptB (HO0.out) hkp (fun k_ hk_ hs_ => (hk_.2) hs_)) (fun k_ hk_ => ⟨hk_.1.1.1.1, hk_.1.1.1.2, hk_.1.1.2, fun e_ => Or.elim (ho0.1 k_ e_.symm) (fun hs_ => hk_.2.1 hs_) (fun hn_ => Nat.not_le.2 hk_.2.2 hn_)⟩)); have n1_ := Aside0.mk (Kd.V_mono (ok' := fun k_ => ((P0_ k_ ∨ P1_ k_) ∨ w.heap.size ≤ k_) ∧ some k_ ≠ (.slice Ao9 y163.length co9 : Value).ownBlock ∧ some k_ ≠ (.slice Ao13 y167.length co13 : Value).ownBlock ∧ some k_ ≠ (v174 : Value).ownBlock) (Kd.V_keptB (HO1.out) hkp (fun k_ hk_ hs_ => (hk_.2) hs_)) (fun k_ hk_ => ⟨hk_.1.1.1.1, hk_.1.1.1.2, hk_.1.1.2, fun e_ => Or.elim (ho0.1 k_ e_.symm) (fun hs_ => hk_.2.1 hs_) (fun hn_ => Nat.not_le.2 hk_.2.2 hn_)⟩)); have n2_ := Aside0.mk (Kd.N_mono (ok' := fun k_ => ((P0_ k_ ∨ P1_ k_) ∨ w.heap.size ≤ k_) ∧ some k_ ≠ (.slice Ao13 y167.length co13 : Value).ownBlock ∧ some k_ ≠ (v174 : Value).ownBlock) (Kd.N_keptB (HO165.out) hkp (fun k_ hk_ hs_ => (hk_.2) hs_)) (fun k_ hk_ => ⟨hk_.1.1.1, hk_.1.1.2, fun e_ => Or.elim (ho0.1 k_ e_.symm) (fun hs_ => hk_.2.1 hs_) (fun hn_ => Nat.not_le.2 hk_.2.2 hn_)⟩)); have n3_ := Aside0.mk (Kd.N_mono (ok' := fun k_ => ((P0_ k_ ∨ P1_ k_) ∨ w.heap.size ≤ k_) ∧ some k_ ≠ (.slice Ao9 y163.length co9 : Value).ownBlock ∧ some k_ ≠ (v174 : Value).ownBlock) (Kd.N_keptB (HO169.out) hkp (fun k_ hk_ hs_ => (hk_.2) hs_)) (fun k_ hk_ => ⟨hk_.1.1.1, hk_.1.1.2, fun e_ => Or.elim (ho0.1 k_ e_.symm) (fun hs_ => hk_.2.1 hs_) (fun hn_ => Nat.not_le.2 hk_.2.2 hn_)⟩)); have n4_ := Aside0.mk (Kd.R_mono (ok' := fun k_ => (w.heap.size ≤ k_)) ho0 (fun k_ hk_ => Or.elim hk_ (fun hs_ => (HO172.out.1 k_ (hs_).symm).1) (fun hn_ => (Nat.le_trans (below_size (by repeat (first | (with_reducible first | exact HB.out | apply below_alloc | apply pw_below_drewN | apply below_drew1) | exact HB.out))) hn_)))); have n5_ := Aside0.mk (hb); clear HO0; clear HO1; clear HO165; clear HO169; clear HB; clear HO172; have HO0 := n0_; have HO1 := n1_; have HO165 := n2_; have HO169 := n3_; have HO175 := n4_; have HB := n5_; clear n0_ n1_ n2_ n3_ n4_ n5_; (try clear hb); (try clear hkp); (try clear ho0)))
    go_ret2
    exact ⟨_, by first | rfl | (simp [errW_none, errW_some] <;> rfl) | (simp [*, errW_none, errW_some] <;> rfl), by (with_reducible repeat (first | apply Kd.R_alloc | apply Kd.R_drewN | apply Kd.R_drew)); exact HO175.out, by repeat (first | (with_reducible first | exact HB.out | apply below_alloc | apply pw_below_drewN | apply below_drew1) | exact HB.out)⟩
  · rw [if_neg c4] at H
    have c4b0 : (t166 == 0) = false := beq_eq_false_iff_ne.mpr c4
    have c4b1 : (t166 != 0) = true := bne_iff_ne.mpr c4
    simp only [Option.some.injEq, Prod.mk.injEq] at H
    obtain ⟨rfl, rfl⟩ := H
    go_enter Tryd.func13, Tryd.ntmps13
    go_wp2_with (first | ((with_reducible refine gate_dst (N := 9) rfl ?_); refine Kd.N_lit (Kd.slice 41 k41) _ 24 ?hg (N' := 9) ?hd (xs := ([l0, l1] : List (List (S41)))) (inner := [.slice A0 l0.length c0, .slice A1 l1.length c1]) (ok := (fun k_ => ((P0_ k_ ∨ P1_ k_) ∨ w.heap.size ≤ k_))) (okp := (fun k_ => ((P0_ k_ ∨ P1_ k_) ∨ w.heap.size ≤ k_))) ?hr ?hp (fun _ hk => hk) ((show ∀ k_, w.heap.size ≤ k_ → (fun k_ => ((P0_ k_ ∨ P1_ k_) ∨ w.heap.size ≤ k_)) k_ from fun k_ hk => (.inr (Nat.le_trans (below_size (by repeat (first | (with_reducible first | exact HB.out | apply below_alloc | apply pw_below_drewN | apply below_drew1) | exact HB.out))) hk))) _ (Nat.le_refl _)) (Below.refl _ _) (Nat.le_refl _) (by simp) ?_; (case hd => rfl); (case hg => rfl); (case hr => first | (go_simp; done) | (go_simp; rfl)); (case hp => exact (Reps.one (show Kd.FK (Kd.slice 41 k41) _ _ l0 [.slice A0 l0.length c0] from (Kd.FK_slice_mk (Kd.V_reads' (Kd.V_mono (ok' := (fun k_ => ((P0_ k_ ∨ P1_ k_) ∨ w.heap.size ≤ k_))) (HO0.out) (fun k_ hk => hk))).2.1 (Kd.V_F (Kd.V_mono (ok' := (fun k_ => ((P0_ k_ ∨ P1_ k_) ∨ w.heap.size ≤ k_))) (HO0.out) (fun k_ hk => hk))))) (Reps.one (show Kd.FK (Kd.slice 41 k41) _ _ l1 [.slice A1 l1.length c1] from (Kd.FK_slice_mk (Kd.V_reads' (Kd.V_mono (ok' := (fun k_ => ((P0_ k_ ∨ P1_ k_) ∨ w.heap.size ≤ k_))) (HO1.out) (fun k_ hk => hk))).2.1 (Kd.V_F (Kd.V_mono (ok' := (fun k_ => ((P0_ k_ ∨ P1_ k_) ∨ w.heap.size ≤ k_))) (HO1.out) (fun k_ hk => hk))))) (Reps.none _ _)))); intro v164 w17 ho18 hb hg_ hnew_; clear hg_ hnew_; (first | rw [← Ny163.out] at ho18 | (simp only [Int.reduceToNat] at ho18; rw [← Ny163.out] at ho18)); have n0_ := Aside0.mk (Kd.V_elder' (by (with_reducible repeat (first | apply Kd.V_alloc | apply Kd.V_drewN | apply Kd.V_drew)); exact HO0.out) (Kd.N_base ho18) hb); have n1_ := Aside0.mk (Kd.V_elder' (by (with_reducible repeat (first | apply Kd.V_alloc | apply Kd.V_drewN | apply Kd.V_drew)); exact HO1.out) (Kd.N_base ho18) hb); have n2_ := Aside0.mk (Kd.N_lower ho18 (below_size (by repeat (first | (with_reducible first | exact HB.out | apply below_alloc | apply pw_below_drewN | apply below_drew1) | exact HB.out)))); have n3_ := Aside0.mk (below_step (by repeat (first | (with_reducible first | exact HB.out | apply below_alloc | apply pw_below_drewN | apply below_drew1) | exact HB.out)) hb); clear HO0; clear HO1; clear HB; have HO0 := n0_; have HO1 := n1_; have HO165 := n2_; have HB := n3_; clear n0_ n1_ n2_ n3_; clear hb ho18; obtain ⟨Ao19, co19, eo19⟩ := Kd.N_slice HO165.out; subst eo19) | ((with_reducible refine gate_callee (f := 31) rfl ?_); refine goesL_ (some 10) rfl rfl Tryd.func31 (by kernel_rfl) rfl #[.slice Ao19 y163.length co19] rfl (by (try simp only [List.map_toArray, List.map_cons, List.map_nil]); first | done | rfl | (simp only [List.length_drop, List.length_take]; rfl)) ?_; (with_reducible refine (sets_check.calls k _ _ y163 t166 _ ?side1 ?side2 A3.out).mono ?_); (case side1 => repeat (first | exact (Kd.N_reads' HO165.out).2.2 | (with_reducible refine Kd.C_alloc ?_ _) | (with_reducible refine Kd.C_drewN ?_ _) | (with_reducible refine Kd.C_drew ?_))); (case side2 => exact (Kd.N_reads' HO165.out).2.1); rintro e w20 ⟨rfl, hb⟩; refine ⟨_, rfl, ?_⟩; have n0_ := Aside0.mk (Kd.V_below (by (with_reducible repeat (first | apply Kd.V_alloc | apply Kd.V_drewN | apply Kd.V_drew)); exact HO0.out) hb); have n1_ := Aside0.mk (Kd.V_below (by (with_reducible repeat (first | apply Kd.V_alloc | apply Kd.V_drewN | apply Kd.V_drew)); exact HO1.out) hb); have n2_ := Aside0.mk (Kd.N_below (by (with_reducible repeat (first | apply Kd.N_alloc | apply Kd.N_drewN | apply Kd.N_drew)); exact HO165.out) hb); have n3_ := Aside0.mk (below_step (by repeat (first | (with_reducible first | exact HB.out | apply below_alloc | apply pw_below_drewN | apply below_drew1) | exact HB.out)) hb); clear HO0; clear HO1; clear HO165; clear HB; have HO0 := n0_; have HO1 := n1_; have HO165 := n2_; have HB := n3_; clear n0_ n1_ n2_ n3_; (try clear hb); (try clear hb2); (try clear hk); (try clear hi)))
    go_ret2
    exact ⟨_, by first | rfl | (simp [errW_none, errW_some] <;> rfl) | (simp [*, errW_none, errW_some] <;> rfl), by first | exact Kd.R_nil _ _ _ _ _ | exact Kd.N_nil _ _ _ _ _ | exact Kd.V_nil _ _ _ _ _ | exact Kd.Q_nil _ _ _ _ _ | exact Kd.S_nil _ _ _ _ _, by repeat (first | (with_reducible first | exact HB.out | apply below_alloc | apply pw_below_drewN | apply below_drew1) | exact HB.out)⟩

end Go.Proofs.YtcpjflgiimjfmaaDoor.XC
