/- WRITTEN BY A PROGRAM OF THIS SESSION (wip/tools/xprint.py, over the kit's printer): contracts of the functions that the seat's laws reach. -/
import Derived.Test.YthjobemnblakjaaDoorXN0
import Derived.Test.YthjobemnblakjaaDoorXN1
import Derived.Test.YthjobemnblakjaaDoorXN2
import Derived.Test.YthjobemnblakjaaDoorXN3
import Derived.Test.YthjobemnblakjaaDoorXN4
namespace Go.Proofs.YthjobemnblakjaaDoor.XN
open Go.RowKit Go.Proofs.YthjobemnblakjaaDoorW.PrintWords Go.Proofs.YthjobemnblakjaaDoorW.PrintLast Go.Proofs.YthjobemnblakjaaDoorW.PrintMore
attribute [local go_sem] max2_int min2_int max_two min_two max_three min_three max_four min_four   -- for this text's walks alone
set_option linter.unusedVariables false
set_option linter.unusedSimpArgs false

/-! ### sets_NotRunes: function 43 -/
def bands2L : List S31 := [⟨0, 55295⟩, ⟨57344, 1114111⟩]
theorem bands2_reads {w : World} (hG : GOK w) : Kd.C k31 w (some ⟨2, 0, none⟩) bands2L.length bands2L := Kd.C_take (m := 2) (bands_reads hG) (by simp [bandsL])
def sets_NotRunes.f (k : Nat) (l0 : List S31) : Option (List S31 × Int) :=
  (sets_Check.f k l0).bind fun e => if e = 0 then ((sets_without.f k bands2L l0).bind fun o => some (o, 0)) else some ([], e)
theorem sets_NotRunes.mono : ∀ a0 k, LeO (sets_NotRunes.f k a0) (sets_NotRunes.f (k + 1) a0) := by
  intro a0 k
  unfold sets_NotRunes.f
  refine LeO.bind (sets_Check.mono _ _) (fun _ => ?_)
  refine LeO.ite ?_ (LeO.refl _)
  exact LeO.bind (sets_without.mono _ _ _) (fun _ => LeO.refl _)
set_option maxHeartbeats 800000 in
set_option maxRecDepth 100000 in
theorem sets_NotRunes.calls (k : Nat) (A0 : Option Addr) (c0 : Nat) (l0 : List S31) (r1 : List S31) (r2 : Int) (w : World) (hr0 : Kd.C k31 w A0 l0.length l0) (hc0 : l0.length ≤ c0) (h : sets_NotRunes.f k l0 = some (r1, r2)) (hG : GOK w := by first | (with_reducible exact HG_.out) | exact GOK.below HG_.out (by repeat (first | (with_reducible first | exact HB.out | apply below_alloc | apply pw_below_drewN | apply below_drew1 | refine below_set ?_ (Aside0.out (by assumption))) | exact HB.out)) | exact GOK.drewN HG_.out _ | exact GOK.drewN (GOK.drewN HG_.out _) _ | exact GOK.drew HG_.out) :
    Calls Tryd.prog 43 #[.slice A0 l0.length c0] w fun e w' => ∃ v0_ : Value, e = .returned (.tuple #[v0_, .int .i64 r2]) ∧ Kd.R k31 31 w' w.heap.size (fun _ => True) v0_ r1 ∧ Below w.heap.size w w' := by
  unfold sets_NotRunes.f at h
  obtain ⟨e, he, h⟩ := Option.bind_eq_some_iff.mp h
  have HC := Aside0.mk (sets_Check.calls k A0 c0 l0 e w hr0 hc0 he hG)
  have HR := Aside0.mk hr0
  have HK := Aside0.mk hc0
  have HE := Aside0.mk he
  have HGG := Aside0.mk hG
  clear hr0 hc0 he hG
  by_cases e0 : e = 0
  · rw [if_pos e0] at h
    obtain ⟨o, ho, h⟩ := Option.bind_eq_some_iff.mp h
    obtain ⟨rfl, rfl⟩ : o = r1 ∧ (0 : Int) = r2 := by simpa using h
    have HO := Aside0.mk ho
    subst e0
    clear ho h
    go_enter Tryd.func43, Tryd.ntmps43
    go_wp2_with fail
    refine HC.out.mono ?_
    rintro e w1 ⟨rfl, hb⟩
    have HB := Aside0.mk hb
    clear hb
    go_wp2_with fail
    refine (sets_without.calls k (some ⟨2, 0, none⟩) 3 bands2L A0 c0 l0 o _ (bands2_reads (HGG.out.below HB.out)) (by simp [bands2L]) (Kd.C_below HR.out HB.out) HK.out HO.out (HGG.out.below HB.out)).mono ?_
    rintro e w2 ⟨v, rfl, hv, hb⟩
    have HV := Aside0.mk (Kd.R_lower hv HB.out.size)
    have HB2 := Aside0.mk (below_step HB.out hb)
    clear hv hb
    go_wp2_with fail
    go_ret2
    exact ⟨v, rfl, HV.out, HB2.out⟩
  · rw [if_neg e0] at h
    obtain ⟨rfl, rfl⟩ : ([] : List S31) = r1 ∧ e = r2 := by simpa using h
    have en : (e != 0) = true := bne_iff_ne.mpr e0
    go_enter Tryd.func43, Tryd.ntmps43
    go_wp2_with fail
    refine HC.out.mono ?_
    rintro e w1 ⟨rfl, hb⟩
    have HB := Aside0.mk hb
    clear hb
    go_wp2_with fail
    go_ret2
    exact ⟨_, rfl, Kd.R_nil _ _ _ _ _, HB.out⟩

/-! ### named_Escape: function 20 -/
mutual
def named_Escape.j0 : Nat → Int → Int → Bool → Option ((List (S31)) × Int)
  | 0, _, _, _ => none
  | k + 1, x0, x6, x22 => if x22 = true then ((named_Escape.f k (wrap32 ((wrap32 (x0 + 97)) - 65))).bind fun bt231 => ((sets_NotRunes.f k bt231.1).bind fun bt235 => (some (bt235.1, bt235.2)))) else (if x6 = 67 then ((named_Class.f (⟨#[97, 110, 121]⟩ : ByteArray)).bind fun bt239 => (some (bt239.1, bt239.2))) else (if x6 = 89 then ((named_Class.f (⟨#[98, 97, 100]⟩ : ByteArray)).bind fun bt243 => (some (bt243.1, bt243.2))) else (some (([] : List (S31)), 9))))
def named_Escape.f : Nat → Int → Option ((List (S31)) × Int)
  | 0, _ => none
  | k + 1, a0 => if a0 = 100 then ((named_Class.f (⟨#[100, 105, 103, 105, 116]⟩ : ByteArray)).bind fun bt219 => (some (bt219.1, bt219.2))) else (if a0 = 119 then ((named_Class.f (⟨#[119, 111, 114, 100]⟩ : ByteArray)).bind fun bt223 => (some (bt223.1, bt223.2))) else (if a0 = 115 then ((named_Class.f (⟨#[115, 112, 97, 99, 101]⟩ : ByteArray)).bind fun bt227 => (some (bt227.1, bt227.2))) else (if a0 = 68 then (named_Escape.j0 k a0 a0 (a0 == 68)) else (if a0 = 87 then (named_Escape.j0 k a0 a0 (a0 == 87)) else (named_Escape.j0 k a0 a0 (a0 == 83))))))
end
theorem named_Escape.mono_l : ∀ k, (∀ y0, LeO (named_Escape.f k y0) (named_Escape.f (k + 1) y0)) ∧ (∀ y0 y1 y2, LeO (named_Escape.j0 k y0 y1 y2) (named_Escape.j0 (k + 1) y0 y1 y2))
  | 0 => ⟨fun _ r h => by simp [named_Escape.f] at h, fun _ _ _ r h => by simp [named_Escape.j0] at h⟩
  | k + 1 => by
    obtain ⟨ih0, ih1⟩ := named_Escape.mono_l k
    refine ⟨?_, ?_⟩
    · intro y0
      unfold named_Escape.f
      repeat' first
      | (with_reducible exact ih0 _)
      | (with_reducible exact ih1 _ _ _)
      | (with_reducible exact sets_NotRunes.mono _ _)
      | (with_reducible exact LeO.refl _)
      | (with_reducible exact LeO.none _)
      | (with_reducible refine LeO.ite ?_ ?_)
      | (with_reducible refine LeO.bind ?_ (fun _ => ?_))
      | exact ih0 _
      | exact ih1 _ _ _
      | exact sets_NotRunes.mono _ _
      | exact LeO.none _
      | refine LeO.ite ?_ ?_
      | refine LeO.bind ?_ (fun _ => ?_)
    · intro y0 y1 y2
      unfold named_Escape.j0
      repeat' first
      | (with_reducible exact ih0 _)
      | (with_reducible exact ih1 _ _ _)
      | (with_reducible exact sets_NotRunes.mono _ _)
      | (with_reducible exact LeO.refl _)
      | (with_reducible exact LeO.none _)
      | (with_reducible refine LeO.ite ?_ ?_)
      | (with_reducible refine LeO.bind ?_ (fun _ => ?_))
      | exact ih0 _
      | exact ih1 _ _ _
      | exact sets_NotRunes.mono _ _
      | exact LeO.none _
      | refine LeO.ite ?_ ?_
      | refine LeO.bind ?_ (fun _ => ?_)
theorem named_Escape.mono : ∀ a0 k, LeO (named_Escape.f k a0) (named_Escape.f (k + 1) a0) := by
  intro a0 k
  obtain ⟨ih0, ih1⟩ := named_Escape.mono_l k
  exact ih0 a0
set_option maxHeartbeats 8000000 in
set_option maxRecDepth 100000 in
theorem named_Escape.calls (k : Nat) : ∀ (a0 : Int) (r1 : List (S31)) (r2 : Int) (w : World) (h : named_Escape.f k a0 = some (r1, r2)) (hG : GOK w := by first | (with_reducible exact HG_.out) | exact GOK.below HG_.out (by repeat (first | (with_reducible first | exact HB.out | apply below_alloc | apply pw_below_drewN | apply below_drew1 | refine below_set ?_ (Aside0.out (by assumption))) | exact HB.out)) | exact GOK.drewN HG_.out _ | exact GOK.drewN (GOK.drewN HG_.out _) _ | exact GOK.drew HG_.out),
    Calls Tryd.prog 20 #[.int .i32 a0] w fun e w' => ∃ v0_ : Value, e = .returned (.tuple #[v0_, .int .i64 r2]) ∧ Kd.R k31 31 w' w.heap.size (fun _ => True) v0_ r1 ∧ Below w.heap.size w w' := by
  induction k using Nat.strongRecOn with
  | _ k ih =>
  intro a0 r1 r2 w h hG
  cases k with
  | zero => exact absurd h (by simp [named_Escape.f])
  | succ k =>
  simp only [named_Escape.f] at h
  have HG_ := Aside0.mk hG
  clear hG
  have HB := Aside0.mk (Below.refl w.heap.size w)
  have H : (if a0 = 100 then ((named_Class.f (⟨#[100, 105, 103, 105, 116]⟩ : ByteArray)).bind fun bt219 => (some (bt219.1, bt219.2))) else (if a0 = 119 then ((named_Class.f (⟨#[119, 111, 114, 100]⟩ : ByteArray)).bind fun bt223 => (some (bt223.1, bt223.2))) else (if a0 = 115 then ((named_Class.f (⟨#[115, 112, 97, 99, 101]⟩ : ByteArray)).bind fun bt227 => (some (bt227.1, bt227.2))) else (if a0 = 68 then (named_Escape.j0 k a0 a0 (a0 == 68)) else (if a0 = 87 then (named_Escape.j0 k a0 a0 (a0 == 87)) else (named_Escape.j0 k a0 a0 (a0 == 83))))))) = some (r1, r2) := h
  clear h
  by_cases c2 : a0 = 100
  · rw [if_pos c2] at H
    have c2b0 : (a0 == 100) = true := beq_iff_eq.mpr c2
    have c2b1 : (a0 != 100) = false := bne_eq_false_iff_eq.mpr c2
    clear c2
    replace H := Option.bind_eq_some_iff.mp H
    obtain ⟨⟨t219, t220⟩, A30, H⟩ := H
    replace H : (some (t219, t220)) = some (r1, r2) := H
    have A3 := Aside0.mk A30
    clear A30
    simp only [Option.some.injEq, Prod.mk.injEq] at H
    obtain ⟨rfl, rfl⟩ := H
    go_enter Tryd.func20, Tryd.ntmps20
    go_wp2_with (first | ((with_reducible refine gate_callee (f := 16) rfl ?_); refine goesL_ (some 9) rfl rfl Tryd.func16 (by kernel_rfl) rfl #[.string (⟨#[100, 105, 103, 105, 116]⟩ : ByteArray)] rfl (by (try simp only [List.map_toArray, List.map_cons, List.map_nil]); first | done | rfl | (simp only [List.length_drop, List.length_take]; rfl)) ?_; (with_reducible refine (named_Class.calls (⟨#[100, 105, 103, 105, 116]⟩ : ByteArray) t219 t220 _ A3.out).mono ?_); rintro e w4 ⟨v221, rfl, ho0, hb⟩; refine ⟨_, rfl, ?_⟩; have n0_ := Aside0.mk (Kd.R_lower ho0 (below_size (by repeat (first | (with_reducible first | exact HB.out | apply below_alloc | apply pw_below_drewN | apply below_drew1) | exact HB.out)))); have n1_ := Aside0.mk (below_step (by repeat (first | (with_reducible first | exact HB.out | apply below_alloc | apply pw_below_drewN | apply below_drew1) | exact HB.out)) hb); clear HB; have HO222 := n0_; have HB := n1_; clear n0_ n1_; (try clear hb); (try clear hb2); (try clear hk); (try clear hi); (try clear ho0)))
    go_ret2
    exact ⟨_, by first | rfl | (simp [errW_none, errW_some] <;> rfl) | (simp [*, errW_none, errW_some] <;> rfl), by (with_reducible repeat (first | apply Kd.R_alloc | apply Kd.R_drewN | apply Kd.R_drew)); exact HO222.out, by repeat (first | (with_reducible first | exact HB.out | apply below_alloc | apply pw_below_drewN | apply below_drew1) | exact HB.out)⟩
  · rw [if_neg c2] at H
    have c2b0 : (a0 == 100) = false := beq_eq_false_iff_ne.mpr c2
    have c2b1 : (a0 != 100) = true := bne_iff_ne.mpr c2
    by_cases c5 : a0 = 119
    · rw [if_pos c5] at H
      have c5b0 : (a0 == 119) = true := beq_iff_eq.mpr c5
      have c5b1 : (a0 != 119) = false := bne_eq_false_iff_eq.mpr c5
      clear c5
      replace H := Option.bind_eq_some_iff.mp H
      obtain ⟨⟨t223, t224⟩, A60, H⟩ := H
      replace H : (some (t223, t224)) = some (r1, r2) := H
      have A6 := Aside0.mk A60
      clear A60
      simp only [Option.some.injEq, Prod.mk.injEq] at H
      obtain ⟨rfl, rfl⟩ := H
      go_enter Tryd.func20, Tryd.ntmps20
      go_wp2_with (first | ((with_reducible refine gate_callee (f := 16) rfl ?_); refine goesL_ (some 14) rfl rfl Tryd.func16 (by kernel_rfl) rfl #[.string (⟨#[119, 111, 114, 100]⟩ : ByteArray)] rfl (by (try simp only [List.map_toArray, List.map_cons, List.map_nil]); first | done | rfl | (simp only [List.length_drop, List.length_take]; rfl)) ?_; (with_reducible refine (named_Class.calls (⟨#[119, 111, 114, 100]⟩ : ByteArray) t223 t224 _ A6.out).mono ?_); rintro e w7 ⟨v225, rfl, ho0, hb⟩; refine ⟨_, rfl, ?_⟩; have n0_ := Aside0.mk (Kd.R_lower ho0 (below_size (by repeat (first | (with_reducible first | exact HB.out | apply below_alloc | apply pw_below_drewN | apply below_drew1) | exact HB.out)))); have n1_ := Aside0.mk (below_step (by repeat (first | (with_reducible first | exact HB.out | apply below_alloc | apply pw_below_drewN | apply below_drew1) | exact HB.out)) hb); clear HB; have HO226 := n0_; have HB := n1_; clear n0_ n1_; (try clear hb); (try clear hb2); (try clear hk); (try clear hi); (try clear ho0)))
      go_ret2
      exact ⟨_, by first | rfl | (simp [errW_none, errW_some] <;> rfl) | (simp [*, errW_none, errW_some] <;> rfl), by (with_reducible repeat (first | apply Kd.R_alloc | apply Kd.R_drewN | apply Kd.R_drew)); exact HO226.out, by repeat (first | (with_reducible first | exact HB.out | apply below_alloc | apply pw_below_drewN | apply below_drew1) | exact HB.out)⟩
    · rw [if_neg c5] at H
      have c5b0 : (a0 == 119) = false := beq_eq_false_iff_ne.mpr c5
      have c5b1 : (a0 != 119) = true := bne_iff_ne.mpr c5
      by_cases c8 : a0 = 115
      · rw [if_pos c8] at H
        have c8b0 : (a0 == 115) = true := beq_iff_eq.mpr c8
        have c8b1 : (a0 != 115) = false := bne_eq_false_iff_eq.mpr c8
        clear c8
        replace H := Option.bind_eq_some_iff.mp H
        obtain ⟨⟨t227, t228⟩, A90, H⟩ := H
        replace H : (some (t227, t228)) = some (r1, r2) := H
        have A9 := Aside0.mk A90
        clear A90
        simp only [Option.some.injEq, Prod.mk.injEq] at H
        obtain ⟨rfl, rfl⟩ := H
        go_enter Tryd.func20, Tryd.ntmps20
        go_wp2_with (first | ((with_reducible refine gate_callee (f := 16) rfl ?_); refine goesL_ (some 19) rfl rfl Tryd.func16 (by kernel_rfl) rfl #[.string (⟨#[115, 112, 97, 99, 101]⟩ : ByteArray)] rfl (by (try simp only [List.map_toArray, List.map_cons, List.map_nil]); first | done | rfl | (simp only [List.length_drop, List.length_take]; rfl)) ?_; (with_reducible refine (named_Class.calls (⟨#[115, 112, 97, 99, 101]⟩ : ByteArray) t227 t228 _ A9.out).mono ?_); rintro e w10 ⟨v229, rfl, ho0, hb⟩; refine ⟨_, rfl, ?_⟩; have n0_ := Aside0.mk (Kd.R_lower ho0 (below_size (by repeat (first | (with_reducible first | exact HB.out | apply below_alloc | apply pw_below_drewN | apply below_drew1) | exact HB.out)))); have n1_ := Aside0.mk (below_step (by repeat (first | (with_reducible first | exact HB.out | apply below_alloc | apply pw_below_drewN | apply below_drew1) | exact HB.out)) hb); clear HB; have HO230 := n0_; have HB := n1_; clear n0_ n1_; (try clear hb); (try clear hb2); (try clear hk); (try clear hi); (try clear ho0)))
        go_ret2
        exact ⟨_, by first | rfl | (simp [errW_none, errW_some] <;> rfl) | (simp [*, errW_none, errW_some] <;> rfl), by (with_reducible repeat (first | apply Kd.R_alloc | apply Kd.R_drewN | apply Kd.R_drew)); exact HO230.out, by repeat (first | (with_reducible first | exact HB.out | apply below_alloc | apply pw_below_drewN | apply below_drew1) | exact HB.out)⟩
      · rw [if_neg c8] at H
        have c8b0 : (a0 == 115) = false := beq_eq_false_iff_ne.mpr c8
        have c8b1 : (a0 != 115) = true := bne_iff_ne.mpr c8
        have HC11 := Aside0.mk H
        clear H
        go_enter Tryd.func20, Tryd.ntmps20
        go_upto_if 22 with (fail)
        go_cut [22] (fun v22 wc => ∃ (kq : Nat) (x22_10 : Bool), v22 = .bool x22_10 ∧ Aside0 (named_Escape.j0 kq a0 a0 x22_10 = some (r1, r2)) ∧ Aside0 (kq ≤ k) ∧ Aside0 (Below w.heap.size w wc))
        case first =>
          have H := HC11.out
          clear HC11
          by_cases c12 : a0 = 68
          · rw [if_pos c12] at H
            have c12b0 : (a0 == 68) = true := beq_iff_eq.mpr c12
            have c12b1 : (a0 != 68) = false := bne_eq_false_iff_eq.mpr c12
            clear c12
            (first | rw [c12b0] | (simp only [i64_w, i32_w]; rw [c12b0]) | skip)
            have H' := Aside0.mk H
            clear H
            go_wp2
            go_meet
            case rel => exact ⟨_, ((a0 == 68)), (by first | rfl | (simp; done) | (simp [*]; done)), H', ⟨by first | omega | exact Nat.le_refl _⟩, ⟨by repeat (first | (with_reducible first | exact HB.out | apply below_alloc | apply pw_below_drewN | apply below_drew1) | exact HB.out)⟩⟩
          · rw [if_neg c12] at H
            have c12b0 : (a0 == 68) = false := beq_eq_false_iff_ne.mpr c12
            have c12b1 : (a0 != 68) = true := bne_iff_ne.mpr c12
            (first | rw [c12b0] | (simp only [i64_w, i32_w]; rw [c12b0]) | skip)
            by_cases c13 : a0 = 87
            · rw [if_pos c13] at H
              have c13b0 : (a0 == 87) = true := beq_iff_eq.mpr c13
              have c13b1 : (a0 != 87) = false := bne_eq_false_iff_eq.mpr c13
              clear c13
              have H' := Aside0.mk H
              clear H
              go_wp2
              go_meet
              case rel => exact ⟨_, ((a0 == 87)), (by first | rfl | (simp; done) | (simp [*]; done)), H', ⟨by first | omega | exact Nat.le_refl _⟩, ⟨by repeat (first | (with_reducible first | exact HB.out | apply below_alloc | apply pw_below_drewN | apply below_drew1) | exact HB.out)⟩⟩
            · rw [if_neg c13] at H
              have c13b0 : (a0 == 87) = false := beq_eq_false_iff_ne.mpr c13
              have c13b1 : (a0 != 87) = true := bne_iff_ne.mpr c13
              have H' := Aside0.mk H
              clear H
              go_wp2
              go_meet
              case rel => exact ⟨_, ((a0 == 83)), (by first | rfl | (simp; done) | (simp [*]; done)), H', ⟨by first | omega | exact Nat.le_refl _⟩, ⟨by repeat (first | (with_reducible first | exact HB.out | apply below_alloc | apply pw_below_drewN | apply below_drew1) | exact HB.out)⟩⟩
        case rest =>
          clear HC11
          try clear c1
          try clear c2
          try clear c2b0
          try clear c2b1
          try clear p2
          try clear c5
          try clear c5b0
          try clear c5b1
          try clear c8
          try clear c8b0
          try clear c8b1
          try clear c12
          try clear c12b0
          try clear c12b1
          try clear c13
          try clear c13b0
          try clear c13b1
          obtain ⟨kq, x22_10, rfl, HA, HJ10, HB⟩ := hcut
          cases kq with
          | zero => exact absurd HA.out (by simp [named_Escape.j0])
          | succ kj10 =>
            have H := HA.out
            clear HA
            simp only [named_Escape.j0] at H
            by_cases c14 : x22_10 = true
            · subst c14
              have H1 : ((named_Escape.f kj10 (wrap32 ((wrap32 (a0 + 97)) - 65))).bind fun bt231 => ((sets_NotRunes.f kj10 bt231.1).bind fun bt235 => (some (bt235.1, bt235.2)))) = some (r1, r2) := by rw [if_pos rfl] at H; exact H
              clear H
              have H := H1
              clear H1
              replace H := Option.bind_eq_some_iff.mp H
              obtain ⟨⟨t231, t232⟩, A150, H⟩ := H
              replace H : ((sets_NotRunes.f kj10 t231).bind fun bt235 => (some (bt235.1, bt235.2))) = some (r1, r2) := H
              have A15 := Aside0.mk A150
              clear A150
              replace H := Option.bind_eq_some_iff.mp H
              obtain ⟨⟨t235, t236⟩, A160, H⟩ := H
              replace H : (some (t235, t236)) = some (r1, r2) := H
              have A16 := Aside0.mk A160
              clear A160
              simp only [Option.some.injEq, Prod.mk.injEq] at H
              obtain ⟨rfl, rfl⟩ := H
              go_wp2_with (first | ((with_reducible refine gate_callee (f := 20) rfl ?_); refine goesL_ (some 30) rfl rfl Tryd.func20 (by kernel_rfl) rfl #[.int .i32 (wrap32 ((wrap32 (a0 + 97)) - 65))] rfl (by (try simp only [List.map_toArray, List.map_cons, List.map_nil]); first | done | rfl | (simp only [List.length_drop, List.length_take]; rfl)) ?_; (with_reducible refine (ih kj10 (by have := HJ10.out; omega) (wrap32 ((wrap32 (a0 + 97)) - 65)) t231 t232 _ A15.out).mono ?_); rintro e w17 ⟨v233, rfl, ho0, hb⟩; refine ⟨_, rfl, ?_⟩; have n0_ := Aside0.mk (Kd.R_lower ho0 (below_size (by repeat (first | (with_reducible first | exact HB.out | apply below_alloc | apply pw_below_drewN | apply below_drew1) | exact HB.out)))); have n1_ := Aside0.mk (below_step (by repeat (first | (with_reducible first | exact HB.out | apply below_alloc | apply pw_below_drewN | apply below_drew1) | exact HB.out)) hb); clear HB; have HO234 := n0_; have HB := n1_; clear n0_ n1_; (try clear hb); (try clear hb2); (try clear hk); (try clear hi); (try clear ho0); obtain ⟨Ao18, co18, eo18⟩ := Kd.R_slice HO234.out; subst eo18) | ((with_reducible refine gate_callee (f := 43) rfl ?_); refine goesL_ (some 34) rfl rfl Tryd.func43 (by kernel_rfl) rfl #[.slice Ao18 t231.length co18] rfl (by (try simp only [List.map_toArray, List.map_cons, List.map_nil]); first | done | rfl | (simp only [List.length_drop, List.length_take]; rfl)) ?_; (with_reducible refine (sets_NotRunes.calls kj10 _ _ t231 t235 t236 _ ?side1 ?side2 A16.out).mono ?_); (case side1 => repeat (first | exact (Kd.R_reads' HO234.out).2.2 | (with_reducible refine Kd.C_alloc ?_ _) | (with_reducible refine Kd.C_drewN ?_ _) | (with_reducible refine Kd.C_drew ?_))); (case side2 => exact (Kd.R_reads' HO234.out).2.1); rintro e w19 ⟨v237, rfl, ho0, hb⟩; refine ⟨_, rfl, ?_⟩; have n0_ := Aside0.mk (Kd.R_elder' (by (with_reducible repeat (first | apply Kd.R_alloc | apply Kd.R_drewN | apply Kd.R_drew)); exact HO234.out) (Kd.R_base ho0) hb); have n1_ := Aside0.mk (Kd.R_lower (Kd.R_new' ho0 (Kd.R_lt (by (with_reducible repeat (first | apply Kd.R_alloc | apply Kd.R_drewN | apply Kd.R_drew)); exact HO234.out))) (below_size (by repeat (first | (with_reducible first | exact HB.out | apply below_alloc | apply pw_below_drewN | apply below_drew1) | exact HB.out)))); have n2_ := Aside0.mk (below_step (by repeat (first | (with_reducible first | exact HB.out | apply below_alloc | apply pw_below_drewN | apply below_drew1) | exact HB.out)) hb); clear HO234; clear HB; have HO234 := n0_; have HO238 := n1_; have HB := n2_; clear n0_ n1_ n2_; (try clear hb); (try clear hb2); (try clear hk); (try clear hi); (try clear ho0)))
              go_ret2
              exact ⟨_, by first | rfl | (simp [errW_none, errW_some] <;> rfl) | (simp [*, errW_none, errW_some] <;> rfl), by (with_reducible repeat (first | apply Kd.R_alloc | apply Kd.R_drewN | apply Kd.R_drew)); exact Kd.R_mono HO238.out (fun _ hk => trivial), by repeat (first | (with_reducible first | exact HB.out | apply below_alloc | apply pw_below_drewN | apply below_drew1) | exact HB.out)⟩
            · replace c14 := Bool.eq_false_iff.mpr c14
              subst c14
              have H1 : (if a0 = 67 then ((named_Class.f (⟨#[97, 110, 121]⟩ : ByteArray)).bind fun bt239 => (some (bt239.1, bt239.2))) else (if a0 = 89 then ((named_Class.f (⟨#[98, 97, 100]⟩ : ByteArray)).bind fun bt243 => (some (bt243.1, bt243.2))) else (some (([] : List (S31)), 9)))) = some (r1, r2) := by rw [if_neg (show ¬ (false = true) by decide)] at H; exact H
              clear H
              have H := H1
              clear H1
              by_cases c20 : a0 = 67
              · rw [if_pos c20] at H
                have c20b0 : (a0 == 67) = true := beq_iff_eq.mpr c20
                have c20b1 : (a0 != 67) = false := bne_eq_false_iff_eq.mpr c20
                clear c20
                replace H := Option.bind_eq_some_iff.mp H
                obtain ⟨⟨t239, t240⟩, A210, H⟩ := H
                replace H : (some (t239, t240)) = some (r1, r2) := H
                have A21 := Aside0.mk A210
                clear A210
                simp only [Option.some.injEq, Prod.mk.injEq] at H
                obtain ⟨rfl, rfl⟩ := H
                go_wp2_with (first | ((with_reducible refine gate_callee (f := 16) rfl ?_); refine goesL_ (some 39) rfl rfl Tryd.func16 (by kernel_rfl) rfl #[.string (⟨#[97, 110, 121]⟩ : ByteArray)] rfl (by (try simp only [List.map_toArray, List.map_cons, List.map_nil]); first | done | rfl | (simp only [List.length_drop, List.length_take]; rfl)) ?_; (with_reducible refine (named_Class.calls (⟨#[97, 110, 121]⟩ : ByteArray) t239 t240 _ A21.out).mono ?_); rintro e w22 ⟨v241, rfl, ho0, hb⟩; refine ⟨_, rfl, ?_⟩; have n0_ := Aside0.mk (Kd.R_lower ho0 (below_size (by repeat (first | (with_reducible first | exact HB.out | apply below_alloc | apply pw_below_drewN | apply below_drew1) | exact HB.out)))); have n1_ := Aside0.mk (below_step (by repeat (first | (with_reducible first | exact HB.out | apply below_alloc | apply pw_below_drewN | apply below_drew1) | exact HB.out)) hb); clear HB; have HO242 := n0_; have HB := n1_; clear n0_ n1_; (try clear hb); (try clear hb2); (try clear hk); (try clear hi); (try clear ho0)))
                go_ret2
                exact ⟨_, by first | rfl | (simp [errW_none, errW_some] <;> rfl) | (simp [*, errW_none, errW_some] <;> rfl), by (with_reducible repeat (first | apply Kd.R_alloc | apply Kd.R_drewN | apply Kd.R_drew)); exact HO242.out, by repeat (first | (with_reducible first | exact HB.out | apply below_alloc | apply pw_below_drewN | apply below_drew1) | exact HB.out)⟩
              · rw [if_neg c20] at H
                have c20b0 : (a0 == 67) = false := beq_eq_false_iff_ne.mpr c20
                have c20b1 : (a0 != 67) = true := bne_iff_ne.mpr c20
                by_cases c23 : a0 = 89
                · rw [if_pos c23] at H
                  have c23b0 : (a0 == 89) = true := beq_iff_eq.mpr c23
                  have c23b1 : (a0 != 89) = false := bne_eq_false_iff_eq.mpr c23
                  clear c23
                  replace H := Option.bind_eq_some_iff.mp H
                  obtain ⟨⟨t243, t244⟩, A240, H⟩ := H
                  replace H : (some (t243, t244)) = some (r1, r2) := H
                  have A24 := Aside0.mk A240
                  clear A240
                  simp only [Option.some.injEq, Prod.mk.injEq] at H
                  obtain ⟨rfl, rfl⟩ := H
                  go_wp2_with (first | ((with_reducible refine gate_callee (f := 16) rfl ?_); refine goesL_ (some 44) rfl rfl Tryd.func16 (by kernel_rfl) rfl #[.string (⟨#[98, 97, 100]⟩ : ByteArray)] rfl (by (try simp only [List.map_toArray, List.map_cons, List.map_nil]); first | done | rfl | (simp only [List.length_drop, List.length_take]; rfl)) ?_; (with_reducible refine (named_Class.calls (⟨#[98, 97, 100]⟩ : ByteArray) t243 t244 _ A24.out).mono ?_); rintro e w25 ⟨v245, rfl, ho0, hb⟩; refine ⟨_, rfl, ?_⟩; have n0_ := Aside0.mk (Kd.R_lower ho0 (below_size (by repeat (first | (with_reducible first | exact HB.out | apply below_alloc | apply pw_below_drewN | apply below_drew1) | exact HB.out)))); have n1_ := Aside0.mk (below_step (by repeat (first | (with_reducible first | exact HB.out | apply below_alloc | apply pw_below_drewN | apply below_drew1) | exact HB.out)) hb); clear HB; have HO246 := n0_; have HB := n1_; clear n0_ n1_; (try clear hb); (try clear hb2); (try clear hk); (try clear hi); (try clear ho0)))
                  go_ret2
                  exact ⟨_, by first | rfl | (simp [errW_none, errW_some] <;> rfl) | (simp [*, errW_none, errW_some] <;> rfl), by (with_reducible repeat (first | apply Kd.R_alloc | apply Kd.R_drewN | apply Kd.R_drew)); exact HO246.out, by repeat (first | (with_reducible first | exact HB.out | apply below_alloc | apply pw_below_drewN | apply below_drew1) | exact HB.out)⟩
                · rw [if_neg c23] at H
                  have c23b0 : (a0 == 89) = false := beq_eq_false_iff_ne.mpr c23
                  have c23b1 : (a0 != 89) = true := bne_iff_ne.mpr c23
                  simp only [Option.some.injEq, Prod.mk.injEq] at H
                  obtain ⟨rfl, rfl⟩ := H
                  go_wp2
                  go_ret2
                  exact ⟨_, by first | rfl | (simp [errW_none, errW_some] <;> rfl) | (simp [*, errW_none, errW_some] <;> rfl), by first | exact Kd.R_nil _ _ _ _ _ | exact Kd.N_nil _ _ _ _ _ | exact Kd.V_nil _ _ _ _ _ | exact Kd.Q_nil _ _ _ _ _ | exact Kd.S_nil _ _ _ _ _, by repeat (first | (with_reducible first | exact HB.out | apply below_alloc | apply pw_below_drewN | apply below_drew1) | exact HB.out)⟩

/-! ### thistleref04_Escape: function 21 -/
def thistleref04_Escape.f (k : Nat) (a0 : Int) : Option ((List (S31)) × Int) := if a0 = 100 then ((thistleref04_Class.f k (⟨#[100, 105, 103, 105, 116]⟩ : ByteArray)).bind fun bt247 => (some (bt247.1, bt247.2))) else (if a0 = 119 then ((thistleref04_Class.f k (⟨#[119, 111, 114, 100]⟩ : ByteArray)).bind fun bt251 => (some (bt251.1, bt251.2))) else (if a0 = 115 then ((thistleref04_Class.f k (⟨#[115, 112, 97, 99, 101]⟩ : ByteArray)).bind fun bt255 => (some (bt255.1, bt255.2))) else (if a0 = 67 then ((thistleref04_Class.f k (⟨#[97, 110, 121]⟩ : ByteArray)).bind fun bt259 => (some (bt259.1, bt259.2))) else (if a0 = 89 then ((thistleref04_Class.f k (⟨#[98, 97, 100]⟩ : ByteArray)).bind fun bt263 => (some (bt263.1, bt263.2))) else (if a0 = 68 then ((thistleref04_set.f k (([0, 47, 58, 55295, 57344, 1114111] : List Int))).bind fun t270 => (some (t270, 0))) else (if a0 = 87 then ((thistleref04_set.f k (([0, 47, 58, 64, 91, 94, 96, 96, 123, 55295, 57344, 1114111] : List Int))).bind fun t276 => (some (t276, 0))) else (if a0 = 83 then ((thistleref04_set.f k (([0, 8, 14, 31, 33, 55295, 57344, 1114111] : List Int))).bind fun t282 => (some (t282, 0))) else (some (([] : List (S31)), 9)))))))))
theorem thistleref04_Escape.mono : ∀ a0 k, LeO (thistleref04_Escape.f k a0) (thistleref04_Escape.f (k + 1) a0) := by
  intro a0 k
  unfold thistleref04_Escape.f
  repeat' first
      | (with_reducible exact thistleref04_Class.mono _ _)
      | (with_reducible exact thistleref04_set.mono _ _)
      | (with_reducible exact LeO.refl _)
      | (with_reducible exact LeO.none _)
      | (with_reducible refine LeO.ite ?_ ?_)
      | (with_reducible refine LeO.bind ?_ (fun _ => ?_))
      | exact thistleref04_Class.mono _ _
      | exact thistleref04_set.mono _ _
      | exact LeO.none _
      | refine LeO.ite ?_ ?_
      | refine LeO.bind ?_ (fun _ => ?_)
set_option maxHeartbeats 8000000 in
set_option maxRecDepth 100000 in
theorem thistleref04_Escape.calls (k : Nat) (a0 : Int) (r1 : List (S31)) (r2 : Int) (w : World) (h : thistleref04_Escape.f k a0 = some (r1, r2)) (hG : GOK w := by first | (with_reducible exact HG_.out) | exact GOK.below HG_.out (by repeat (first | (with_reducible first | exact HB.out | apply below_alloc | apply pw_below_drewN | apply below_drew1 | refine below_set ?_ (Aside0.out (by assumption))) | exact HB.out)) | exact GOK.drewN HG_.out _ | exact GOK.drewN (GOK.drewN HG_.out _) _ | exact GOK.drew HG_.out) :
    Calls Tryd.prog 21 #[.int .i32 a0] w fun e w' => ∃ v0_ : Value, e = .returned (.tuple #[v0_, .int .i64 r2]) ∧ Kd.R k31 31 w' w.heap.size (fun _ => True) v0_ r1 ∧ Below w.heap.size w w' := by
  have HG_ := Aside0.mk hG
  clear hG
  have HB := Aside0.mk (Below.refl w.heap.size w)
  have H : (if a0 = 100 then ((thistleref04_Class.f k (⟨#[100, 105, 103, 105, 116]⟩ : ByteArray)).bind fun bt247 => (some (bt247.1, bt247.2))) else (if a0 = 119 then ((thistleref04_Class.f k (⟨#[119, 111, 114, 100]⟩ : ByteArray)).bind fun bt251 => (some (bt251.1, bt251.2))) else (if a0 = 115 then ((thistleref04_Class.f k (⟨#[115, 112, 97, 99, 101]⟩ : ByteArray)).bind fun bt255 => (some (bt255.1, bt255.2))) else (if a0 = 67 then ((thistleref04_Class.f k (⟨#[97, 110, 121]⟩ : ByteArray)).bind fun bt259 => (some (bt259.1, bt259.2))) else (if a0 = 89 then ((thistleref04_Class.f k (⟨#[98, 97, 100]⟩ : ByteArray)).bind fun bt263 => (some (bt263.1, bt263.2))) else (if a0 = 68 then ((thistleref04_set.f k (([0, 47, 58, 55295, 57344, 1114111] : List Int))).bind fun t270 => (some (t270, 0))) else (if a0 = 87 then ((thistleref04_set.f k (([0, 47, 58, 64, 91, 94, 96, 96, 123, 55295, 57344, 1114111] : List Int))).bind fun t276 => (some (t276, 0))) else (if a0 = 83 then ((thistleref04_set.f k (([0, 8, 14, 31, 33, 55295, 57344, 1114111] : List Int))).bind fun t282 => (some (t282, 0))) else (some (([] : List (S31)), 9)))))))))) = some (r1, r2) := h
  clear h
  by_cases c2 : a0 = 100
  · rw [if_pos c2] at H
    have c2b0 : (a0 == 100) = true := beq_iff_eq.mpr c2
    have c2b1 : (a0 != 100) = false := bne_eq_false_iff_eq.mpr c2
    clear c2
    replace H := Option.bind_eq_some_iff.mp H
    obtain ⟨⟨t247, t248⟩, A30, H⟩ := H
    replace H : (some (t247, t248)) = some (r1, r2) := H
    have A3 := Aside0.mk A30
    clear A30
    simp only [Option.some.injEq, Prod.mk.injEq] at H
    obtain ⟨rfl, rfl⟩ := H
    go_enter Tryd.func21, Tryd.ntmps21
    go_wp2_with (first | ((with_reducible refine gate_callee (f := 17) rfl ?_); refine goesL_ (some 7) rfl rfl Tryd.func17 (by kernel_rfl) rfl #[.string (⟨#[100, 105, 103, 105, 116]⟩ : ByteArray)] rfl (by (try simp only [List.map_toArray, List.map_cons, List.map_nil]); first | done | rfl | (simp only [List.length_drop, List.length_take]; rfl)) ?_; (with_reducible refine (thistleref04_Class.calls k (⟨#[100, 105, 103, 105, 116]⟩ : ByteArray) t247 t248 _ A3.out).mono ?_); rintro e w4 ⟨v249, rfl, ho0, hb⟩; refine ⟨_, rfl, ?_⟩; have n0_ := Aside0.mk (Kd.R_lower ho0 (below_size (by repeat (first | (with_reducible first | exact HB.out | apply below_alloc | apply pw_below_drewN | apply below_drew1) | exact HB.out)))); have n1_ := Aside0.mk (below_step (by repeat (first | (with_reducible first | exact HB.out | apply below_alloc | apply pw_below_drewN | apply below_drew1) | exact HB.out)) hb); clear HB; have HO250 := n0_; have HB := n1_; clear n0_ n1_; (try clear hb); (try clear hb2); (try clear hk); (try clear hi); (try clear ho0)))
    go_ret2
    exact ⟨_, by first | rfl | (simp [errW_none, errW_some] <;> rfl) | (simp [*, errW_none, errW_some] <;> rfl), by (with_reducible repeat (first | apply Kd.R_alloc | apply Kd.R_drewN | apply Kd.R_drew)); exact HO250.out, by repeat (first | (with_reducible first | exact HB.out | apply below_alloc | apply pw_below_drewN | apply below_drew1) | exact HB.out)⟩
  · rw [if_neg c2] at H
    have c2b0 : (a0 == 100) = false := beq_eq_false_iff_ne.mpr c2
    have c2b1 : (a0 != 100) = true := bne_iff_ne.mpr c2
    by_cases c5 : a0 = 119
    · rw [if_pos c5] at H
      have c5b0 : (a0 == 119) = true := beq_iff_eq.mpr c5
      have c5b1 : (a0 != 119) = false := bne_eq_false_iff_eq.mpr c5
      clear c5
      replace H := Option.bind_eq_some_iff.mp H
      obtain ⟨⟨t251, t252⟩, A60, H⟩ := H
      replace H : (some (t251, t252)) = some (r1, r2) := H
      have A6 := Aside0.mk A60
      clear A60
      simp only [Option.some.injEq, Prod.mk.injEq] at H
      obtain ⟨rfl, rfl⟩ := H
      go_enter Tryd.func21, Tryd.ntmps21
      go_wp2_with (first | ((with_reducible refine gate_callee (f := 17) rfl ?_); refine goesL_ (some 12) rfl rfl Tryd.func17 (by kernel_rfl) rfl #[.string (⟨#[119, 111, 114, 100]⟩ : ByteArray)] rfl (by (try simp only [List.map_toArray, List.map_cons, List.map_nil]); first | done | rfl | (simp only [List.length_drop, List.length_take]; rfl)) ?_; (with_reducible refine (thistleref04_Class.calls k (⟨#[119, 111, 114, 100]⟩ : ByteArray) t251 t252 _ A6.out).mono ?_); rintro e w7 ⟨v253, rfl, ho0, hb⟩; refine ⟨_, rfl, ?_⟩; have n0_ := Aside0.mk (Kd.R_lower ho0 (below_size (by repeat (first | (with_reducible first | exact HB.out | apply below_alloc | apply pw_below_drewN | apply below_drew1) | exact HB.out)))); have n1_ := Aside0.mk (below_step (by repeat (first | (with_reducible first | exact HB.out | apply below_alloc | apply pw_below_drewN | apply below_drew1) | exact HB.out)) hb); clear HB; have HO254 := n0_; have HB := n1_; clear n0_ n1_; (try clear hb); (try clear hb2); (try clear hk); (try clear hi); (try clear ho0)))
      go_ret2
      exact ⟨_, by first | rfl | (simp [errW_none, errW_some] <;> rfl) | (simp [*, errW_none, errW_some] <;> rfl), by (with_reducible repeat (first | apply Kd.R_alloc | apply Kd.R_drewN | apply Kd.R_drew)); exact HO254.out, by repeat (first | (with_reducible first | exact HB.out | apply below_alloc | apply pw_below_drewN | apply below_drew1) | exact HB.out)⟩
    · rw [if_neg c5] at H
      have c5b0 : (a0 == 119) = false := beq_eq_false_iff_ne.mpr c5
      have c5b1 : (a0 != 119) = true := bne_iff_ne.mpr c5
      by_cases c8 : a0 = 115
      · rw [if_pos c8] at H
        have c8b0 : (a0 == 115) = true := beq_iff_eq.mpr c8
        have c8b1 : (a0 != 115) = false := bne_eq_false_iff_eq.mpr c8
        clear c8
        replace H := Option.bind_eq_some_iff.mp H
        obtain ⟨⟨t255, t256⟩, A90, H⟩ := H
        replace H : (some (t255, t256)) = some (r1, r2) := H
        have A9 := Aside0.mk A90
        clear A90
        simp only [Option.some.injEq, Prod.mk.injEq] at H
        obtain ⟨rfl, rfl⟩ := H
        go_enter Tryd.func21, Tryd.ntmps21
        go_wp2_with (first | ((with_reducible refine gate_callee (f := 17) rfl ?_); refine goesL_ (some 17) rfl rfl Tryd.func17 (by kernel_rfl) rfl #[.string (⟨#[115, 112, 97, 99, 101]⟩ : ByteArray)] rfl (by (try simp only [List.map_toArray, List.map_cons, List.map_nil]); first | done | rfl | (simp only [List.length_drop, List.length_take]; rfl)) ?_; (with_reducible refine (thistleref04_Class.calls k (⟨#[115, 112, 97, 99, 101]⟩ : ByteArray) t255 t256 _ A9.out).mono ?_); rintro e w10 ⟨v257, rfl, ho0, hb⟩; refine ⟨_, rfl, ?_⟩; have n0_ := Aside0.mk (Kd.R_lower ho0 (below_size (by repeat (first | (with_reducible first | exact HB.out | apply below_alloc | apply pw_below_drewN | apply below_drew1) | exact HB.out)))); have n1_ := Aside0.mk (below_step (by repeat (first | (with_reducible first | exact HB.out | apply below_alloc | apply pw_below_drewN | apply below_drew1) | exact HB.out)) hb); clear HB; have HO258 := n0_; have HB := n1_; clear n0_ n1_; (try clear hb); (try clear hb2); (try clear hk); (try clear hi); (try clear ho0)))
        go_ret2
        exact ⟨_, by first | rfl | (simp [errW_none, errW_some] <;> rfl) | (simp [*, errW_none, errW_some] <;> rfl), by (with_reducible repeat (first | apply Kd.R_alloc | apply Kd.R_drewN | apply Kd.R_drew)); exact HO258.out, by repeat (first | (with_reducible first | exact HB.out | apply below_alloc | apply pw_below_drewN | apply below_drew1) | exact HB.out)⟩
      · rw [if_neg c8] at H
        have c8b0 : (a0 == 115) = false := beq_eq_false_iff_ne.mpr c8
        have c8b1 : (a0 != 115) = true := bne_iff_ne.mpr c8
        by_cases c11 : a0 = 67
        · rw [if_pos c11] at H
          have c11b0 : (a0 == 67) = true := beq_iff_eq.mpr c11
          have c11b1 : (a0 != 67) = false := bne_eq_false_iff_eq.mpr c11
          clear c11
          replace H := Option.bind_eq_some_iff.mp H
          obtain ⟨⟨t259, t260⟩, A120, H⟩ := H
          replace H : (some (t259, t260)) = some (r1, r2) := H
          have A12 := Aside0.mk A120
          clear A120
          simp only [Option.some.injEq, Prod.mk.injEq] at H
          obtain ⟨rfl, rfl⟩ := H
          go_enter Tryd.func21, Tryd.ntmps21
          go_wp2_with (first | ((with_reducible refine gate_callee (f := 17) rfl ?_); refine goesL_ (some 22) rfl rfl Tryd.func17 (by kernel_rfl) rfl #[.string (⟨#[97, 110, 121]⟩ : ByteArray)] rfl (by (try simp only [List.map_toArray, List.map_cons, List.map_nil]); first | done | rfl | (simp only [List.length_drop, List.length_take]; rfl)) ?_; (with_reducible refine (thistleref04_Class.calls k (⟨#[97, 110, 121]⟩ : ByteArray) t259 t260 _ A12.out).mono ?_); rintro e w13 ⟨v261, rfl, ho0, hb⟩; refine ⟨_, rfl, ?_⟩; have n0_ := Aside0.mk (Kd.R_lower ho0 (below_size (by repeat (first | (with_reducible first | exact HB.out | apply below_alloc | apply pw_below_drewN | apply below_drew1) | exact HB.out)))); have n1_ := Aside0.mk (below_step (by repeat (first | (with_reducible first | exact HB.out | apply below_alloc | apply pw_below_drewN | apply below_drew1) | exact HB.out)) hb); clear HB; have HO262 := n0_; have HB := n1_; clear n0_ n1_; (try clear hb); (try clear hb2); (try clear hk); (try clear hi); (try clear ho0)))
          go_ret2
          exact ⟨_, by first | rfl | (simp [errW_none, errW_some] <;> rfl) | (simp [*, errW_none, errW_some] <;> rfl), by (with_reducible repeat (first | apply Kd.R_alloc | apply Kd.R_drewN | apply Kd.R_drew)); exact HO262.out, by repeat (first | (with_reducible first | exact HB.out | apply below_alloc | apply pw_below_drewN | apply below_drew1) | exact HB.out)⟩
        · rw [if_neg c11] at H
          have c11b0 : (a0 == 67) = false := beq_eq_false_iff_ne.mpr c11
          have c11b1 : (a0 != 67) = true := bne_iff_ne.mpr c11
          by_cases c14 : a0 = 89
          · rw [if_pos c14] at H
            have c14b0 : (a0 == 89) = true := beq_iff_eq.mpr c14
            have c14b1 : (a0 != 89) = false := bne_eq_false_iff_eq.mpr c14
            clear c14
            replace H := Option.bind_eq_some_iff.mp H
            obtain ⟨⟨t263, t264⟩, A150, H⟩ := H
            replace H : (some (t263, t264)) = some (r1, r2) := H
            have A15 := Aside0.mk A150
            clear A150
            simp only [Option.some.injEq, Prod.mk.injEq] at H
            obtain ⟨rfl, rfl⟩ := H
            go_enter Tryd.func21, Tryd.ntmps21
            go_wp2_with (first | ((with_reducible refine gate_callee (f := 17) rfl ?_); refine goesL_ (some 27) rfl rfl Tryd.func17 (by kernel_rfl) rfl #[.string (⟨#[98, 97, 100]⟩ : ByteArray)] rfl (by (try simp only [List.map_toArray, List.map_cons, List.map_nil]); first | done | rfl | (simp only [List.length_drop, List.length_take]; rfl)) ?_; (with_reducible refine (thistleref04_Class.calls k (⟨#[98, 97, 100]⟩ : ByteArray) t263 t264 _ A15.out).mono ?_); rintro e w16 ⟨v265, rfl, ho0, hb⟩; refine ⟨_, rfl, ?_⟩; have n0_ := Aside0.mk (Kd.R_lower ho0 (below_size (by repeat (first | (with_reducible first | exact HB.out | apply below_alloc | apply pw_below_drewN | apply below_drew1) | exact HB.out)))); have n1_ := Aside0.mk (below_step (by repeat (first | (with_reducible first | exact HB.out | apply below_alloc | apply pw_below_drewN | apply below_drew1) | exact HB.out)) hb); clear HB; have HO266 := n0_; have HB := n1_; clear n0_ n1_; (try clear hb); (try clear hb2); (try clear hk); (try clear hi); (try clear ho0)))
            go_ret2
            exact ⟨_, by first | rfl | (simp [errW_none, errW_some] <;> rfl) | (simp [*, errW_none, errW_some] <;> rfl), by (with_reducible repeat (first | apply Kd.R_alloc | apply Kd.R_drewN | apply Kd.R_drew)); exact HO266.out, by repeat (first | (with_reducible first | exact HB.out | apply below_alloc | apply pw_below_drewN | apply below_drew1) | exact HB.out)⟩
          · rw [if_neg c14] at H
            have c14b0 : (a0 == 89) = false := beq_eq_false_iff_ne.mpr c14
            have c14b1 : (a0 != 89) = true := bne_iff_ne.mpr c14
            by_cases c17 : a0 = 68
            · rw [if_pos c17] at H
              have c17b0 : (a0 == 68) = true := beq_iff_eq.mpr c17
              have c17b1 : (a0 != 68) = false := bne_eq_false_iff_eq.mpr c17
              clear c17
              obtain ⟨y267, hy267⟩ : ∃ y_ : List Int, y_ = (([0, 47, 58, 55295, 57344, 1114111] : List Int)) := ⟨_, rfl⟩
              replace H : ((thistleref04_set.f k y267).bind fun t270 => (some (t270, 0))) = some (r1, r2) := by first | (rw [hy267]; with_reducible exact H) | (have H2_ := (Option.bind_some _ _).symm.trans H; rw [hy267]; with_reducible exact H2_) | (have H2_ := (Option.bind_some _ _).symm.trans H; with_reducible exact H2_) | with_reducible exact H | (rw [hy267]; exact H) | exact H
              have Ny267 := Aside0.mk hy267
              clear hy267
              replace H := Option.bind_eq_some_iff.mp H
              obtain ⟨t270, A180, H⟩ := H
              replace H : (some (t270, 0)) = some (r1, r2) := H
              have A18 := Aside0.mk A180
              clear A180
              simp only [Option.some.injEq, Prod.mk.injEq] at H
              obtain ⟨rfl, rfl⟩ := H
              go_enter Tryd.func21, Tryd.ntmps21
              go_wp2_with (first | ((with_reducible refine gate_dst (N := 32) rfl ?_); refine Kd.R_lit (Kd.int .i32) _ 21 ?hg (N := 32) ?hd (xs := ([0, 47, 58, 55295, 57344, 1114111] : List Int)) (inner := [.int .i32 0, .int .i32 47, .int .i32 58, .int .i32 55295, .int .i32 57344, .int .i32 1114111]) (ok := fun _ => True) (okp := fun _ => True) ?hr ?hp (fun _ hk => hk) trivial (Below.refl _ _) (Nat.le_refl _) (by simp) ?_; (case hd => rfl); (case hg => rfl); (case hr => first | (go_simp; done) | (go_simp; rfl)); (case hp => exact (Reps.one (show Kd.M (Kd.int .i32) _ _ _ 0 [.int .i32 0] from rfl) (Reps.one (show Kd.M (Kd.int .i32) _ _ _ 47 [.int .i32 47] from rfl) (Reps.one (show Kd.M (Kd.int .i32) _ _ _ 58 [.int .i32 58] from rfl) (Reps.one (show Kd.M (Kd.int .i32) _ _ _ 55295 [.int .i32 55295] from rfl) (Reps.one (show Kd.M (Kd.int .i32) _ _ _ 57344 [.int .i32 57344] from rfl) (Reps.one (show Kd.M (Kd.int .i32) _ _ _ 1114111 [.int .i32 1114111] from rfl) (Reps.none _ _)))))))); intro v268 w19 ho20 hb hg_ hnew_; clear hg_ hnew_; (first | rw [← Ny267.out] at ho20 | (simp only [Int.reduceToNat] at ho20; rw [← Ny267.out] at ho20)); have n0_ := Aside0.mk (Kd.R_lower ho20 (below_size (by repeat (first | (with_reducible first | exact HB.out | apply below_alloc | apply pw_below_drewN | apply below_drew1) | exact HB.out)))); have n1_ := Aside0.mk (below_step (by repeat (first | (with_reducible first | exact HB.out | apply below_alloc | apply pw_below_drewN | apply below_drew1) | exact HB.out)) hb); clear HB; have HO269 := n0_; have HB := n1_; clear n0_ n1_; clear hb ho20; obtain ⟨Ao21, co21, eo21⟩ := Kd.R_slice HO269.out; subst eo21) | ((with_reducible refine gate_callee (f := 41) rfl ?_); refine goesL_ (some 33) rfl rfl Tryd.func41 (by kernel_rfl) rfl #[.slice Ao21 y267.length co21] rfl (by (try simp only [List.map_toArray, List.map_cons, List.map_nil]); first | done | rfl | (simp only [List.length_drop, List.length_take]; rfl)) ?_; (with_reducible refine (thistleref04_set.calls k _ _ y267 t270 _ ?side1 ?side2 A18.out).mono ?_); (case side1 => repeat (first | exact (Kd.R_reads' HO269.out).2.2 | (with_reducible refine Kd.C_alloc ?_ _) | (with_reducible refine Kd.C_drewN ?_ _) | (with_reducible refine Kd.C_drew ?_))); (case side2 => exact (Kd.R_reads' HO269.out).2.1); rintro e w22 ⟨v271, rfl, ho0, hb⟩; refine ⟨_, rfl, ?_⟩; have n0_ := Aside0.mk (Kd.R_below (by (with_reducible repeat (first | apply Kd.R_alloc | apply Kd.R_drewN | apply Kd.R_drew)); exact HO269.out) hb); have n1_ := Aside0.mk (Kd.R_lower ho0 (below_size (by repeat (first | (with_reducible first | exact HB.out | apply below_alloc | apply pw_below_drewN | apply below_drew1) | exact HB.out)))); have n2_ := Aside0.mk (below_step (by repeat (first | (with_reducible first | exact HB.out | apply below_alloc | apply pw_below_drewN | apply below_drew1) | exact HB.out)) hb); clear HO269; clear HB; have HO269 := n0_; have HO272 := n1_; have HB := n2_; clear n0_ n1_ n2_; (try clear hb); (try clear hb2); (try clear hk); (try clear hi); (try clear ho0)))
              go_ret2
              exact ⟨_, by first | rfl | (simp [errW_none, errW_some] <;> rfl) | (simp [*, errW_none, errW_some] <;> rfl), by (with_reducible repeat (first | apply Kd.R_alloc | apply Kd.R_drewN | apply Kd.R_drew)); exact HO272.out, by repeat (first | (with_reducible first | exact HB.out | apply below_alloc | apply pw_below_drewN | apply below_drew1) | exact HB.out)⟩
            · rw [if_neg c17] at H
              have c17b0 : (a0 == 68) = false := beq_eq_false_iff_ne.mpr c17
              have c17b1 : (a0 != 68) = true := bne_iff_ne.mpr c17
              by_cases c23 : a0 = 87
              · rw [if_pos c23] at H
                have c23b0 : (a0 == 87) = true := beq_iff_eq.mpr c23
                have c23b1 : (a0 != 87) = false := bne_eq_false_iff_eq.mpr c23
                clear c23
                obtain ⟨y273, hy273⟩ : ∃ y_ : List Int, y_ = (([0, 47, 58, 64, 91, 94, 96, 96, 123, 55295, 57344, 1114111] : List Int)) := ⟨_, rfl⟩
                replace H : ((thistleref04_set.f k y273).bind fun t276 => (some (t276, 0))) = some (r1, r2) := by first | (rw [hy273]; with_reducible exact H) | (have H2_ := (Option.bind_some _ _).symm.trans H; rw [hy273]; with_reducible exact H2_) | (have H2_ := (Option.bind_some _ _).symm.trans H; with_reducible exact H2_) | with_reducible exact H | (rw [hy273]; exact H) | exact H
                have Ny273 := Aside0.mk hy273
                clear hy273
                replace H := Option.bind_eq_some_iff.mp H
                obtain ⟨t276, A240, H⟩ := H
                replace H : (some (t276, 0)) = some (r1, r2) := H
                have A24 := Aside0.mk A240
                clear A240
                simp only [Option.some.injEq, Prod.mk.injEq] at H
                obtain ⟨rfl, rfl⟩ := H
                go_enter Tryd.func21, Tryd.ntmps21
                go_wp2_with (first | ((with_reducible refine gate_dst (N := 36) rfl ?_); refine Kd.R_lit (Kd.int .i32) _ 21 ?hg (N := 36) ?hd (xs := ([0, 47, 58, 64, 91, 94, 96, 96, 123, 55295, 57344, 1114111] : List Int)) (inner := [.int .i32 0, .int .i32 47, .int .i32 58, .int .i32 64, .int .i32 91, .int .i32 94, .int .i32 96, .int .i32 96, .int .i32 123, .int .i32 55295, .int .i32 57344, .int .i32 1114111]) (ok := fun _ => True) (okp := fun _ => True) ?hr ?hp (fun _ hk => hk) trivial (Below.refl _ _) (Nat.le_refl _) (by simp) ?_; (case hd => rfl); (case hg => rfl); (case hr => first | (go_simp; done) | (go_simp; rfl)); (case hp => exact (Reps.one (show Kd.M (Kd.int .i32) _ _ _ 0 [.int .i32 0] from rfl) (Reps.one (show Kd.M (Kd.int .i32) _ _ _ 47 [.int .i32 47] from rfl) (Reps.one (show Kd.M (Kd.int .i32) _ _ _ 58 [.int .i32 58] from rfl) (Reps.one (show Kd.M (Kd.int .i32) _ _ _ 64 [.int .i32 64] from rfl) (Reps.one (show Kd.M (Kd.int .i32) _ _ _ 91 [.int .i32 91] from rfl) (Reps.one (show Kd.M (Kd.int .i32) _ _ _ 94 [.int .i32 94] from rfl) (Reps.one (show Kd.M (Kd.int .i32) _ _ _ 96 [.int .i32 96] from rfl) (Reps.one (show Kd.M (Kd.int .i32) _ _ _ 96 [.int .i32 96] from rfl) (Reps.one (show Kd.M (Kd.int .i32) _ _ _ 123 [.int .i32 123] from rfl) (Reps.one (show Kd.M (Kd.int .i32) _ _ _ 55295 [.int .i32 55295] from rfl) (Reps.one (show Kd.M (Kd.int .i32) _ _ _ 57344 [.int .i32 57344] from rfl) (Reps.one (show Kd.M (Kd.int .i32) _ _ _ 1114111 [.int .i32 1114111] from rfl) (Reps.none _ _)))))))))))))); intro v274 w25 ho26 hb hg_ hnew_; clear hg_ hnew_; (first | rw [← Ny273.out] at ho26 | (simp only [Int.reduceToNat] at ho26; rw [← Ny273.out] at ho26)); have n0_ := Aside0.mk (Kd.R_lower ho26 (below_size (by repeat (first | (with_reducible first | exact HB.out | apply below_alloc | apply pw_below_drewN | apply below_drew1) | exact HB.out)))); have n1_ := Aside0.mk (below_step (by repeat (first | (with_reducible first | exact HB.out | apply below_alloc | apply pw_below_drewN | apply below_drew1) | exact HB.out)) hb); clear HB; have HO275 := n0_; have HB := n1_; clear n0_ n1_; clear hb ho26; obtain ⟨Ao27, co27, eo27⟩ := Kd.R_slice HO275.out; subst eo27) | ((with_reducible refine gate_callee (f := 41) rfl ?_); refine goesL_ (some 37) rfl rfl Tryd.func41 (by kernel_rfl) rfl #[.slice Ao27 y273.length co27] rfl (by (try simp only [List.map_toArray, List.map_cons, List.map_nil]); first | done | rfl | (simp only [List.length_drop, List.length_take]; rfl)) ?_; (with_reducible refine (thistleref04_set.calls k _ _ y273 t276 _ ?side1 ?side2 A24.out).mono ?_); (case side1 => repeat (first | exact (Kd.R_reads' HO275.out).2.2 | (with_reducible refine Kd.C_alloc ?_ _) | (with_reducible refine Kd.C_drewN ?_ _) | (with_reducible refine Kd.C_drew ?_))); (case side2 => exact (Kd.R_reads' HO275.out).2.1); rintro e w28 ⟨v277, rfl, ho0, hb⟩; refine ⟨_, rfl, ?_⟩; have n0_ := Aside0.mk (Kd.R_below (by (with_reducible repeat (first | apply Kd.R_alloc | apply Kd.R_drewN | apply Kd.R_drew)); exact HO275.out) hb); have n1_ := Aside0.mk (Kd.R_lower ho0 (below_size (by repeat (first | (with_reducible first | exact HB.out | apply below_alloc | apply pw_below_drewN | apply below_drew1) | exact HB.out)))); have n2_ := Aside0.mk (below_step (by repeat (first | (with_reducible first | exact HB.out | apply below_alloc | apply pw_below_drewN | apply below_drew1) | exact HB.out)) hb); clear HO275; clear HB; have HO275 := n0_; have HO278 := n1_; have HB := n2_; clear n0_ n1_ n2_; (try clear hb); (try clear hb2); (try clear hk); (try clear hi); (try clear ho0)))
                go_ret2
                exact ⟨_, by first | rfl | (simp [errW_none, errW_some] <;> rfl) | (simp [*, errW_none, errW_some] <;> rfl), by (with_reducible repeat (first | apply Kd.R_alloc | apply Kd.R_drewN | apply Kd.R_drew)); exact HO278.out, by repeat (first | (with_reducible first | exact HB.out | apply below_alloc | apply pw_below_drewN | apply below_drew1) | exact HB.out)⟩
              · rw [if_neg c23] at H
                have c23b0 : (a0 == 87) = false := beq_eq_false_iff_ne.mpr c23
                have c23b1 : (a0 != 87) = true := bne_iff_ne.mpr c23
                by_cases c29 : a0 = 83
                · rw [if_pos c29] at H
                  have c29b0 : (a0 == 83) = true := beq_iff_eq.mpr c29
                  have c29b1 : (a0 != 83) = false := bne_eq_false_iff_eq.mpr c29
                  clear c29
                  obtain ⟨y279, hy279⟩ : ∃ y_ : List Int, y_ = (([0, 8, 14, 31, 33, 55295, 57344, 1114111] : List Int)) := ⟨_, rfl⟩
                  replace H : ((thistleref04_set.f k y279).bind fun t282 => (some (t282, 0))) = some (r1, r2) := by first | (rw [hy279]; with_reducible exact H) | (have H2_ := (Option.bind_some _ _).symm.trans H; rw [hy279]; with_reducible exact H2_) | (have H2_ := (Option.bind_some _ _).symm.trans H; with_reducible exact H2_) | with_reducible exact H | (rw [hy279]; exact H) | exact H
                  have Ny279 := Aside0.mk hy279
                  clear hy279
                  replace H := Option.bind_eq_some_iff.mp H
                  obtain ⟨t282, A300, H⟩ := H
                  replace H : (some (t282, 0)) = some (r1, r2) := H
                  have A30 := Aside0.mk A300
                  clear A300
                  simp only [Option.some.injEq, Prod.mk.injEq] at H
                  obtain ⟨rfl, rfl⟩ := H
                  go_enter Tryd.func21, Tryd.ntmps21
                  go_wp2_with (first | ((with_reducible refine gate_dst (N := 40) rfl ?_); refine Kd.R_lit (Kd.int .i32) _ 21 ?hg (N := 40) ?hd (xs := ([0, 8, 14, 31, 33, 55295, 57344, 1114111] : List Int)) (inner := [.int .i32 0, .int .i32 8, .int .i32 14, .int .i32 31, .int .i32 33, .int .i32 55295, .int .i32 57344, .int .i32 1114111]) (ok := fun _ => True) (okp := fun _ => True) ?hr ?hp (fun _ hk => hk) trivial (Below.refl _ _) (Nat.le_refl _) (by simp) ?_; (case hd => rfl); (case hg => rfl); (case hr => first | (go_simp; done) | (go_simp; rfl)); (case hp => exact (Reps.one (show Kd.M (Kd.int .i32) _ _ _ 0 [.int .i32 0] from rfl) (Reps.one (show Kd.M (Kd.int .i32) _ _ _ 8 [.int .i32 8] from rfl) (Reps.one (show Kd.M (Kd.int .i32) _ _ _ 14 [.int .i32 14] from rfl) (Reps.one (show Kd.M (Kd.int .i32) _ _ _ 31 [.int .i32 31] from rfl) (Reps.one (show Kd.M (Kd.int .i32) _ _ _ 33 [.int .i32 33] from rfl) (Reps.one (show Kd.M (Kd.int .i32) _ _ _ 55295 [.int .i32 55295] from rfl) (Reps.one (show Kd.M (Kd.int .i32) _ _ _ 57344 [.int .i32 57344] from rfl) (Reps.one (show Kd.M (Kd.int .i32) _ _ _ 1114111 [.int .i32 1114111] from rfl) (Reps.none _ _)))))))))); intro v280 w31 ho32 hb hg_ hnew_; clear hg_ hnew_; (first | rw [← Ny279.out] at ho32 | (simp only [Int.reduceToNat] at ho32; rw [← Ny279.out] at ho32)); have n0_ := Aside0.mk (Kd.R_lower ho32 (below_size (by repeat (first | (with_reducible first | exact HB.out | apply below_alloc | apply pw_below_drewN | apply below_drew1) | exact HB.out)))); have n1_ := Aside0.mk (below_step (by repeat (first | (with_reducible first | exact HB.out | apply below_alloc | apply pw_below_drewN | apply below_drew1) | exact HB.out)) hb); clear HB; have HO281 := n0_; have HB := n1_; clear n0_ n1_; clear hb ho32; obtain ⟨Ao33, co33, eo33⟩ := Kd.R_slice HO281.out; subst eo33) | ((with_reducible refine gate_callee (f := 41) rfl ?_); refine goesL_ (some 41) rfl rfl Tryd.func41 (by kernel_rfl) rfl #[.slice Ao33 y279.length co33] rfl (by (try simp only [List.map_toArray, List.map_cons, List.map_nil]); first | done | rfl | (simp only [List.length_drop, List.length_take]; rfl)) ?_; (with_reducible refine (thistleref04_set.calls k _ _ y279 t282 _ ?side1 ?side2 A30.out).mono ?_); (case side1 => repeat (first | exact (Kd.R_reads' HO281.out).2.2 | (with_reducible refine Kd.C_alloc ?_ _) | (with_reducible refine Kd.C_drewN ?_ _) | (with_reducible refine Kd.C_drew ?_))); (case side2 => exact (Kd.R_reads' HO281.out).2.1); rintro e w34 ⟨v283, rfl, ho0, hb⟩; refine ⟨_, rfl, ?_⟩; have n0_ := Aside0.mk (Kd.R_below (by (with_reducible repeat (first | apply Kd.R_alloc | apply Kd.R_drewN | apply Kd.R_drew)); exact HO281.out) hb); have n1_ := Aside0.mk (Kd.R_lower ho0 (below_size (by repeat (first | (with_reducible first | exact HB.out | apply below_alloc | apply pw_below_drewN | apply below_drew1) | exact HB.out)))); have n2_ := Aside0.mk (below_step (by repeat (first | (with_reducible first | exact HB.out | apply below_alloc | apply pw_below_drewN | apply below_drew1) | exact HB.out)) hb); clear HO281; clear HB; have HO281 := n0_; have HO284 := n1_; have HB := n2_; clear n0_ n1_ n2_; (try clear hb); (try clear hb2); (try clear hk); (try clear hi); (try clear ho0)))
                  go_ret2
                  exact ⟨_, by first | rfl | (simp [errW_none, errW_some] <;> rfl) | (simp [*, errW_none, errW_some] <;> rfl), by (with_reducible repeat (first | apply Kd.R_alloc | apply Kd.R_drewN | apply Kd.R_drew)); exact HO284.out, by repeat (first | (with_reducible first | exact HB.out | apply below_alloc | apply pw_below_drewN | apply below_drew1) | exact HB.out)⟩
                · rw [if_neg c29] at H
                  have c29b0 : (a0 == 83) = false := beq_eq_false_iff_ne.mpr c29
                  have c29b1 : (a0 != 83) = true := bne_iff_ne.mpr c29
                  simp only [Option.some.injEq, Prod.mk.injEq] at H
                  obtain ⟨rfl, rfl⟩ := H
                  go_enter Tryd.func21, Tryd.ntmps21
                  go_wp2
                  go_ret2
                  exact ⟨_, by first | rfl | (simp [errW_none, errW_some] <;> rfl) | (simp [*, errW_none, errW_some] <;> rfl), by first | exact Kd.R_nil _ _ _ _ _ | exact Kd.N_nil _ _ _ _ _ | exact Kd.V_nil _ _ _ _ _ | exact Kd.Q_nil _ _ _ _ _ | exact Kd.S_nil _ _ _ _ _, by repeat (first | (with_reducible first | exact HB.out | apply below_alloc | apply pw_below_drewN | apply below_drew1) | exact HB.out)⟩

-- NOT PRINTED: function 4 (thistlelaw04_NamedTable)

-- NOT PRINTED: function 78 (api_Range_rune)

/-! ### sets_has: function 72 -/
/-- what the binary search asks of a range: -1 where it lies below u, 1 where it lies above, else 0 -/
def hasCmp (x : S31) (u : Int) : Int := if x.f1 < u then -1 else if u < x.f0 then 1 else 0
set_option maxHeartbeats 800000 in
theorem has_lit (x y u : Int) (W : World) :
    Calls Tryd.prog 79 #[.agg #[.int .i32 x, .int .i32 y], .int .i32 u] W fun e w' => e = .returned (.int .i64 (hasCmp ⟨x, y⟩ u)) ∧ Below W.heap.size W w' := by
  have hu31 := Tryd.underlying31
  unfold hasCmp
  by_cases h1 : y < u
  · rw [if_pos h1]
    have d1 : decide (y < u) = true := decide_eq_true h1
    go_enter Tryd.func79, Tryd.ntmps79
    go_wp2
    go_ret
    exact ⟨rfl, by repeat (first | exact Below.refl _ _ | apply below_alloc | apply pw_below_drewN | apply below_drew1)⟩
  · rw [if_neg h1]
    have d1 : decide (y < u) = false := decide_eq_false h1
    by_cases h2 : u < x
    · rw [if_pos h2]
      have d2 : decide (u < x) = true := decide_eq_true h2
      go_enter Tryd.func79, Tryd.ntmps79
      go_wp2
      go_ret
      exact ⟨rfl, by repeat (first | exact Below.refl _ _ | apply below_alloc | apply pw_below_drewN | apply below_drew1)⟩
    · rw [if_neg h2]
      have d2 : decide (u < x) = false := decide_eq_false h2
      go_enter Tryd.func79, Tryd.ntmps79
      go_wp2
      go_ret
      exact ⟨rfl, by repeat (first | exact Below.refl _ _ | apply below_alloc | apply pw_below_drewN | apply below_drew1)⟩
/-- the search between i and j: the least place from i on whose range does not lie below u, if the ranges rise -/
def hasFind (u : Int) (l : List S31) : Nat → Nat → Nat → Option Nat
  | 0, _, _ => none
  | k + 1, i, j => if i < j then (if hasCmp (l.getD ((i + j) / 2) z31) u < 0 then hasFind u l k ((i + j) / 2 + 1) j else hasFind u l k i ((i + j) / 2)) else some i
theorem hasFind.mono (u : Int) (l : List S31) : ∀ k i j, LeO (hasFind u l k i j) (hasFind u l (k + 1) i j)
  | 0, _, _ => fun r h => by simp [hasFind] at h
  | k + 1, i, j => by
    have ih := hasFind.mono u l k
    unfold hasFind
    refine LeO.ite (LeO.ite ?_ ?_) (LeO.refl _)
    · exact ih _ _
    · exact ih _ _
def sets_has.f (k : Nat) (l0 : List S31) (a1 : Int) : Option Bool :=
  if l0.length ≤ 4611686018427387903 then ((hasFind a1 l0 k 0 l0.length).bind fun i => some (decide (i < l0.length) && decide (hasCmp (l0.getD i z31) a1 = 0))) else none
theorem sets_has.mono : ∀ a0 a1 k, LeO (sets_has.f k a0 a1) (sets_has.f (k + 1) a0 a1) := by
  intro a0 a1 k
  unfold sets_has.f
  exact LeO.ite (LeO.bind (hasFind.mono _ _ _ _ _) (fun _ => LeO.refl _)) (LeO.none _)
set_option maxHeartbeats 1600000 in
set_option maxRecDepth 100000 in
theorem has_search (k : Nat) (u : Int) (A : Option Addr) (c : Nat) (l : List S31) (n : Nat) (w : World) (hr : Kd.C k31 w A l.length l) (hc : l.length ≤ c) (hb8 : l.length ≤ 4611686018427387903) (h : hasFind u l k 0 l.length = some n) :
    Calls Tryd.prog 78 #[.slice A l.length c, .int .i32 u, .func (.func 79) #[] #[]] w fun e w' => e = .returned (.tuple #[.int .i64 n, .bool (decide (n < l.length) && decide (hasCmp (l.getD n z31) u = 0))]) ∧ Below w.heap.size w w' := by
  have hu31 := Tryd.underlying31
  have HR := Aside0.mk hr
  have HK := Aside0.mk hc
  have HF := Aside0.mk h
  clear hr hc h
  go_enter Tryd.func78, Tryd.ntmps78
  go_wp2
  go_loopw [9, 10] (fun vi vj wr => ∃ i j : Nat, i ≤ j ∧ j ≤ l.length ∧ vi = .int .i64 i ∧ vj = .int .i64 j ∧ Aside0 (∃ k, hasFind u l k i j = some n) ∧ Aside0 (Below w.heap.size w wr)) (fun vi vj _ => (intOf vj).toNat - (intOf vi).toNat)
  case atStart => exact ⟨0, l.length, Nat.zero_le _, Nat.le_refl _, rfl, rfl, ⟨⟨k, HF.out⟩⟩, ⟨Below.refl _ _⟩⟩
  case round =>
    obtain ⟨i, j, hij, hjl, rfl, rfl, HI, HB⟩ := hrel
    by_cases hlt : i < j
    · have hlt1 : decide ((i : Int) < (j : Int)) = true := decide_eq_true (by omega)
      obtain ⟨kk, hkk⟩ := HI.out
      have hn : (((i : Int) + (j : Int)) / 2).toNat = (i + j) / 2 := by omega
      have hrd : rd_T31 l (((i : Int) + (j : Int)) / 2) = l.getD ((i + j) / 2) z31 := by rw [rd_T31, hn]
      obtain ⟨ad, e1, h0, h1⟩ := at_T31 (Kd.C_below HR.out HB.out) (((i : Int) + (j : Int)) / 2) (by omega) (by omega)
      subst e1
      rw [hn] at h0 h1
      have hp : 0 ≤ ((i : Int) + (j : Int)) / 2 := by omega
      have hq : ((i : Int) + (j : Int)) / 2 < (l.length : Int) := by omega
      have HL := Aside0.mk (has_lit (rd_T31 l (((i : Int) + (j : Int)) / 2)).f0 (rd_T31 l (((i : Int) + (j : Int)) / 2)).f1 u wr)
      cases kk with
      | zero => exact absurd hkk (by simp [hasFind])
      | succ kk =>
        rw [hasFind, if_pos hlt] at hkk
        have hce : hasCmp ⟨(rd_T31 l (((i : Int) + (j : Int)) / 2)).f0, (rd_T31 l (((i : Int) + (j : Int)) / 2)).f1⟩ u = hasCmp (l.getD ((i + j) / 2) z31) u := by rw [hrd]
        by_cases hcm : hasCmp (l.getD ((i + j) / 2) z31) u < 0
        · rw [if_pos hcm] at hkk
          have HKK := Aside0.mk hkk
          have d1 : decide (hasCmp ⟨(rd_T31 l (((i : Int) + (j : Int)) / 2)).f0, (rd_T31 l (((i : Int) + (j : Int)) / 2)).f1⟩ u < 0) = true := by rw [hce]; exact decide_eq_true hcm
          clear hkk hcm hce hrd hn
          go_wp2_with (refine HL.out.mono ?_; rintro e w' ⟨rfl, hb⟩; have HB2 := Aside0.mk (below_step HB.out hb); clear hb)
          go_roundw
          case rel => exact ⟨(i + j) / 2 + 1, j, by omega, hjl, by go_num, rfl, ⟨⟨kk, HKK.out⟩⟩, HB2⟩
          case measure => simp [intOf]; omega
        · rw [if_neg hcm] at hkk
          have HKK := Aside0.mk hkk
          have d1 : decide (hasCmp ⟨(rd_T31 l (((i : Int) + (j : Int)) / 2)).f0, (rd_T31 l (((i : Int) + (j : Int)) / 2)).f1⟩ u < 0) = false := by rw [hce]; exact decide_eq_false hcm
          clear hkk hcm hce hrd hn
          go_wp2_with (refine HL.out.mono ?_; rintro e w' ⟨rfl, hb⟩; have HB2 := Aside0.mk (below_step HB.out hb); clear hb)
          go_roundw
          case rel => exact ⟨i, (i + j) / 2, by omega, by omega, rfl, by go_num, ⟨⟨kk, HKK.out⟩⟩, HB2⟩
          case measure => simp [intOf]; omega
    · have hlt1 : decide ((i : Int) < (j : Int)) = false := decide_eq_false (by omega)
      obtain ⟨kk, hkk⟩ := HI.out
      have hin : i = n := by
        cases kk with
        | zero => exact absurd hkk (by simp [hasFind])
        | succ kk => rw [hasFind, if_neg hlt] at hkk; exact Option.some.inj hkk
      subst hin
      clear hkk HI HF
      by_cases hil : i < l.length
      · have d2 : decide ((i : Int) < (l.length : Int)) = true := decide_eq_true (by omega)
        have d3 : decide (i < l.length) = true := decide_eq_true hil
        obtain ⟨ad, e1, h0, h1⟩ := at_T31 (Kd.C_below HR.out HB.out) (i : Int) (by omega) (by omega)
        subst e1
        simp only [Int.toNat_natCast] at h0 h1
        have hrd : rd_T31 l (i : Int) = l.getD i z31 := by simp [rd_T31]
        have HL := Aside0.mk (has_lit (rd_T31 l (i : Int)).f0 (rd_T31 l (i : Int)).f1 u wr)
        have hp : 0 ≤ (i : Int) := by omega
        have hq : (i : Int) < (l.length : Int) := by omega
        have HRD := Aside0.mk hrd
        clear hrd
        go_wp2_with (refine HL.out.mono ?_; rintro e w' ⟨rfl, hb⟩; have HB2 := Aside0.mk (below_step HB.out hb); clear hb)
        go_ret2
        refine ⟨?_, HB2.out⟩
        rw [d3, Bool.true_and, ← HRD.out]
        have hb2 : ∀ x : Int, (x == 0) = decide (x = 0) := fun x => by by_cases hx : x = 0 <;> simp [hx]
        rw [← hb2]
        rfl
      · have d2 : decide ((i : Int) < (l.length : Int)) = false := decide_eq_false (by omega)
        have d3 : decide (i < l.length) = false := decide_eq_false hil
        go_wp2
        go_ret2
        exact ⟨by rw [d3]; rfl, HB.out⟩
set_option maxHeartbeats 800000 in
set_option maxRecDepth 100000 in
theorem sets_has.calls (k : Nat) (A0 : Option Addr) (c0 : Nat) (l0 : List S31) (a1 : Int) (r : Bool) (w : World) (hr0 : Kd.C k31 w A0 l0.length l0) (hc0 : l0.length ≤ c0) (h : sets_has.f k l0 a1 = some r) (hG : GOK w := by first | (with_reducible exact HG_.out) | exact GOK.below HG_.out (by repeat (first | (with_reducible first | exact HB.out | apply below_alloc | apply pw_below_drewN | apply below_drew1 | refine below_set ?_ (Aside0.out (by assumption))) | exact HB.out)) | exact GOK.drewN HG_.out _ | exact GOK.drewN (GOK.drewN HG_.out _) _ | exact GOK.drew HG_.out) :
    Calls Tryd.prog 72 #[.slice A0 l0.length c0, .int .i32 a1] w fun e w' => e = .returned (.bool r) ∧ Below w.heap.size w w' := by
  unfold sets_has.f at h
  by_cases hb8 : l0.length ≤ 4611686018427387903
  · rw [if_pos hb8] at h
    obtain ⟨n, hn, h⟩ := Option.bind_eq_some_iff.mp h
    obtain rfl := Option.some.inj h
    have HC := Aside0.mk (has_search k a1 A0 c0 l0 n w hr0 hc0 hb8 hn)
    clear hr0 hc0 hn h hG hb8
    go_enter Tryd.func72, Tryd.ntmps72
    go_wp2_with (refine HC.out.mono ?_; rintro e w' ⟨rfl, hb⟩; have HB := Aside0.mk hb; clear hb)
    go_ret
    exact ⟨rfl, HB.out⟩
  · rw [if_neg hb8] at h
    cases h

/-! ### sets_Has: function 52 -/
def sets_Has.f (k : Nat) (l0 : List (S31)) (a1 : Int) : Option (Bool × Int) := (sets_Check.f k l0).bind fun t301 => (if t301 = 0 then ((sets_has.f k l0 a1).bind fun t302 => (some (t302, 0))) else (some (false, t301)))
theorem sets_Has.mono : ∀ a0 a1 k, LeO (sets_Has.f k a0 a1) (sets_Has.f (k + 1) a0 a1) := by
  intro a0 a1 k
  unfold sets_Has.f
  repeat' first
      | (with_reducible exact sets_Check.mono _ _)
      | (with_reducible exact sets_has.mono _ _ _)
      | (with_reducible exact LeO.refl _)
      | (with_reducible exact LeO.none _)
      | (with_reducible refine LeO.ite ?_ ?_)
      | (with_reducible refine LeO.bind ?_ (fun _ => ?_))
      | exact sets_Check.mono _ _
      | exact sets_has.mono _ _ _
      | exact LeO.none _
      | refine LeO.ite ?_ ?_
      | refine LeO.bind ?_ (fun _ => ?_)
set_option maxHeartbeats 8000000 in
set_option maxRecDepth 100000 in
theorem sets_Has.calls (k : Nat) (A0 : Option Addr) (c0 : Nat) (l0 : List (S31)) (a1 : Int) (r1 : Bool) (r2 : Int) (w : World) (hr0 : Kd.C k31 w A0 l0.length l0) (hc0 : l0.length ≤ c0) (h : sets_Has.f k l0 a1 = some (r1, r2)) (hG : GOK w := by first | (with_reducible exact HG_.out) | exact GOK.below HG_.out (by repeat (first | (with_reducible first | exact HB.out | apply below_alloc | apply pw_below_drewN | apply below_drew1 | refine below_set ?_ (Aside0.out (by assumption))) | exact HB.out)) | exact GOK.drewN HG_.out _ | exact GOK.drewN (GOK.drewN HG_.out _) _ | exact GOK.drew HG_.out) :
    Calls Tryd.prog 52 #[.slice A0 l0.length c0, .int .i32 a1] w fun e w' => e = .returned (.tuple #[.bool r1, .int .i64 r2]) ∧ Below w.heap.size w w' := by
  have HG_ := Aside0.mk hG
  clear hG
  have HR0 := Aside0.mk hr0
  have HC0 := Aside0.mk hc0
  clear hr0 hc0
  have HB := Aside0.mk (Below.refl w.heap.size w)
  have H : ((sets_Check.f k l0).bind fun t301 => (if t301 = 0 then ((sets_has.f k l0 a1).bind fun t302 => (some (t302, 0))) else (some (false, t301)))) = some (r1, r2) := h
  clear h
  replace H := Option.bind_eq_some_iff.mp H
  obtain ⟨t301, A30, H⟩ := H
  replace H : (if t301 = 0 then ((sets_has.f k l0 a1).bind fun t302 => (some (t302, 0))) else (some (false, t301))) = some (r1, r2) := H
  have A3 := Aside0.mk A30
  clear A30
  by_cases c4 : t301 = 0
  · rw [if_pos c4] at H
    have c4b0 : (t301 == 0) = true := beq_iff_eq.mpr c4
    have c4b1 : (t301 != 0) = false := bne_eq_false_iff_eq.mpr c4
    clear c4
    replace H := Option.bind_eq_some_iff.mp H
    obtain ⟨t302, A50, H⟩ := H
    replace H : (some (t302, 0)) = some (r1, r2) := H
    have A5 := Aside0.mk A50
    clear A50
    simp only [Option.some.injEq, Prod.mk.injEq] at H
    obtain ⟨rfl, rfl⟩ := H
    go_enter Tryd.func52, Tryd.ntmps52
    go_wp2_with (first | ((with_reducible refine gate_callee (f := 19) rfl ?_); refine goesL_ (some 8) rfl rfl Tryd.func19 (by kernel_rfl) rfl #[.slice A0 l0.length c0] rfl (by (try simp only [List.map_toArray, List.map_cons, List.map_nil]); first | done | rfl | (simp only [List.length_drop, List.length_take]; rfl)) ?_; (with_reducible refine (sets_Check.calls k _ _ l0 t301 _ ?side1 ?side2 A3.out).mono ?_); (case side1 => repeat (first | exact HR0.out | (with_reducible refine Kd.C_alloc ?_ _) | (with_reducible refine Kd.C_drewN ?_ _) | (with_reducible refine Kd.C_drew ?_))); (case side2 => exact HC0.out); rintro e w6 ⟨rfl, hb⟩; refine ⟨_, rfl, ?_⟩; have n0_ := Aside0.mk (below_step (by repeat (first | (with_reducible first | exact HB.out | apply below_alloc | apply pw_below_drewN | apply below_drew1) | exact HB.out)) hb); clear HB; have HB := n0_; clear n0_; (try clear hb); (try clear hb2); (try clear hk); (try clear hi)) | ((with_reducible refine gate_callee (f := 72) rfl ?_); refine goesL_ (some 14) rfl rfl Tryd.func72 (by kernel_rfl) rfl #[.slice A0 l0.length c0, .int .i32 a1] rfl (by (try simp only [List.map_toArray, List.map_cons, List.map_nil]); first | done | rfl | (simp only [List.length_drop, List.length_take]; rfl)) ?_; (with_reducible refine (sets_has.calls k _ _ l0 a1 t302 _ ?side1 ?side2 A5.out).mono ?_); (case side1 => repeat (first | exact (Kd.C_below HR0.out HB.out) | (with_reducible refine Kd.C_alloc ?_ _) | (with_reducible refine Kd.C_drewN ?_ _) | (with_reducible refine Kd.C_drew ?_))); (case side2 => exact HC0.out); rintro e w7 ⟨rfl, hb⟩; refine ⟨_, rfl, ?_⟩; have n0_ := Aside0.mk (below_step (by repeat (first | (with_reducible first | exact HB.out | apply below_alloc | apply pw_below_drewN | apply below_drew1) | exact HB.out)) hb); clear HB; have HB := n0_; clear n0_; (try clear hb); (try clear hb2); (try clear hk); (try clear hi)))
    go_ret2
    exact ⟨by first | rfl | (simp [errW_none, errW_some] <;> rfl) | (simp [*, errW_none, errW_some] <;> rfl), by repeat (first | (with_reducible first | exact HB.out | apply below_alloc | apply pw_below_drewN | apply below_drew1) | exact HB.out)⟩
  · rw [if_neg c4] at H
    have c4b0 : (t301 == 0) = false := beq_eq_false_iff_ne.mpr c4
    have c4b1 : (t301 != 0) = true := bne_iff_ne.mpr c4
    simp only [Option.some.injEq, Prod.mk.injEq] at H
    obtain ⟨rfl, rfl⟩ := H
    go_enter Tryd.func52, Tryd.ntmps52
    go_wp2_with (first | ((with_reducible refine gate_callee (f := 19) rfl ?_); refine goesL_ (some 8) rfl rfl Tryd.func19 (by kernel_rfl) rfl #[.slice A0 l0.length c0] rfl (by (try simp only [List.map_toArray, List.map_cons, List.map_nil]); first | done | rfl | (simp only [List.length_drop, List.length_take]; rfl)) ?_; (with_reducible refine (sets_Check.calls k _ _ l0 t301 _ ?side1 ?side2 A3.out).mono ?_); (case side1 => repeat (first | exact HR0.out | (with_reducible refine Kd.C_alloc ?_ _) | (with_reducible refine Kd.C_drewN ?_ _) | (with_reducible refine Kd.C_drew ?_))); (case side2 => exact HC0.out); rintro e w8 ⟨rfl, hb⟩; refine ⟨_, rfl, ?_⟩; have n0_ := Aside0.mk (below_step (by repeat (first | (with_reducible first | exact HB.out | apply below_alloc | apply pw_below_drewN | apply below_drew1) | exact HB.out)) hb); clear HB; have HB := n0_; clear n0_; (try clear hb); (try clear hb2); (try clear hk); (try clear hi)))
    go_ret2
    exact ⟨by first | rfl | (simp [errW_none, errW_some] <;> rfl) | (simp [*, errW_none, errW_some] <;> rfl), by repeat (first | (with_reducible first | exact HB.out | apply below_alloc | apply pw_below_drewN | apply below_drew1) | exact HB.out)⟩

/-! ### thistlelaw04_has: function 28 -/
def thistlelaw04_has.f (k : Nat) (a0 : ByteArray) (a1 : Int) : Option (Bool) := (named_Class.f a0).bind fun bt303 => ((sets_Has.f k bt303.1 a1).bind fun bt307 => (if bt303.2 = 0 then (if bt307.2 = 0 then (some bt307.1) else (some false)) else (some false)))
theorem thistlelaw04_has.mono : ∀ a0 a1 k, LeO (thistlelaw04_has.f k a0 a1) (thistlelaw04_has.f (k + 1) a0 a1) := by
  intro a0 a1 k
  unfold thistlelaw04_has.f
  repeat' first
      | (with_reducible exact sets_Has.mono _ _ _)
      | (with_reducible exact LeO.refl _)
      | (with_reducible exact LeO.none _)
      | (with_reducible refine LeO.ite ?_ ?_)
      | (with_reducible refine LeO.bind ?_ (fun _ => ?_))
      | exact sets_Has.mono _ _ _
      | exact LeO.none _
      | refine LeO.ite ?_ ?_
      | refine LeO.bind ?_ (fun _ => ?_)
set_option maxHeartbeats 8000000 in
set_option maxRecDepth 100000 in
theorem thistlelaw04_has.calls (k : Nat) (a0 : ByteArray) (a1 : Int) (r : Bool) (w : World) (h : thistlelaw04_has.f k a0 a1 = some r) (hG : GOK w := by first | (with_reducible exact HG_.out) | exact GOK.below HG_.out (by repeat (first | (with_reducible first | exact HB.out | apply below_alloc | apply pw_below_drewN | apply below_drew1 | refine below_set ?_ (Aside0.out (by assumption))) | exact HB.out)) | exact GOK.drewN HG_.out _ | exact GOK.drewN (GOK.drewN HG_.out _) _ | exact GOK.drew HG_.out) :
    Calls Tryd.prog 28 #[.string a0, .int .i32 a1] w fun e w' => e = .returned (.bool r) ∧ Below w.heap.size w w' := by
  have HG_ := Aside0.mk hG
  clear hG
  have HB := Aside0.mk (Below.refl w.heap.size w)
  have H : ((named_Class.f a0).bind fun bt303 => ((sets_Has.f k bt303.1 a1).bind fun bt307 => (if bt303.2 = 0 then (if bt307.2 = 0 then (some bt307.1) else (some false)) else (some false)))) = some r := h
  clear h
  replace H := Option.bind_eq_some_iff.mp H
  obtain ⟨⟨t303, t304⟩, A30, H⟩ := H
  replace H : ((sets_Has.f k t303 a1).bind fun bt307 => (if t304 = 0 then (if bt307.2 = 0 then (some bt307.1) else (some false)) else (some false))) = some r := H
  have A3 := Aside0.mk A30
  clear A30
  replace H := Option.bind_eq_some_iff.mp H
  obtain ⟨⟨t307, t308⟩, A40, H⟩ := H
  replace H : (if t304 = 0 then (if t308 = 0 then (some t307) else (some false)) else (some false)) = some r := H
  have A4 := Aside0.mk A40
  clear A40
  by_cases c5 : t304 = 0
  · rw [if_pos c5] at H
    have c5b0 : (t304 == 0) = true := beq_iff_eq.mpr c5
    have c5b1 : (t304 != 0) = false := bne_eq_false_iff_eq.mpr c5
    clear c5
    by_cases c6 : t308 = 0
    · rw [if_pos c6] at H
      have c6b0 : (t308 == 0) = true := beq_iff_eq.mpr c6
      have c6b1 : (t308 != 0) = false := bne_eq_false_iff_eq.mpr c6
      clear c6
      obtain rfl := Option.some.inj H
      go_enter Tryd.func28, Tryd.ntmps28
      go_wp2_with (first | ((with_reducible refine gate_callee (f := 16) rfl ?_); refine goesL_ (some 11) rfl rfl Tryd.func16 (by kernel_rfl) rfl #[.string a0] rfl (by (try simp only [List.map_toArray, List.map_cons, List.map_nil]); first | done | rfl | (simp only [List.length_drop, List.length_take]; rfl)) ?_; (with_reducible refine (named_Class.calls a0 t303 t304 _ A3.out).mono ?_); rintro e w7 ⟨v305, rfl, ho0, hb⟩; refine ⟨_, rfl, ?_⟩; have n0_ := Aside0.mk (Kd.R_lower ho0 (below_size (by repeat (first | (with_reducible first | exact HB.out | apply below_alloc | apply pw_below_drewN | apply below_drew1) | exact HB.out)))); have n1_ := Aside0.mk (below_step (by repeat (first | (with_reducible first | exact HB.out | apply below_alloc | apply pw_below_drewN | apply below_drew1) | exact HB.out)) hb); clear HB; have HO306 := n0_; have HB := n1_; clear n0_ n1_; (try clear hb); (try clear hb2); (try clear hk); (try clear hi); (try clear ho0); obtain ⟨Ao8, co8, eo8⟩ := Kd.R_slice HO306.out; subst eo8) | ((with_reducible refine gate_callee (f := 52) rfl ?_); refine goesL_ (some 17) rfl rfl Tryd.func52 (by kernel_rfl) rfl #[.slice Ao8 t303.length co8, .int .i32 a1] rfl (by (try simp only [List.map_toArray, List.map_cons, List.map_nil]); first | done | rfl | (simp only [List.length_drop, List.length_take]; rfl)) ?_; (with_reducible refine (sets_Has.calls k _ _ t303 a1 t307 t308 _ ?side1 ?side2 A4.out).mono ?_); (case side1 => repeat (first | exact (Kd.R_reads' HO306.out).2.2 | (with_reducible refine Kd.C_alloc ?_ _) | (with_reducible refine Kd.C_drewN ?_ _) | (with_reducible refine Kd.C_drew ?_))); (case side2 => exact (Kd.R_reads' HO306.out).2.1); rintro e w9 ⟨rfl, hb⟩; refine ⟨_, rfl, ?_⟩; have n0_ := Aside0.mk (Kd.R_below (by (with_reducible repeat (first | apply Kd.R_alloc | apply Kd.R_drewN | apply Kd.R_drew)); exact HO306.out) hb); have n1_ := Aside0.mk (below_step (by repeat (first | (with_reducible first | exact HB.out | apply below_alloc | apply pw_below_drewN | apply below_drew1) | exact HB.out)) hb); clear HO306; clear HB; have HO306 := n0_; have HB := n1_; clear n0_ n1_; (try clear hb); (try clear hb2); (try clear hk); (try clear hi)))
      go_ret
      exact ⟨by first | rfl | (simp [errW_none, errW_some] <;> rfl) | (simp [*, errW_none, errW_some] <;> rfl), by repeat (first | (with_reducible first | exact HB.out | apply below_alloc | apply pw_below_drewN | apply below_drew1) | exact HB.out)⟩
    · rw [if_neg c6] at H
      have c6b0 : (t308 == 0) = false := beq_eq_false_iff_ne.mpr c6
      have c6b1 : (t308 != 0) = true := bne_iff_ne.mpr c6
      obtain rfl := Option.some.inj H
      go_enter Tryd.func28, Tryd.ntmps28
      go_wp2_with (first | ((with_reducible refine gate_callee (f := 16) rfl ?_); refine goesL_ (some 11) rfl rfl Tryd.func16 (by kernel_rfl) rfl #[.string a0] rfl (by (try simp only [List.map_toArray, List.map_cons, List.map_nil]); first | done | rfl | (simp only [List.length_drop, List.length_take]; rfl)) ?_; (with_reducible refine (named_Class.calls a0 t303 t304 _ A3.out).mono ?_); rintro e w10 ⟨v305, rfl, ho0, hb⟩; refine ⟨_, rfl, ?_⟩; have n0_ := Aside0.mk (Kd.R_lower ho0 (below_size (by repeat (first | (with_reducible first | exact HB.out | apply below_alloc | apply pw_below_drewN | apply below_drew1) | exact HB.out)))); have n1_ := Aside0.mk (below_step (by repeat (first | (with_reducible first | exact HB.out | apply below_alloc | apply pw_below_drewN | apply below_drew1) | exact HB.out)) hb); clear HB; have HO306 := n0_; have HB := n1_; clear n0_ n1_; (try clear hb); (try clear hb2); (try clear hk); (try clear hi); (try clear ho0); obtain ⟨Ao11, co11, eo11⟩ := Kd.R_slice HO306.out; subst eo11) | ((with_reducible refine gate_callee (f := 52) rfl ?_); refine goesL_ (some 17) rfl rfl Tryd.func52 (by kernel_rfl) rfl #[.slice Ao11 t303.length co11, .int .i32 a1] rfl (by (try simp only [List.map_toArray, List.map_cons, List.map_nil]); first | done | rfl | (simp only [List.length_drop, List.length_take]; rfl)) ?_; (with_reducible refine (sets_Has.calls k _ _ t303 a1 t307 t308 _ ?side1 ?side2 A4.out).mono ?_); (case side1 => repeat (first | exact (Kd.R_reads' HO306.out).2.2 | (with_reducible refine Kd.C_alloc ?_ _) | (with_reducible refine Kd.C_drewN ?_ _) | (with_reducible refine Kd.C_drew ?_))); (case side2 => exact (Kd.R_reads' HO306.out).2.1); rintro e w12 ⟨rfl, hb⟩; refine ⟨_, rfl, ?_⟩; have n0_ := Aside0.mk (Kd.R_below (by (with_reducible repeat (first | apply Kd.R_alloc | apply Kd.R_drewN | apply Kd.R_drew)); exact HO306.out) hb); have n1_ := Aside0.mk (below_step (by repeat (first | (with_reducible first | exact HB.out | apply below_alloc | apply pw_below_drewN | apply below_drew1) | exact HB.out)) hb); clear HO306; clear HB; have HO306 := n0_; have HB := n1_; clear n0_ n1_; (try clear hb); (try clear hb2); (try clear hk); (try clear hi)))
      go_ret
      exact ⟨by first | rfl | (simp [errW_none, errW_some] <;> rfl) | (simp [*, errW_none, errW_some] <;> rfl), by repeat (first | (with_reducible first | exact HB.out | apply below_alloc | apply pw_below_drewN | apply below_drew1) | exact HB.out)⟩
  · rw [if_neg c5] at H
    have c5b0 : (t304 == 0) = false := beq_eq_false_iff_ne.mpr c5
    have c5b1 : (t304 != 0) = true := bne_iff_ne.mpr c5
    obtain rfl := Option.some.inj H
    go_enter Tryd.func28, Tryd.ntmps28
    go_wp2_with (first | ((with_reducible refine gate_callee (f := 16) rfl ?_); refine goesL_ (some 11) rfl rfl Tryd.func16 (by kernel_rfl) rfl #[.string a0] rfl (by (try simp only [List.map_toArray, List.map_cons, List.map_nil]); first | done | rfl | (simp only [List.length_drop, List.length_take]; rfl)) ?_; (with_reducible refine (named_Class.calls a0 t303 t304 _ A3.out).mono ?_); rintro e w13 ⟨v305, rfl, ho0, hb⟩; refine ⟨_, rfl, ?_⟩; have n0_ := Aside0.mk (Kd.R_lower ho0 (below_size (by repeat (first | (with_reducible first | exact HB.out | apply below_alloc | apply pw_below_drewN | apply below_drew1) | exact HB.out)))); have n1_ := Aside0.mk (below_step (by repeat (first | (with_reducible first | exact HB.out | apply below_alloc | apply pw_below_drewN | apply below_drew1) | exact HB.out)) hb); clear HB; have HO306 := n0_; have HB := n1_; clear n0_ n1_; (try clear hb); (try clear hb2); (try clear hk); (try clear hi); (try clear ho0); obtain ⟨Ao14, co14, eo14⟩ := Kd.R_slice HO306.out; subst eo14) | ((with_reducible refine gate_callee (f := 52) rfl ?_); refine goesL_ (some 17) rfl rfl Tryd.func52 (by kernel_rfl) rfl #[.slice Ao14 t303.length co14, .int .i32 a1] rfl (by (try simp only [List.map_toArray, List.map_cons, List.map_nil]); first | done | rfl | (simp only [List.length_drop, List.length_take]; rfl)) ?_; (with_reducible refine (sets_Has.calls k _ _ t303 a1 t307 t308 _ ?side1 ?side2 A4.out).mono ?_); (case side1 => repeat (first | exact (Kd.R_reads' HO306.out).2.2 | (with_reducible refine Kd.C_alloc ?_ _) | (with_reducible refine Kd.C_drewN ?_ _) | (with_reducible refine Kd.C_drew ?_))); (case side2 => exact (Kd.R_reads' HO306.out).2.1); rintro e w15 ⟨rfl, hb⟩; refine ⟨_, rfl, ?_⟩; have n0_ := Aside0.mk (Kd.R_below (by (with_reducible repeat (first | apply Kd.R_alloc | apply Kd.R_drewN | apply Kd.R_drew)); exact HO306.out) hb); have n1_ := Aside0.mk (below_step (by repeat (first | (with_reducible first | exact HB.out | apply below_alloc | apply pw_below_drewN | apply below_drew1) | exact HB.out)) hb); clear HO306; clear HB; have HO306 := n0_; have HB := n1_; clear n0_ n1_; (try clear hb); (try clear hb2); (try clear hk); (try clear hi)))
    go_ret
    exact ⟨by first | rfl | (simp [errW_none, errW_some] <;> rfl) | (simp [*, errW_none, errW_some] <;> rfl), by repeat (first | (with_reducible first | exact HB.out | apply below_alloc | apply pw_below_drewN | apply below_drew1) | exact HB.out)⟩

/-! ### thistlelaw04_hasLetter: function 29 -/
def thistlelaw04_hasLetter.f (k : Nat) (a0 : Int) (a1 : Int) : Option (Bool) := (named_Escape.f k a0).bind fun bt309 => ((sets_Has.f k bt309.1 a1).bind fun bt313 => (if bt309.2 = 0 then (if bt313.2 = 0 then (some bt313.1) else (some false)) else (some false)))
theorem thistlelaw04_hasLetter.mono : ∀ a0 a1 k, LeO (thistlelaw04_hasLetter.f k a0 a1) (thistlelaw04_hasLetter.f (k + 1) a0 a1) := by
  intro a0 a1 k
  unfold thistlelaw04_hasLetter.f
  repeat' first
      | (with_reducible exact named_Escape.mono _ _)
      | (with_reducible exact sets_Has.mono _ _ _)
      | (with_reducible exact LeO.refl _)
      | (with_reducible exact LeO.none _)
      | (with_reducible refine LeO.ite ?_ ?_)
      | (with_reducible refine LeO.bind ?_ (fun _ => ?_))
      | exact named_Escape.mono _ _
      | exact sets_Has.mono _ _ _
      | exact LeO.none _
      | refine LeO.ite ?_ ?_
      | refine LeO.bind ?_ (fun _ => ?_)
set_option maxHeartbeats 8000000 in
set_option maxRecDepth 100000 in
theorem thistlelaw04_hasLetter.calls (k : Nat) (a0 : Int) (a1 : Int) (r : Bool) (w : World) (h : thistlelaw04_hasLetter.f k a0 a1 = some r) (hG : GOK w := by first | (with_reducible exact HG_.out) | exact GOK.below HG_.out (by repeat (first | (with_reducible first | exact HB.out | apply below_alloc | apply pw_below_drewN | apply below_drew1 | refine below_set ?_ (Aside0.out (by assumption))) | exact HB.out)) | exact GOK.drewN HG_.out _ | exact GOK.drewN (GOK.drewN HG_.out _) _ | exact GOK.drew HG_.out) :
    Calls Tryd.prog 29 #[.int .i32 a0, .int .i32 a1] w fun e w' => e = .returned (.bool r) ∧ Below w.heap.size w w' := by
  have HG_ := Aside0.mk hG
  clear hG
  have HB := Aside0.mk (Below.refl w.heap.size w)
  have H : ((named_Escape.f k a0).bind fun bt309 => ((sets_Has.f k bt309.1 a1).bind fun bt313 => (if bt309.2 = 0 then (if bt313.2 = 0 then (some bt313.1) else (some false)) else (some false)))) = some r := h
  clear h
  replace H := Option.bind_eq_some_iff.mp H
  obtain ⟨⟨t309, t310⟩, A30, H⟩ := H
  replace H : ((sets_Has.f k t309 a1).bind fun bt313 => (if t310 = 0 then (if bt313.2 = 0 then (some bt313.1) else (some false)) else (some false))) = some r := H
  have A3 := Aside0.mk A30
  clear A30
  replace H := Option.bind_eq_some_iff.mp H
  obtain ⟨⟨t313, t314⟩, A40, H⟩ := H
  replace H : (if t310 = 0 then (if t314 = 0 then (some t313) else (some false)) else (some false)) = some r := H
  have A4 := Aside0.mk A40
  clear A40
  by_cases c5 : t310 = 0
  · rw [if_pos c5] at H
    have c5b0 : (t310 == 0) = true := beq_iff_eq.mpr c5
    have c5b1 : (t310 != 0) = false := bne_eq_false_iff_eq.mpr c5
    clear c5
    by_cases c6 : t314 = 0
    · rw [if_pos c6] at H
      have c6b0 : (t314 == 0) = true := beq_iff_eq.mpr c6
      have c6b1 : (t314 != 0) = false := bne_eq_false_iff_eq.mpr c6
      clear c6
      obtain rfl := Option.some.inj H
      go_enter Tryd.func29, Tryd.ntmps29
      go_wp2_with (first | ((with_reducible refine gate_callee (f := 20) rfl ?_); refine goesL_ (some 11) rfl rfl Tryd.func20 (by kernel_rfl) rfl #[.int .i32 a0] rfl (by (try simp only [List.map_toArray, List.map_cons, List.map_nil]); first | done | rfl | (simp only [List.length_drop, List.length_take]; rfl)) ?_; (with_reducible refine (named_Escape.calls k a0 t309 t310 _ A3.out).mono ?_); rintro e w7 ⟨v311, rfl, ho0, hb⟩; refine ⟨_, rfl, ?_⟩; have n0_ := Aside0.mk (Kd.R_lower ho0 (below_size (by repeat (first | (with_reducible first | exact HB.out | apply below_alloc | apply pw_below_drewN | apply below_drew1) | exact HB.out)))); have n1_ := Aside0.mk (below_step (by repeat (first | (with_reducible first | exact HB.out | apply below_alloc | apply pw_below_drewN | apply below_drew1) | exact HB.out)) hb); clear HB; have HO312 := n0_; have HB := n1_; clear n0_ n1_; (try clear hb); (try clear hb2); (try clear hk); (try clear hi); (try clear ho0); obtain ⟨Ao8, co8, eo8⟩ := Kd.R_slice HO312.out; subst eo8) | ((with_reducible refine gate_callee (f := 52) rfl ?_); refine goesL_ (some 17) rfl rfl Tryd.func52 (by kernel_rfl) rfl #[.slice Ao8 t309.length co8, .int .i32 a1] rfl (by (try simp only [List.map_toArray, List.map_cons, List.map_nil]); first | done | rfl | (simp only [List.length_drop, List.length_take]; rfl)) ?_; (with_reducible refine (sets_Has.calls k _ _ t309 a1 t313 t314 _ ?side1 ?side2 A4.out).mono ?_); (case side1 => repeat (first | exact (Kd.R_reads' HO312.out).2.2 | (with_reducible refine Kd.C_alloc ?_ _) | (with_reducible refine Kd.C_drewN ?_ _) | (with_reducible refine Kd.C_drew ?_))); (case side2 => exact (Kd.R_reads' HO312.out).2.1); rintro e w9 ⟨rfl, hb⟩; refine ⟨_, rfl, ?_⟩; have n0_ := Aside0.mk (Kd.R_below (by (with_reducible repeat (first | apply Kd.R_alloc | apply Kd.R_drewN | apply Kd.R_drew)); exact HO312.out) hb); have n1_ := Aside0.mk (below_step (by repeat (first | (with_reducible first | exact HB.out | apply below_alloc | apply pw_below_drewN | apply below_drew1) | exact HB.out)) hb); clear HO312; clear HB; have HO312 := n0_; have HB := n1_; clear n0_ n1_; (try clear hb); (try clear hb2); (try clear hk); (try clear hi)))
      go_ret
      exact ⟨by first | rfl | (simp [errW_none, errW_some] <;> rfl) | (simp [*, errW_none, errW_some] <;> rfl), by repeat (first | (with_reducible first | exact HB.out | apply below_alloc | apply pw_below_drewN | apply below_drew1) | exact HB.out)⟩
    · rw [if_neg c6] at H
      have c6b0 : (t314 == 0) = false := beq_eq_false_iff_ne.mpr c6
      have c6b1 : (t314 != 0) = true := bne_iff_ne.mpr c6
      obtain rfl := Option.some.inj H
      go_enter Tryd.func29, Tryd.ntmps29
      go_wp2_with (first | ((with_reducible refine gate_callee (f := 20) rfl ?_); refine goesL_ (some 11) rfl rfl Tryd.func20 (by kernel_rfl) rfl #[.int .i32 a0] rfl (by (try simp only [List.map_toArray, List.map_cons, List.map_nil]); first | done | rfl | (simp only [List.length_drop, List.length_take]; rfl)) ?_; (with_reducible refine (named_Escape.calls k a0 t309 t310 _ A3.out).mono ?_); rintro e w10 ⟨v311, rfl, ho0, hb⟩; refine ⟨_, rfl, ?_⟩; have n0_ := Aside0.mk (Kd.R_lower ho0 (below_size (by repeat (first | (with_reducible first | exact HB.out | apply below_alloc | apply pw_below_drewN | apply below_drew1) | exact HB.out)))); have n1_ := Aside0.mk (below_step (by repeat (first | (with_reducible first | exact HB.out | apply below_alloc | apply pw_below_drewN | apply below_drew1) | exact HB.out)) hb); clear HB; have HO312 := n0_; have HB := n1_; clear n0_ n1_; (try clear hb); (try clear hb2); (try clear hk); (try clear hi); (try clear ho0); obtain ⟨Ao11, co11, eo11⟩ := Kd.R_slice HO312.out; subst eo11) | ((with_reducible refine gate_callee (f := 52) rfl ?_); refine goesL_ (some 17) rfl rfl Tryd.func52 (by kernel_rfl) rfl #[.slice Ao11 t309.length co11, .int .i32 a1] rfl (by (try simp only [List.map_toArray, List.map_cons, List.map_nil]); first | done | rfl | (simp only [List.length_drop, List.length_take]; rfl)) ?_; (with_reducible refine (sets_Has.calls k _ _ t309 a1 t313 t314 _ ?side1 ?side2 A4.out).mono ?_); (case side1 => repeat (first | exact (Kd.R_reads' HO312.out).2.2 | (with_reducible refine Kd.C_alloc ?_ _) | (with_reducible refine Kd.C_drewN ?_ _) | (with_reducible refine Kd.C_drew ?_))); (case side2 => exact (Kd.R_reads' HO312.out).2.1); rintro e w12 ⟨rfl, hb⟩; refine ⟨_, rfl, ?_⟩; have n0_ := Aside0.mk (Kd.R_below (by (with_reducible repeat (first | apply Kd.R_alloc | apply Kd.R_drewN | apply Kd.R_drew)); exact HO312.out) hb); have n1_ := Aside0.mk (below_step (by repeat (first | (with_reducible first | exact HB.out | apply below_alloc | apply pw_below_drewN | apply below_drew1) | exact HB.out)) hb); clear HO312; clear HB; have HO312 := n0_; have HB := n1_; clear n0_ n1_; (try clear hb); (try clear hb2); (try clear hk); (try clear hi)))
      go_ret
      exact ⟨by first | rfl | (simp [errW_none, errW_some] <;> rfl) | (simp [*, errW_none, errW_some] <;> rfl), by repeat (first | (with_reducible first | exact HB.out | apply below_alloc | apply pw_below_drewN | apply below_drew1) | exact HB.out)⟩
  · rw [if_neg c5] at H
    have c5b0 : (t310 == 0) = false := beq_eq_false_iff_ne.mpr c5
    have c5b1 : (t310 != 0) = true := bne_iff_ne.mpr c5
    obtain rfl := Option.some.inj H
    go_enter Tryd.func29, Tryd.ntmps29
    go_wp2_with (first | ((with_reducible refine gate_callee (f := 20) rfl ?_); refine goesL_ (some 11) rfl rfl Tryd.func20 (by kernel_rfl) rfl #[.int .i32 a0] rfl (by (try simp only [List.map_toArray, List.map_cons, List.map_nil]); first | done | rfl | (simp only [List.length_drop, List.length_take]; rfl)) ?_; (with_reducible refine (named_Escape.calls k a0 t309 t310 _ A3.out).mono ?_); rintro e w13 ⟨v311, rfl, ho0, hb⟩; refine ⟨_, rfl, ?_⟩; have n0_ := Aside0.mk (Kd.R_lower ho0 (below_size (by repeat (first | (with_reducible first | exact HB.out | apply below_alloc | apply pw_below_drewN | apply below_drew1) | exact HB.out)))); have n1_ := Aside0.mk (below_step (by repeat (first | (with_reducible first | exact HB.out | apply below_alloc | apply pw_below_drewN | apply below_drew1) | exact HB.out)) hb); clear HB; have HO312 := n0_; have HB := n1_; clear n0_ n1_; (try clear hb); (try clear hb2); (try clear hk); (try clear hi); (try clear ho0); obtain ⟨Ao14, co14, eo14⟩ := Kd.R_slice HO312.out; subst eo14) | ((with_reducible refine gate_callee (f := 52) rfl ?_); refine goesL_ (some 17) rfl rfl Tryd.func52 (by kernel_rfl) rfl #[.slice Ao14 t309.length co14, .int .i32 a1] rfl (by (try simp only [List.map_toArray, List.map_cons, List.map_nil]); first | done | rfl | (simp only [List.length_drop, List.length_take]; rfl)) ?_; (with_reducible refine (sets_Has.calls k _ _ t309 a1 t313 t314 _ ?side1 ?side2 A4.out).mono ?_); (case side1 => repeat (first | exact (Kd.R_reads' HO312.out).2.2 | (with_reducible refine Kd.C_alloc ?_ _) | (with_reducible refine Kd.C_drewN ?_ _) | (with_reducible refine Kd.C_drew ?_))); (case side2 => exact (Kd.R_reads' HO312.out).2.1); rintro e w15 ⟨rfl, hb⟩; refine ⟨_, rfl, ?_⟩; have n0_ := Aside0.mk (Kd.R_below (by (with_reducible repeat (first | apply Kd.R_alloc | apply Kd.R_drewN | apply Kd.R_drew)); exact HO312.out) hb); have n1_ := Aside0.mk (below_step (by repeat (first | (with_reducible first | exact HB.out | apply below_alloc | apply pw_below_drewN | apply below_drew1) | exact HB.out)) hb); clear HO312; clear HB; have HO312 := n0_; have HB := n1_; clear n0_ n1_; (try clear hb); (try clear hb2); (try clear hk); (try clear hi)))
    go_ret
    exact ⟨by first | rfl | (simp [errW_none, errW_some] <;> rfl) | (simp [*, errW_none, errW_some] <;> rfl), by repeat (first | (with_reducible first | exact HB.out | apply below_alloc | apply pw_below_drewN | apply below_drew1) | exact HB.out)⟩

end Go.Proofs.YthjobemnblakjaaDoor.XN
