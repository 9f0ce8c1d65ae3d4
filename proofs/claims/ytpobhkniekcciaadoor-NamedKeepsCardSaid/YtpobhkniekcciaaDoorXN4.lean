/- WRITTEN BY A PROGRAM OF THIS SESSION (wip/tools/xprint.py, over the kit's printer): contracts of the functions that the seat's laws reach. -/
import Derived.Test.YtpobhkniekcciaaDoorXN0
import Derived.Test.YtpobhkniekcciaaDoorXN1
import Derived.Test.YtpobhkniekcciaaDoorXN2
import Derived.Test.YtpobhkniekcciaaDoorXN3
namespace Go.Proofs.YtpobhkniekcciaaDoor.XN
open Go.RowKit Go.Proofs.YtpobhkniekcciaaDoorW.PrintWords Go.Proofs.YtpobhkniekcciaaDoorW.PrintLast Go.Proofs.YtpobhkniekcciaaDoorW.PrintMore
attribute [local go_sem] max2_int min2_int max_two min_two max_three min_three max_four min_four   -- for this text's walks alone
set_option linter.unusedVariables false
set_option linter.unusedSimpArgs false

/-! ### sets_NotRunes: function 76 -/
def bands2L : List S78 := [⟨0, 55295⟩, ⟨57344, 1114111⟩]
theorem bands2_reads {w : World} (hG : GOK w) : Kd.C k78 w (some ⟨0, 0, none⟩) bands2L.length bands2L := Kd.C_take (m := 2) (bands_reads hG) (by simp [bandsL])
def sets_NotRunes.f (k : Nat) (l0 : List S78) : Option (List S78 × Int) :=
  (sets_Check.f k l0).bind fun e => if e = 0 then ((sets_without.f k bands2L l0).bind fun o => some (o, 0)) else some ([], e)
theorem sets_NotRunes.mono : ∀ a0 k, LeO (sets_NotRunes.f k a0) (sets_NotRunes.f (k + 1) a0) := by
  intro a0 k
  unfold sets_NotRunes.f
  refine LeO.bind (sets_Check.mono _ _) (fun _ => ?_)
  refine LeO.ite ?_ (LeO.refl _)
  exact LeO.bind (sets_without.mono _ _ _) (fun _ => LeO.refl _)
set_option maxHeartbeats 800000 in
set_option maxRecDepth 100000 in
theorem sets_NotRunes.calls (k : Nat) (A0 : Option Addr) (c0 : Nat) (l0 : List S78) (r1 : List S78) (r2 : Int) (w : World) (hr0 : Kd.C k78 w A0 l0.length l0) (hc0 : l0.length ≤ c0) (h : sets_NotRunes.f k l0 = some (r1, r2)) (hG : GOK w := by first | (with_reducible exact HG_.out) | exact GOK.below HG_.out (by repeat (first | (with_reducible exact Below.refl _ _) | (with_reducible first | exact HB.out | apply below_alloc | apply pw_below_drewN | apply below_drew1 | refine below_set ?_ (Aside0.out (by assumption))) | exact HB.out)) | exact GOK.drewN HG_.out _ | exact GOK.drewN (GOK.drewN HG_.out _) _ | exact GOK.drew HG_.out) :
    Calls Tryd.prog 76 #[.slice A0 l0.length c0] w fun e w' => ∃ v0_ : Value, e = .returned (.tuple #[v0_, .int .i64 r2]) ∧ Kd.R k78 78 w' w.heap.size (fun _ => True) v0_ r1 ∧ Below w.heap.size w w' := by
  unfold sets_NotRunes.f at h
  obtain ⟨e, he, h⟩ := Option.bind_eq_some_iff.mp h
  have HC := Aside0.mk (sets_Check.calls k A0 c0 l0 e w hr0 hc0 he hG)
  have HR := Aside0.mk hr0
  have HK := Aside0.mk hc0
  have HE := Aside0.mk he
  have HGG := Aside0.mk hG
  clear hr0 hc0 he hG
  by_cases e0 : e = 0
  · rw [if_pos e0] at h
    obtain ⟨o, ho, h⟩ := Option.bind_eq_some_iff.mp h
    obtain ⟨rfl, rfl⟩ : o = r1 ∧ (0 : Int) = r2 := by simpa using h
    have HO := Aside0.mk ho
    subst e0
    clear ho h
    go_enter Tryd.func76, Tryd.ntmps76
    go_wp2_with fail
    refine HC.out.mono ?_
    rintro e w1 ⟨rfl, hb⟩
    have HB := Aside0.mk hb
    clear hb
    go_wp2_with fail
    refine (sets_without.calls k (some ⟨0, 0, none⟩) 3 bands2L A0 c0 l0 o _ (bands2_reads (HGG.out.below HB.out)) (by simp [bands2L]) (Kd.C_below HR.out HB.out) HK.out HO.out (HGG.out.below HB.out)).mono ?_
    rintro e w2 ⟨v, rfl, hv, hb⟩
    have HV := Aside0.mk (Kd.R_lower hv HB.out.size)
    have HB2 := Aside0.mk (below_step HB.out hb)
    clear hv hb
    go_wp2_with fail
    go_ret2
    exact ⟨v, rfl, HV.out, HB2.out⟩
  · rw [if_neg e0] at h
    obtain ⟨rfl, rfl⟩ : ([] : List S78) = r1 ∧ e = r2 := by simpa using h
    have en : (e != 0) = true := bne_iff_ne.mpr e0
    go_enter Tryd.func76, Tryd.ntmps76
    go_wp2_with fail
    refine HC.out.mono ?_
    rintro e w1 ⟨rfl, hb⟩
    have HB := Aside0.mk hb
    clear hb
    go_wp2_with fail
    go_ret2
    exact ⟨_, rfl, Kd.R_nil _ _ _ _ _, HB.out⟩

/-! ### named_Escape: function 31 -/
mutual
def named_Escape.j0 : Nat → Int → Int → Bool → Option ((List (S78)) × Int)
  | 0, _, _, _ => none
  | k + 1, x0, x6, x22 => if x22 = true then ((named_Escape.f k (wrap32 ((wrap32 (x0 + 97)) - 65))).bind fun bt144 => ((sets_NotRunes.f k bt144.1).bind fun bt148 => (some (bt148.1, bt148.2)))) else (if x6 = 67 then ((named_Class.f (⟨#[97, 110, 121]⟩ : ByteArray)).bind fun bt152 => (some (bt152.1, bt152.2))) else (if x6 = 89 then ((named_Class.f (⟨#[98, 97, 100]⟩ : ByteArray)).bind fun bt156 => (some (bt156.1, bt156.2))) else (some (([] : List (S78)), 9))))
def named_Escape.f : Nat → Int → Option ((List (S78)) × Int)
  | 0, _ => none
  | k + 1, a0 => if a0 = 100 then ((named_Class.f (⟨#[100, 105, 103, 105, 116]⟩ : ByteArray)).bind fun bt132 => (some (bt132.1, bt132.2))) else (if a0 = 119 then ((named_Class.f (⟨#[119, 111, 114, 100]⟩ : ByteArray)).bind fun bt136 => (some (bt136.1, bt136.2))) else (if a0 = 115 then ((named_Class.f (⟨#[115, 112, 97, 99, 101]⟩ : ByteArray)).bind fun bt140 => (some (bt140.1, bt140.2))) else (if a0 = 68 then (named_Escape.j0 k a0 a0 (a0 == 68)) else (if a0 = 87 then (named_Escape.j0 k a0 a0 (a0 == 87)) else (named_Escape.j0 k a0 a0 (a0 == 83))))))
end
theorem named_Escape.mono_l : ∀ k, (∀ y0, LeO (named_Escape.f k y0) (named_Escape.f (k + 1) y0)) ∧ (∀ y0 y1 y2, LeO (named_Escape.j0 k y0 y1 y2) (named_Escape.j0 (k + 1) y0 y1 y2))
  | 0 => ⟨fun _ r h => by simp [named_Escape.f] at h, fun _ _ _ r h => by simp [named_Escape.j0] at h⟩
  | k + 1 => by
    obtain ⟨ih0, ih1⟩ := named_Escape.mono_l k
    refine ⟨?_, ?_⟩
    · intro y0
      unfold named_Escape.f
      repeat' first
      | (with_reducible exact ih0 _)
      | (with_reducible exact ih1 _ _ _)
      | (with_reducible exact sets_NotRunes.mono _ _)
      | (with_reducible exact LeO.refl _)
      | (with_reducible exact LeO.none _)
      | (with_reducible refine LeO.ite ?_ ?_)
      | (with_reducible refine LeO.bind ?_ (fun _ => ?_))
      | exact ih0 _
      | exact ih1 _ _ _
      | exact sets_NotRunes.mono _ _
      | exact LeO.none _
      | refine LeO.ite ?_ ?_
      | refine LeO.bind ?_ (fun _ => ?_)
    · intro y0 y1 y2
      unfold named_Escape.j0
      repeat' first
      | (with_reducible exact ih0 _)
      | (with_reducible exact ih1 _ _ _)
      | (with_reducible exact sets_NotRunes.mono _ _)
      | (with_reducible exact LeO.refl _)
      | (with_reducible exact LeO.none _)
      | (with_reducible refine LeO.ite ?_ ?_)
      | (with_reducible refine LeO.bind ?_ (fun _ => ?_))
      | exact ih0 _
      | exact ih1 _ _ _
      | exact sets_NotRunes.mono _ _
      | exact LeO.none _
      | refine LeO.ite ?_ ?_
      | refine LeO.bind ?_ (fun _ => ?_)
theorem named_Escape.mono : ∀ a0 k, LeO (named_Escape.f k a0) (named_Escape.f (k + 1) a0) := by
  intro a0 k
  obtain ⟨ih0, ih1⟩ := named_Escape.mono_l k
  exact ih0 a0
set_option maxHeartbeats 8000000 in
set_option maxRecDepth 100000 in
theorem named_Escape.calls (k : Nat) : ∀ (a0 : Int) (r1 : List (S78)) (r2 : Int) (w : World) (h : named_Escape.f k a0 = some (r1, r2)) (hG : GOK w := by first | (with_reducible exact HG_.out) | exact GOK.below HG_.out (by repeat (first | (with_reducible exact Below.refl _ _) | (with_reducible first | exact HB.out | apply below_alloc | apply pw_below_drewN | apply below_drew1 | refine below_set ?_ (Aside0.out (by assumption))) | exact HB.out)) | exact GOK.drewN HG_.out _ | exact GOK.drewN (GOK.drewN HG_.out _) _ | exact GOK.drew HG_.out),
    Calls Tryd.prog 31 #[.int .i32 a0] w fun e w' => ∃ v0_ : Value, e = .returned (.tuple #[v0_, .int .i64 r2]) ∧ Kd.R k78 78 w' w.heap.size (fun _ => True) v0_ r1 ∧ Below w.heap.size w w' := by
  induction k using Nat.strongRecOn with
  | _ k ih =>
  intro a0 r1 r2 w h hG
  cases k with
  | zero => exact absurd h (by simp [named_Escape.f])
  | succ k =>
  simp only [named_Escape.f] at h
  have HG_ := Aside0.mk hG
  clear hG
  have HB := Aside0.mk (Below.refl w.heap.size w)
  have H : (if a0 = 100 then ((named_Class.f (⟨#[100, 105, 103, 105, 116]⟩ : ByteArray)).bind fun bt132 => (some (bt132.1, bt132.2))) else (if a0 = 119 then ((named_Class.f (⟨#[119, 111, 114, 100]⟩ : ByteArray)).bind fun bt136 => (some (bt136.1, bt136.2))) else (if a0 = 115 then ((named_Class.f (⟨#[115, 112, 97, 99, 101]⟩ : ByteArray)).bind fun bt140 => (some (bt140.1, bt140.2))) else (if a0 = 68 then (named_Escape.j0 k a0 a0 (a0 == 68)) else (if a0 = 87 then (named_Escape.j0 k a0 a0 (a0 == 87)) else (named_Escape.j0 k a0 a0 (a0 == 83))))))) = some (r1, r2) := h
  clear h
  by_cases c2 : a0 = 100
  · rw [if_pos c2] at H
    have c2b0 : (a0 == 100) = true := beq_iff_eq.mpr c2
    have c2b1 : (a0 != 100) = false := bne_eq_false_iff_eq.mpr c2
    clear c2
    replace H := Option.bind_eq_some_iff.mp H
    obtain ⟨⟨t132, t133⟩, A30, H⟩ := H
    replace H : (some (t132, t133)) = some (r1, r2) := H
    have A3 := Aside0.mk A30
    clear A30
    simp only [Option.some.injEq, Prod.mk.injEq] at H
    obtain ⟨rfl, rfl⟩ := H
    go_enter Tryd.func31, Tryd.ntmps31
    go_wp2_with (first | ((with_reducible refine gate_callee (f := 30) rfl ?_); refine goesL_ (some 9) rfl rfl Tryd.func30 (by kernel_rfl) rfl #[.string (⟨#[100, 105, 103, 105, 116]⟩ : ByteArray)] rfl (by (try simp only [List.map_toArray, List.map_cons, List.map_nil]); first | done | rfl | (simp only [List.length_drop, List.length_take]; rfl)) ?_; (with_reducible refine (named_Class.calls (⟨#[100, 105, 103, 105, 116]⟩ : ByteArray) t132 t133 _ A3.out).mono ?_); rintro e w4 ⟨v134, rfl, ho0, hb⟩; refine ⟨_, rfl, ?_⟩; have n0_ := Aside0.mk (Kd.R_lower ho0 (below_size (by repeat (first | (with_reducible first | exact HB.out | apply below_alloc | apply pw_below_drewN | apply below_drew1) | exact HB.out)))); have n1_ := Aside0.mk (below_step (by repeat (first | (with_reducible first | exact HB.out | apply below_alloc | apply pw_below_drewN | apply below_drew1) | exact HB.out)) hb); clear HB; have HO135 := n0_; have HB := n1_; clear n0_ n1_; (try clear hb); (try clear hb2); (try clear hk); (try clear hi); (try clear ho0)))
    go_ret2
    exact ⟨_, by first | rfl | (simp [errW_none, errW_some] <;> rfl) | (simp [*, errW_none, errW_some] <;> rfl), by (with_reducible repeat (first | apply Kd.R_alloc | apply Kd.R_drewN | apply Kd.R_drew)); exact HO135.out, by repeat (first | (with_reducible first | exact HB.out | apply below_alloc | apply pw_below_drewN | apply below_drew1) | exact HB.out)⟩
  · rw [if_neg c2] at H
    have c2b0 : (a0 == 100) = false := beq_eq_false_iff_ne.mpr c2
    have c2b1 : (a0 != 100) = true := bne_iff_ne.mpr c2
    by_cases c5 : a0 = 119
    · rw [if_pos c5] at H
      have c5b0 : (a0 == 119) = true := beq_iff_eq.mpr c5
      have c5b1 : (a0 != 119) = false := bne_eq_false_iff_eq.mpr c5
      clear c5
      replace H := Option.bind_eq_some_iff.mp H
      obtain ⟨⟨t136, t137⟩, A60, H⟩ := H
      replace H : (some (t136, t137)) = some (r1, r2) := H
      have A6 := Aside0.mk A60
      clear A60
      simp only [Option.some.injEq, Prod.mk.injEq] at H
      obtain ⟨rfl, rfl⟩ := H
      go_enter Tryd.func31, Tryd.ntmps31
      go_wp2_with (first | ((with_reducible refine gate_callee (f := 30) rfl ?_); refine goesL_ (some 14) rfl rfl Tryd.func30 (by kernel_rfl) rfl #[.string (⟨#[119, 111, 114, 100]⟩ : ByteArray)] rfl (by (try simp only [List.map_toArray, List.map_cons, List.map_nil]); first | done | rfl | (simp only [List.length_drop, List.length_take]; rfl)) ?_; (with_reducible refine (named_Class.calls (⟨#[119, 111, 114, 100]⟩ : ByteArray) t136 t137 _ A6.out).mono ?_); rintro e w7 ⟨v138, rfl, ho0, hb⟩; refine ⟨_, rfl, ?_⟩; have n0_ := Aside0.mk (Kd.R_lower ho0 (below_size (by repeat (first | (with_reducible first | exact HB.out | apply below_alloc | apply pw_below_drewN | apply below_drew1) | exact HB.out)))); have n1_ := Aside0.mk (below_step (by repeat (first | (with_reducible first | exact HB.out | apply below_alloc | apply pw_below_drewN | apply below_drew1) | exact HB.out)) hb); clear HB; have HO139 := n0_; have HB := n1_; clear n0_ n1_; (try clear hb); (try clear hb2); (try clear hk); (try clear hi); (try clear ho0)))
      go_ret2
      exact ⟨_, by first | rfl | (simp [errW_none, errW_some] <;> rfl) | (simp [*, errW_none, errW_some] <;> rfl), by (with_reducible repeat (first | apply Kd.R_alloc | apply Kd.R_drewN | apply Kd.R_drew)); exact HO139.out, by repeat (first | (with_reducible first | exact HB.out | apply below_alloc | apply pw_below_drewN | apply below_drew1) | exact HB.out)⟩
    · rw [if_neg c5] at H
      have c5b0 : (a0 == 119) = false := beq_eq_false_iff_ne.mpr c5
      have c5b1 : (a0 != 119) = true := bne_iff_ne.mpr c5
      by_cases c8 : a0 = 115
      · rw [if_pos c8] at H
        have c8b0 : (a0 == 115) = true := beq_iff_eq.mpr c8
        have c8b1 : (a0 != 115) = false := bne_eq_false_iff_eq.mpr c8
        clear c8
        replace H := Option.bind_eq_some_iff.mp H
        obtain ⟨⟨t140, t141⟩, A90, H⟩ := H
        replace H : (some (t140, t141)) = some (r1, r2) := H
        have A9 := Aside0.mk A90
        clear A90
        simp only [Option.some.injEq, Prod.mk.injEq] at H
        obtain ⟨rfl, rfl⟩ := H
        go_enter Tryd.func31, Tryd.ntmps31
        go_wp2_with (first | ((with_reducible refine gate_callee (f := 30) rfl ?_); refine goesL_ (some 19) rfl rfl Tryd.func30 (by kernel_rfl) rfl #[.string (⟨#[115, 112, 97, 99, 101]⟩ : ByteArray)] rfl (by (try simp only [List.map_toArray, List.map_cons, List.map_nil]); first | done | rfl | (simp only [List.length_drop, List.length_take]; rfl)) ?_; (with_reducible refine (named_Class.calls (⟨#[115, 112, 97, 99, 101]⟩ : ByteArray) t140 t141 _ A9.out).mono ?_); rintro e w10 ⟨v142, rfl, ho0, hb⟩; refine ⟨_, rfl, ?_⟩; have n0_ := Aside0.mk (Kd.R_lower ho0 (below_size (by repeat (first | (with_reducible first | exact HB.out | apply below_alloc | apply pw_below_drewN | apply below_drew1) | exact HB.out)))); have n1_ := Aside0.mk (below_step (by repeat (first | (with_reducible first | exact HB.out | apply below_alloc | apply pw_below_drewN | apply below_drew1) | exact HB.out)) hb); clear HB; have HO143 := n0_; have HB := n1_; clear n0_ n1_; (try clear hb); (try clear hb2); (try clear hk); (try clear hi); (try clear ho0)))
        go_ret2
        exact ⟨_, by first | rfl | (simp [errW_none, errW_some] <;> rfl) | (simp [*, errW_none, errW_some] <;> rfl), by (with_reducible repeat (first | apply Kd.R_alloc | apply Kd.R_drewN | apply Kd.R_drew)); exact HO143.out, by repeat (first | (with_reducible first | exact HB.out | apply below_alloc | apply pw_below_drewN | apply below_drew1) | exact HB.out)⟩
      · rw [if_neg c8] at H
        have c8b0 : (a0 == 115) = false := beq_eq_false_iff_ne.mpr c8
        have c8b1 : (a0 != 115) = true := bne_iff_ne.mpr c8
        have HC11 := Aside0.mk H
        clear H
        go_enter Tryd.func31, Tryd.ntmps31
        go_upto_if 22 with (fail)
        go_cut [22] (fun v22 wc => ∃ (kq : Nat) (x22_10 : Bool), v22 = .bool x22_10 ∧ Aside0 (named_Escape.j0 kq a0 a0 x22_10 = some (r1, r2)) ∧ Aside0 (kq ≤ k) ∧ Aside0 (Below w.heap.size w wc))
        case first =>
          have H := HC11.out
          clear HC11
          by_cases c12 : a0 = 68
          · rw [if_pos c12] at H
            have c12b0 : (a0 == 68) = true := beq_iff_eq.mpr c12
            have c12b1 : (a0 != 68) = false := bne_eq_false_iff_eq.mpr c12
            clear c12
            (first | rw [c12b0] | (simp only [i64_w, i32_w]; rw [c12b0]) | skip)
            have H' := Aside0.mk H
            clear H
            go_wp2
            go_meet
            case rel => exact ⟨_, ((a0 == 68)), (by first | rfl | (simp; done) | (simp [*]; done)), H', ⟨by first | omega | exact Nat.le_refl _⟩, ⟨by repeat (first | (with_reducible first | exact HB.out | apply below_alloc | apply pw_below_drewN | apply below_drew1) | exact HB.out)⟩⟩
          · rw [if_neg c12] at H
            have c12b0 : (a0 == 68) = false := beq_eq_false_iff_ne.mpr c12
            have c12b1 : (a0 != 68) = true := bne_iff_ne.mpr c12
            (first | rw [c12b0] | (simp only [i64_w, i32_w]; rw [c12b0]) | skip)
            by_cases c13 : a0 = 87
            · rw [if_pos c13] at H
              have c13b0 : (a0 == 87) = true := beq_iff_eq.mpr c13
              have c13b1 : (a0 != 87) = false := bne_eq_false_iff_eq.mpr c13
              clear c13
              have H' := Aside0.mk H
              clear H
              go_wp2
              go_meet
              case rel => exact ⟨_, ((a0 == 87)), (by first | rfl | (simp; done) | (simp [*]; done)), H', ⟨by first | omega | exact Nat.le_refl _⟩, ⟨by repeat (first | (with_reducible first | exact HB.out | apply below_alloc | apply pw_below_drewN | apply below_drew1) | exact HB.out)⟩⟩
            · rw [if_neg c13] at H
              have c13b0 : (a0 == 87) = false := beq_eq_false_iff_ne.mpr c13
              have c13b1 : (a0 != 87) = true := bne_iff_ne.mpr c13
              have H' := Aside0.mk H
              clear H
              go_wp2
              go_meet
              case rel => exact ⟨_, ((a0 == 83)), (by first | rfl | (simp; done) | (simp [*]; done)), H', ⟨by first | omega | exact Nat.le_refl _⟩, ⟨by repeat (first | (with_reducible first | exact HB.out | apply below_alloc | apply pw_below_drewN | apply below_drew1) | exact HB.out)⟩⟩
        case rest =>
          clear HC11
          try clear c1
          try clear c2
          try clear c2b0
          try clear c2b1
          try clear p2
          try clear c3
          try clear c5
          try clear c5b0
          try clear c5b1
          try clear c8
          try clear c8b0
          try clear c8b1
          try clear c12
          try clear c12b0
          try clear c12b1
          try clear c13
          try clear c13b0
          try clear c13b1
          obtain ⟨kq, x22_10, rfl, HA, HJ10, HB⟩ := hcut
          cases kq with
          | zero => exact absurd HA.out (by simp [named_Escape.j0])
          | succ kj10 =>
            have H := HA.out
            clear HA
            simp only [named_Escape.j0] at H
            by_cases c14 : x22_10 = true
            · subst c14
              have H1 : ((named_Escape.f kj10 (wrap32 ((wrap32 (a0 + 97)) - 65))).bind fun bt144 => ((sets_NotRunes.f kj10 bt144.1).bind fun bt148 => (some (bt148.1, bt148.2)))) = some (r1, r2) := by rw [if_pos rfl] at H; exact H
              clear H
              have H := H1
              clear H1
              replace H := Option.bind_eq_some_iff.mp H
              obtain ⟨⟨t144, t145⟩, A150, H⟩ := H
              replace H : ((sets_NotRunes.f kj10 t144).bind fun bt148 => (some (bt148.1, bt148.2))) = some (r1, r2) := H
              have A15 := Aside0.mk A150
              clear A150
              replace H := Option.bind_eq_some_iff.mp H
              obtain ⟨⟨t148, t149⟩, A160, H⟩ := H
              replace H : (some (t148, t149)) = some (r1, r2) := H
              have A16 := Aside0.mk A160
              clear A160
              simp only [Option.some.injEq, Prod.mk.injEq] at H
              obtain ⟨rfl, rfl⟩ := H
              go_wp2_with (first | ((with_reducible refine gate_callee (f := 31) rfl ?_); refine goesL_ (some 30) rfl rfl Tryd.func31 (by kernel_rfl) rfl #[.int .i32 (wrap32 ((wrap32 (a0 + 97)) - 65))] rfl (by (try simp only [List.map_toArray, List.map_cons, List.map_nil]); first | done | rfl | (simp only [List.length_drop, List.length_take]; rfl)) ?_; (with_reducible refine (ih kj10 (by have := HJ10.out; omega) (wrap32 ((wrap32 (a0 + 97)) - 65)) t144 t145 _ A15.out).mono ?_); rintro e w17 ⟨v146, rfl, ho0, hb⟩; refine ⟨_, rfl, ?_⟩; have n0_ := Aside0.mk (Kd.R_lower ho0 (below_size (by repeat (first | (with_reducible first | exact HB.out | apply below_alloc | apply pw_below_drewN | apply below_drew1) | exact HB.out)))); have n1_ := Aside0.mk (below_step (by repeat (first | (with_reducible first | exact HB.out | apply below_alloc | apply pw_below_drewN | apply below_drew1) | exact HB.out)) hb); clear HB; have HO147 := n0_; have HB := n1_; clear n0_ n1_; (try clear hb); (try clear hb2); (try clear hk); (try clear hi); (try clear ho0); obtain ⟨Ao18, co18, eo18⟩ := Kd.R_slice HO147.out; subst eo18) | ((with_reducible refine gate_callee (f := 76) rfl ?_); refine goesL_ (some 34) rfl rfl Tryd.func76 (by kernel_rfl) rfl #[.slice Ao18 t144.length co18] rfl (by (try simp only [List.map_toArray, List.map_cons, List.map_nil]); first | done | rfl | (simp only [List.length_drop, List.length_take]; rfl)) ?_; (with_reducible refine (sets_NotRunes.calls kj10 _ _ t144 t148 t149 _ ?side1 ?side2 A16.out).mono ?_); (case side1 => repeat (first | exact (Kd.R_reads' HO147.out).2.2 | (with_reducible refine Kd.C_alloc ?_ _) | (with_reducible refine Kd.C_drewN ?_ _) | (with_reducible refine Kd.C_drew ?_))); (case side2 => exact (Kd.R_reads' HO147.out).2.1); rintro e w19 ⟨v150, rfl, ho0, hb⟩; refine ⟨_, rfl, ?_⟩; have n0_ := Aside0.mk (Kd.R_elder' (by (with_reducible repeat (first | apply Kd.R_alloc | apply Kd.R_drewN | apply Kd.R_drew)); exact HO147.out) (Kd.R_base ho0) hb); have n1_ := Aside0.mk (Kd.R_lower (Kd.R_new' ho0 (Kd.R_lt (by (with_reducible repeat (first | apply Kd.R_alloc | apply Kd.R_drewN | apply Kd.R_drew)); exact HO147.out))) (below_size (by repeat (first | (with_reducible first | exact HB.out | apply below_alloc | apply pw_below_drewN | apply below_drew1) | exact HB.out)))); have n2_ := Aside0.mk (below_step (by repeat (first | (with_reducible first | exact HB.out | apply below_alloc | apply pw_below_drewN | apply below_drew1) | exact HB.out)) hb); clear HO147; clear HB; have HO147 := n0_; have HO151 := n1_; have HB := n2_; clear n0_ n1_ n2_; (try clear hb); (try clear hb2); (try clear hk); (try clear hi); (try clear ho0)))
              go_ret2
              exact ⟨_, by first | rfl | (simp [errW_none, errW_some] <;> rfl) | (simp [*, errW_none, errW_some] <;> rfl), by (with_reducible repeat (first | apply Kd.R_alloc | apply Kd.R_drewN | apply Kd.R_drew)); exact Kd.R_mono HO151.out (fun _ hk => trivial), by repeat (first | (with_reducible first | exact HB.out | apply below_alloc | apply pw_below_drewN | apply below_drew1) | exact HB.out)⟩
            · replace c14 := Bool.eq_false_iff.mpr c14
              subst c14
              have H1 : (if a0 = 67 then ((named_Class.f (⟨#[97, 110, 121]⟩ : ByteArray)).bind fun bt152 => (some (bt152.1, bt152.2))) else (if a0 = 89 then ((named_Class.f (⟨#[98, 97, 100]⟩ : ByteArray)).bind fun bt156 => (some (bt156.1, bt156.2))) else (some (([] : List (S78)), 9)))) = some (r1, r2) := by rw [if_neg (show ¬ (false = true) by decide)] at H; exact H
              clear H
              have H := H1
              clear H1
              by_cases c20 : a0 = 67
              · rw [if_pos c20] at H
                have c20b0 : (a0 == 67) = true := beq_iff_eq.mpr c20
                have c20b1 : (a0 != 67) = false := bne_eq_false_iff_eq.mpr c20
                clear c20
                replace H := Option.bind_eq_some_iff.mp H
                obtain ⟨⟨t152, t153⟩, A210, H⟩ := H
                replace H : (some (t152, t153)) = some (r1, r2) := H
                have A21 := Aside0.mk A210
                clear A210
                simp only [Option.some.injEq, Prod.mk.injEq] at H
                obtain ⟨rfl, rfl⟩ := H
                go_wp2_with (first | ((with_reducible refine gate_callee (f := 30) rfl ?_); refine goesL_ (some 39) rfl rfl Tryd.func30 (by kernel_rfl) rfl #[.string (⟨#[97, 110, 121]⟩ : ByteArray)] rfl (by (try simp only [List.map_toArray, List.map_cons, List.map_nil]); first | done | rfl | (simp only [List.length_drop, List.length_take]; rfl)) ?_; (with_reducible refine (named_Class.calls (⟨#[97, 110, 121]⟩ : ByteArray) t152 t153 _ A21.out).mono ?_); rintro e w22 ⟨v154, rfl, ho0, hb⟩; refine ⟨_, rfl, ?_⟩; have n0_ := Aside0.mk (Kd.R_lower ho0 (below_size (by repeat (first | (with_reducible first | exact HB.out | apply below_alloc | apply pw_below_drewN | apply below_drew1) | exact HB.out)))); have n1_ := Aside0.mk (below_step (by repeat (first | (with_reducible first | exact HB.out | apply below_alloc | apply pw_below_drewN | apply below_drew1) | exact HB.out)) hb); clear HB; have HO155 := n0_; have HB := n1_; clear n0_ n1_; (try clear hb); (try clear hb2); (try clear hk); (try clear hi); (try clear ho0)))
                go_ret2
                exact ⟨_, by first | rfl | (simp [errW_none, errW_some] <;> rfl) | (simp [*, errW_none, errW_some] <;> rfl), by (with_reducible repeat (first | apply Kd.R_alloc | apply Kd.R_drewN | apply Kd.R_drew)); exact HO155.out, by repeat (first | (with_reducible first | exact HB.out | apply below_alloc | apply pw_below_drewN | apply below_drew1) | exact HB.out)⟩
              · rw [if_neg c20] at H
                have c20b0 : (a0 == 67) = false := beq_eq_false_iff_ne.mpr c20
                have c20b1 : (a0 != 67) = true := bne_iff_ne.mpr c20
                by_cases c23 : a0 = 89
                · rw [if_pos c23] at H
                  have c23b0 : (a0 == 89) = true := beq_iff_eq.mpr c23
                  have c23b1 : (a0 != 89) = false := bne_eq_false_iff_eq.mpr c23
                  clear c23
                  replace H := Option.bind_eq_some_iff.mp H
                  obtain ⟨⟨t156, t157⟩, A240, H⟩ := H
                  replace H : (some (t156, t157)) = some (r1, r2) := H
                  have A24 := Aside0.mk A240
                  clear A240
                  simp only [Option.some.injEq, Prod.mk.injEq] at H
                  obtain ⟨rfl, rfl⟩ := H
                  go_wp2_with (first | ((with_reducible refine gate_callee (f := 30) rfl ?_); refine goesL_ (some 44) rfl rfl Tryd.func30 (by kernel_rfl) rfl #[.string (⟨#[98, 97, 100]⟩ : ByteArray)] rfl (by (try simp only [List.map_toArray, List.map_cons, List.map_nil]); first | done | rfl | (simp only [List.length_drop, List.length_take]; rfl)) ?_; (with_reducible refine (named_Class.calls (⟨#[98, 97, 100]⟩ : ByteArray) t156 t157 _ A24.out).mono ?_); rintro e w25 ⟨v158, rfl, ho0, hb⟩; refine ⟨_, rfl, ?_⟩; have n0_ := Aside0.mk (Kd.R_lower ho0 (below_size (by repeat (first | (with_reducible first | exact HB.out | apply below_alloc | apply pw_below_drewN | apply below_drew1) | exact HB.out)))); have n1_ := Aside0.mk (below_step (by repeat (first | (with_reducible first | exact HB.out | apply below_alloc | apply pw_below_drewN | apply below_drew1) | exact HB.out)) hb); clear HB; have HO159 := n0_; have HB := n1_; clear n0_ n1_; (try clear hb); (try clear hb2); (try clear hk); (try clear hi); (try clear ho0)))
                  go_ret2
                  exact ⟨_, by first | rfl | (simp [errW_none, errW_some] <;> rfl) | (simp [*, errW_none, errW_some] <;> rfl), by (with_reducible repeat (first | apply Kd.R_alloc | apply Kd.R_drewN | apply Kd.R_drew)); exact HO159.out, by repeat (first | (with_reducible first | exact HB.out | apply below_alloc | apply pw_below_drewN | apply below_drew1) | exact HB.out)⟩
                · rw [if_neg c23] at H
                  have c23b0 : (a0 == 89) = false := beq_eq_false_iff_ne.mpr c23
                  have c23b1 : (a0 != 89) = true := bne_iff_ne.mpr c23
                  simp only [Option.some.injEq, Prod.mk.injEq] at H
                  obtain ⟨rfl, rfl⟩ := H
                  go_wp2
                  go_ret2
                  exact ⟨_, by first | rfl | (simp [errW_none, errW_some] <;> rfl) | (simp [*, errW_none, errW_some] <;> rfl), by first | exact Kd.R_nil _ _ _ _ _ | exact Kd.N_nil _ _ _ _ _ | exact Kd.V_nil _ _ _ _ _ | exact Kd.Q_nil _ _ _ _ _ | exact Kd.S_nil _ _ _ _ _, by repeat (first | (with_reducible first | exact HB.out | apply below_alloc | apply pw_below_drewN | apply below_drew1) | exact HB.out)⟩

-- NOT PRINTED: function 32 (thistlelaw04_apart)

/-! ### thistlelaw04_sign: function 77 -/
def thistlelaw04_sign.f (a0 : Int) : Option (ByteArray) := some (strOfNums (([35, (wrap64 (48 + a0)) % 256] : List Int)))
set_option maxHeartbeats 8000000 in
set_option maxRecDepth 100000 in
theorem thistlelaw04_sign.calls (a0 : Int) (r : ByteArray) (w : World) (h : thistlelaw04_sign.f a0 = some r) (hG : GOK w := by first | (with_reducible exact HG_.out) | exact GOK.below HG_.out (by repeat (first | (with_reducible exact Below.refl _ _) | (with_reducible first | exact HB.out | apply below_alloc | apply pw_below_drewN | apply below_drew1 | refine below_set ?_ (Aside0.out (by assumption))) | exact HB.out)) | exact GOK.drewN HG_.out _ | exact GOK.drewN (GOK.drewN HG_.out _) _ | exact GOK.drew HG_.out) :
    Calls Tryd.prog 77 #[.int .i64 a0] w fun e w' => e = .returned (.string r) ∧ Below w.heap.size w w' := by
  have HG_ := Aside0.mk hG
  clear hG
  have HB := Aside0.mk (Below.refl w.heap.size w)
  have H : (some (strOfNums (([35, (wrap64 (48 + a0)) % 256] : List Int)))) = some r := h
  clear h
  obtain ⟨y165, hy165⟩ : ∃ y_ : List Int, y_ = (([35, (wrap64 (48 + a0)) % 256] : List Int)) := ⟨_, rfl⟩
  replace H : (some (strOfNums y165)) = some r := by first | (rw [hy165]; with_reducible exact H) | (have H2_ := (Option.bind_some _ _).symm.trans H; rw [hy165]; with_reducible exact H2_) | (have H2_ := (Option.bind_some _ _).symm.trans H; with_reducible exact H2_) | with_reducible exact H | (rw [hy165]; exact H) | exact H
  have Ny165 := Aside0.mk hy165
  clear hy165
  obtain rfl := Option.some.inj H
  go_enter Tryd.func77, Tryd.ntmps77
  go_wp2_with (first | ((with_reducible refine gate_dst (N := 6) rfl ?_); refine Kd.R_lit (Kd.int .u8) _ 5 ?hg (N := 6) ?hd (xs := ([35, (wrap64 (48 + a0)) % 256] : List Int)) (inner := [.int .u8 35, .int .u8 ((wrap64 (48 + a0)) % 256)]) (ok := fun _ => True) (okp := fun _ => True) ?hr ?hp (fun _ hk => hk) trivial (Below.refl _ _) (Nat.le_refl _) (by simp) ?_; (case hd => rfl); (case hg => rfl); (case hr => first | (go_simp; done) | (go_simp; rfl)); (case hp => exact (Reps.one (show Kd.M (Kd.int .u8) _ _ _ 35 [.int .u8 35] from rfl) (Reps.one (show Kd.M (Kd.int .u8) _ _ _ ((wrap64 (48 + a0)) % 256) [.int .u8 ((wrap64 (48 + a0)) % 256)] from rfl) (Reps.none _ _)))); intro v166 w2 ho3 hb hg_ hnew_; clear hg_ hnew_; (first | rw [← Ny165.out] at ho3 | (simp only [Int.reduceToNat] at ho3; rw [← Ny165.out] at ho3)); have n0_ := Aside0.mk (Kd.R_lower ho3 (below_size (by repeat (first | (with_reducible first | exact HB.out | apply below_alloc | apply pw_below_drewN | apply below_drew1) | exact HB.out)))); have n1_ := Aside0.mk (below_step (by repeat (first | (with_reducible first | exact HB.out | apply below_alloc | apply pw_below_drewN | apply below_drew1) | exact HB.out)) hb); clear HB; have HO167 := n0_; have HB := n1_; clear n0_ n1_; clear hb ho3; have hcv4 := own_string (P := Tryd.prog) Tryd.underlying38 Tryd.underlying5 Tryd.underlying9 (Kd.own_of_R HO167.out)))
  go_ret
  exact ⟨by first | rfl | (simp [errW_none, errW_some] <;> rfl) | (simp [*, errW_none, errW_some] <;> rfl), by repeat (first | (with_reducible first | exact HB.out | apply below_alloc | apply pw_below_drewN | apply below_drew1) | exact HB.out)⟩

-- NOT PRINTED: function 33 (thistlelaw04_apartNames)

-- NOT PRINTED: function 168 (slices_AppendSeq_string_string)

-- NOT PRINTED: function 133 (slices_Collect_string)

/-! ### cmp_isNaN_string: function 217 -/
def cmp_isNaN_string.f (a0 : ByteArray) : Option (Bool) := some (a0.toList != a0.toList)
set_option maxHeartbeats 8000000 in
set_option maxRecDepth 100000 in
theorem cmp_isNaN_string.calls (a0 : ByteArray) (r : Bool) (w : World) (h : cmp_isNaN_string.f a0 = some r) (hG : GOK w := by first | (with_reducible exact HG_.out) | exact GOK.below HG_.out (by repeat (first | (with_reducible exact Below.refl _ _) | (with_reducible first | exact HB.out | apply below_alloc | apply pw_below_drewN | apply below_drew1 | refine below_set ?_ (Aside0.out (by assumption))) | exact HB.out)) | exact GOK.drewN HG_.out _ | exact GOK.drewN (GOK.drewN HG_.out _) _ | exact GOK.drew HG_.out) :
    Calls Tryd.prog 217 #[.string a0] w fun e w' => e = .returned (.bool r) ∧ Drawn0 w w' := by
  have HG_ := Aside0.mk hG
  clear hG
  have H : (some (a0.toList != a0.toList)) = some r := h
  clear h
  obtain rfl := Option.some.inj H
  go_enter Tryd.func217, Tryd.ntmps217
  go_wp2
  go_ret
  exact ⟨by first | rfl | (simp; done) | (simp [*]; done), by repeat (first | exact Drawn0.refl _ | apply Drawn0.step)⟩

/-! ### cmp_Less_string: function 198 -/
def cmp_Less_string.f (a0 : ByteArray) (a1 : ByteArray) : Option (Bool) := (cmp_isNaN_string.f a0).bind fun t174 => (if t174 = true then ((cmp_isNaN_string.f a1).bind fun t175 => (if t175 = true then (some (Op.bytesLess a0.toList a1.toList)) else (some true))) else (some (Op.bytesLess a0.toList a1.toList)))
set_option maxHeartbeats 8000000 in
set_option maxRecDepth 100000 in
theorem cmp_Less_string.calls (a0 : ByteArray) (a1 : ByteArray) (r : Bool) (w : World) (h : cmp_Less_string.f a0 a1 = some r) (hG : GOK w := by first | (with_reducible exact HG_.out) | exact GOK.below HG_.out (by repeat (first | (with_reducible exact Below.refl _ _) | (with_reducible first | exact HB.out | apply below_alloc | apply pw_below_drewN | apply below_drew1 | refine below_set ?_ (Aside0.out (by assumption))) | exact HB.out)) | exact GOK.drewN HG_.out _ | exact GOK.drewN (GOK.drewN HG_.out _) _ | exact GOK.drew HG_.out) :
    Calls Tryd.prog 198 #[.string a0, .string a1] w fun e w' => e = .returned (.bool r) ∧ Drawn0 w w' := by
  have HG_ := Aside0.mk hG
  clear hG
  have H : ((cmp_isNaN_string.f a0).bind fun t174 => (if t174 = true then ((cmp_isNaN_string.f a1).bind fun t175 => (if t175 = true then (some (Op.bytesLess a0.toList a1.toList)) else (some true))) else (some (Op.bytesLess a0.toList a1.toList)))) = some r := h
  clear h
  replace H := Option.bind_eq_some_iff.mp H
  obtain ⟨t174, A30, H⟩ := H
  replace H : (if t174 = true then ((cmp_isNaN_string.f a1).bind fun t175 => (if t175 = true then (some (Op.bytesLess a0.toList a1.toList)) else (some true))) else (some (Op.bytesLess a0.toList a1.toList))) = some r := H
  have A3 := Aside0.mk A30
  clear A30
  by_cases c4 : t174 = true
  · subst c4
    have H1 : ((cmp_isNaN_string.f a1).bind fun t175 => (if t175 = true then (some (Op.bytesLess a0.toList a1.toList)) else (some true))) = some r := by rw [if_pos rfl] at H; exact H
    clear H
    have H := H1
    clear H1
    replace H := Option.bind_eq_some_iff.mp H
    obtain ⟨t175, A50, H⟩ := H
    replace H : (if t175 = true then (some (Op.bytesLess a0.toList a1.toList)) else (some true)) = some r := H
    have A5 := Aside0.mk A50
    clear A50
    by_cases c6 : t175 = true
    · subst c6
      have H1 : (some (Op.bytesLess a0.toList a1.toList)) = some r := by rw [if_pos rfl] at H; exact H
      clear H
      have H := H1
      clear H1
      obtain rfl := Option.some.inj H
      go_enter Tryd.func198, Tryd.ntmps198
      go_wp2_with (first | ((with_reducible refine gate_callee (f := 217) rfl ?_); refine goesL_ (some 6) rfl rfl Tryd.func217 (by kernel_rfl) rfl #[.string a0] rfl (by (try simp only [List.map_toArray, List.map_cons, List.map_nil]); first | done | rfl | (simp only [List.length_drop, List.length_take]; rfl)) ?_; (with_reducible refine (cmp_isNaN_string.calls a0 true _ A3.out).mono ?_); rintro e w' ⟨rfl, ⟨nd, rfl⟩⟩; refine ⟨_, rfl, ?_⟩) | (go_at_call 217; (with_reducible refine (cmp_isNaN_string.calls a1 true _ A5.out).mono ?_); rintro e w' ⟨rfl, ⟨nd, rfl⟩⟩))
      go_ret
      exact ⟨by first | rfl | (simp; done) | (simp [*]; done), by repeat (first | exact Drawn0.refl _ | apply Drawn0.step)⟩
    · replace c6 := Bool.eq_false_iff.mpr c6
      subst c6
      have H1 : (some true) = some r := by rw [if_neg (show ¬ (false = true) by decide)] at H; exact H
      clear H
      have H := H1
      clear H1
      obtain rfl := Option.some.inj H
      go_enter Tryd.func198, Tryd.ntmps198
      go_wp2_with (first | ((with_reducible refine gate_callee (f := 217) rfl ?_); refine goesL_ (some 6) rfl rfl Tryd.func217 (by kernel_rfl) rfl #[.string a0] rfl (by (try simp only [List.map_toArray, List.map_cons, List.map_nil]); first | done | rfl | (simp only [List.length_drop, List.length_take]; rfl)) ?_; (with_reducible refine (cmp_isNaN_string.calls a0 true _ A3.out).mono ?_); rintro e w' ⟨rfl, ⟨nd, rfl⟩⟩; refine ⟨_, rfl, ?_⟩) | (go_at_call 217; (with_reducible refine (cmp_isNaN_string.calls a1 false _ A5.out).mono ?_); rintro e w' ⟨rfl, ⟨nd, rfl⟩⟩))
      go_ret
      exact ⟨by first | rfl | (simp; done) | (simp [*]; done), by repeat (first | exact Drawn0.refl _ | apply Drawn0.step)⟩
  · replace c4 := Bool.eq_false_iff.mpr c4
    subst c4
    have H1 : (some (Op.bytesLess a0.toList a1.toList)) = some r := by rw [if_neg (show ¬ (false = true) by decide)] at H; exact H
    clear H
    have H := H1
    clear H1
    obtain rfl := Option.some.inj H
    go_enter Tryd.func198, Tryd.ntmps198
    go_wp2_with (first | ((with_reducible refine gate_callee (f := 217) rfl ?_); refine goesL_ (some 6) rfl rfl Tryd.func217 (by kernel_rfl) rfl #[.string a0] rfl (by (try simp only [List.map_toArray, List.map_cons, List.map_nil]); first | done | rfl | (simp only [List.length_drop, List.length_take]; rfl)) ?_; (with_reducible refine (cmp_isNaN_string.calls a0 false _ A3.out).mono ?_); rintro e w' ⟨rfl, ⟨nd, rfl⟩⟩; refine ⟨_, rfl, ?_⟩))
    go_ret
    exact ⟨by first | rfl | (simp; done) | (simp [*]; done), by repeat (first | exact Drawn0.refl _ | apply Drawn0.step)⟩

-- NOT PRINTED: function 192 (slices_insertionSortOrdered_string)

-- NOT PRINTED: function 212 (slices_siftDownOrdered_string)

-- NOT PRINTED: function 193 (slices_heapSortOrdered_string)

-- NOT PRINTED: function 201 (bits_Len32)

-- NOT PRINTED: function 202 (bits_Len64)

-- NOT PRINTED: function 170 (bits_Len)

-- NOT PRINTED: function 213 (slices_nextPowerOfTwo)

-- NOT PRINTED: function 214 (slices_xorshift_Next)

-- NOT PRINTED: function 194 (slices_breakPatternsOrdered_string)

-- NOT PRINTED: function 221 (slices_order2Ordered_string)

-- NOT PRINTED: function 216 (slices_medianOrdered_string)

-- NOT PRINTED: function 215 (slices_medianAdjacentOrdered_string)

-- NOT PRINTED: function 195 (slices_choosePivotOrdered_string)

-- NOT PRINTED: function 196 (slices_reverseRangeOrdered_string)

-- NOT PRINTED: function 197 (slices_partialInsertionSortOrdered_string)

-- NOT PRINTED: function 199 (slices_partitionEqualOrdered_string)

-- NOT PRINTED: function 200 (slices_partitionOrdered_string)

-- NOT PRINTED: function 169 (slices_pdqsortOrdered_string)

-- NOT PRINTED: function 134 (slices_Sort_string_string)

-- NOT PRINTED: function 78 (slices_Sorted_string)

-- NOT PRINTED: function 79 (api_Range_79)

/-! ### named_Names: function 34 -/
def classNames : List ByteArray := classTab.map fun p => p.1
def classDatum : DataW Unit := .map ((classTab.map fun p => ((Lit.string p.1.data.toList, DataW.nil) : Lit × DataW Unit)).foldr DataW.insert [])
theorem classDatum_keys : Go.strKeys classDatum = classNames.map fun s => s.data.toList := by kernel_rfl
theorem classNames_sorted : (classNames.map fun s => s.data.toList).Pairwise (fun x y => (decide (x ≤ y)) = true) := by decide +kernel
theorem classTab_born : ∀ (j : Nat) (n : ByteArray) (l : List S78), classTab[j]? = some (n, l) → j < 20 ∧ n.size ≤ maxLen := by
  intro j n l h
  have hj : j < 20 := by
    rcases Nat.lt_or_ge j 20 with h1 | h1
    · exact h1
    · rw [List.getElem?_eq_none (by rw [show classTab.length = 20 from rfl]; exact h1)] at h; cases h
  refine ⟨hj, ?_⟩
  have hm : (n, l) ∈ classTab := List.mem_of_getElem? h
  have ha : (classTab.all fun p => decide (p.1.size ≤ maxLen)) = true := by kernel_rfl
  exact of_decide_eq_true (List.all_eq_true.mp ha _ hm)
theorem classNames_nodup : (classTab.map fun p => p.1).Nodup := by decide +kernel
set_option maxRecDepth 100000 in
theorem owns_classes {w : World} {base B : Nat} (h : XLib.MapOwn k78 78 w base B classTab) : w.ownsMap Tryd.prog 9 (fun _ => some ((DataW.nil : DataW Unit), [])) B 20 classDatum := by
  obtain ⟨es, hB, hbase, hs, hL⟩ := h
  have hl : classTab.length = 20 := rfl
  have hkey : ∀ (j : Nat) (x : MapEntry), es.toList[j]? = some x → ∃ n l, classTab[j]? = some (n, l) ∧ x.key = .string n ∧ x.born = j := by
    intro j x hx
    have hj : j < classTab.length := by
      have := (List.getElem?_eq_some_iff.1 hx).1
      rw [Array.length_toList] at this
      omega
    obtain ⟨en, h1, h2, h3, _⟩ := hL j classTab[j].1 classTab[j].2 (by rw [List.getElem?_eq_getElem hj])
    rw [Array.getElem?_toList] at hx
    rw [h1] at hx
    obtain rfl := Option.some.inj hx
    exact ⟨classTab[j].1, classTab[j].2, by rw [List.getElem?_eq_getElem hj], h2, h3⟩
  have hk : es.toList.map (fun x => x.key) = classTab.map fun p => Value.string p.1 := by
    apply List.ext_getElem?
    intro j
    rw [List.getElem?_map, List.getElem?_map]
    cases hx : es.toList[j]? with
    | none =>
      have : classTab.length ≤ j := by
        have := List.getElem?_eq_none_iff.1 hx
        rw [Array.length_toList] at this
        omega
      rw [List.getElem?_eq_none this]
      rfl
    | some x =>
      obtain ⟨n, l, h1, h2, h3⟩ := hkey j x hx
      rw [h1]
      simp [h2]
  have hb : es.toList.map (fun x => x.born) = List.range es.size := by
    apply List.ext_getElem?
    intro j
    rw [List.getElem?_map]
    cases hx : es.toList[j]? with
    | none =>
      have := List.getElem?_eq_none_iff.1 hx
      rw [Array.length_toList] at this
      rw [List.getElem?_eq_none (by simpa using this)]
      rfl
    | some x =>
      obtain ⟨n, l, h1, h2, h3⟩ := hkey j x hx
      have := (List.getElem?_eq_some_iff.1 hx).1
      rw [Array.length_toList] at this
      rw [List.getElem?_range this]
      simp [h3]
  have hrd : ∀ (j : Nat) (x : MapEntry), es.toList[j]? = some x → ∀ (n : ByteArray) (l : List S78), classTab[j]? = some (n, l) → Go.WideElems.rd Tryd.prog 9 (fun _ => some ((DataW.nil : DataW Unit), [])) x = some (Lit.string n.data.toList, DataW.nil) := by
    intro j x hx n l hn
    obtain ⟨n', l', h1, h2, h3⟩ := hkey j x hx
    rw [hn] at h1
    obtain ⟨rfl, rfl⟩ : n = n' ∧ l = l' := by simpa using h1
    unfold Go.WideElems.rd
    rw [h2, Go.WideMaps.keyOf_string_mk Tryd.underlying9 (classTab_born j n l hn).2]
    rfl
  refine ⟨es, _, hB, ⟨by rw [hs, hl]; decide, ⟨?_, ?_, ?_⟩, ?_⟩, by rw [hs, hl]; exact Nat.le_refl _, ?_⟩
  · intro x hx
    obtain ⟨j, hj⟩ := List.mem_iff_getElem?.1 hx
    obtain ⟨n, l, h1, h2, h3⟩ := hkey j x hj
    rw [h3]
    exact (List.getElem?_eq_some_iff.1 h1).1
  · rw [hb]; exact List.nodup_range
  · rw [hk, show (classTab.map fun p => Value.string p.1) = (classTab.map fun p => p.1).map Value.string by rw [List.map_map]; rfl]
    exact List.Pairwise.map _ (fun a b (hab : a ≠ b) h => hab (by injection h)) classNames_nodup
  · intro x hx
    obtain ⟨j, hj⟩ := List.mem_iff_getElem?.1 hx
    obtain ⟨n, l, h1, h2, h3⟩ := hkey j x hj
    exact ⟨_, hrd j x hj n l h1⟩
  · unfold classDatum
    congr 2
    apply List.ext_getElem?
    intro j
    rw [List.getElem?_map, List.getElem?_map]
    cases hx : es.toList[j]? with
    | none =>
      have : classTab.length ≤ j := by
        have := List.getElem?_eq_none_iff.1 hx
        rw [Array.length_toList] at this
        omega
      rw [List.getElem?_eq_none this]
      rfl
    | some x =>
      obtain ⟨n, l, h1, h2, h3⟩ := hkey j x hx
      rw [h1]
      simp only [Option.map_some]
      rw [Go.WideElems.rg_of (hrd j x hx n l h1)]
theorem keys_sorts (m : Nat) : AnyZ.SortsIn Tryd.prog Tryd.sorted78_ren Fence.wide m :=
  ⟨fun blk off cap ss W hH hblk hsz => callsIn_wide.2 (AnyM.slices_Sort_string Tryd.sort134 blk off cap ss W hH hblk hsz),
   fun p cap W => callsIn_wide.2 (AnyM.slices_Sort_string_none Tryd.sort134 p cap W)⟩
theorem keys_k (mb : Option Nat) (W : World) : Calls Tryd.prog 79 #[.map mb] W fun e w' => e = .returned (.func (.func 135) #[] #[.pointer (some ⟨W.heap.size, 0, none⟩)]) ∧ w' = W.alloc (.cells #[.map mb] 128) :=
  (callsIn_wide (n := 5)).1 (AnyZ.keys_in Tryd.keys79 Fence.wide 5 trivial rfl mb W)
set_option maxHeartbeats 1000000 in
theorem sorted_k (base B : Nat) (w : World) (hM : XLib.MapOwn k78 78 w base B classTab) :
    Calls Tryd.prog 78 #[.func (.func 135) #[] #[.pointer (some ⟨w.heap.size, 0, none⟩)]] (w.alloc (.cells #[.map (some B)] 128)) fun e w' => ∃ v0_ : Value, e = .returned v0_ ∧ Kd.R Kd.string 9 w' w.heap.size (fun _ => True) v0_ classNames ∧ Below w.heap.size w w' := by
  have hown := owns_classes hM
  have hbl := hown.lt
  have hseq : SeqGives Fence.wide 2 Tryd.prog 135 #[.pointer (some ⟨w.heap.size, 0, none⟩)] encStr (fun ss => ss.Perm (Go.strKeys classDatum)) (Maps.size classDatum) (w.alloc (.cells #[.map (some B)] 128)) :=
    AnyZ.keys_gives (ρ := Tryd.keys79_ren) { Tryd.keys79 with } Fence.wide _ trivial rfl (by omega) w.heap.size B 20 classDatum _ (by simp) (by simp) (by
      obtain ⟨es, clock, hb, Ft, hs, hD⟩ := hown
      exact ⟨es, clock, (Below.heap_alloc _ _ B hbl).trans hb, Ft, hs, hD⟩)
  have hsize : Maps.size classDatum = 20 := by kernel_rfl
  have h := (callsIn_wide (n := 5)).1 (AnyZ.sorted_in Tryd.sorted78 Fence.wide 5 trivial trivial trivial trivial rfl (by omega) (keys_sorts _) (enters_of Tryd.func134 (by kernel_rfl) rfl) 135 #[.pointer (some ⟨w.heap.size, 0, none⟩)] trivial (enters_of Tryd.func135 (by kernel_rfl) rfl) _ _ (by rw [hsize]; decide) (by rw [hsize]; decide) _ hseq)
  refine h.mono fun e w' hh => ?_
  obtain ⟨v, ss, rfl, hp, hrow, _, hb⟩ := hh
  have hs : ss.mergeSort (fun x y => decide (x ≤ y)) = classNames.map fun s => s.data.toList := by
    rw [Go.mergeSort_of_perm hp, classDatum_keys]
    exact List.mergeSort_of_pairwise classNames_sorted
  have hlen : ss.length = classNames.length := by
    rw [hp.length_eq, classDatum_keys, List.length_map]
  rw [hs, hlen] at hrow
  refine ⟨v, rfl, ?_, ?_⟩
  · refine Kd.R_of_own (enc := Value.string) ?_ (fun _ _ => trivial)
    have he : (classNames.map fun s => s.data.toList).map encStr = encs Value.string classNames := by kernel_rfl
    rw [he] at hrow
    exact own_weaken hrow (by simp)
  · exact (below_alloc (Below.refl w.heap.size w) _).trans (hb.mono (by simp))
def named_Names.f : Option (List ByteArray) := some classNames
set_option maxHeartbeats 800000 in
set_option maxRecDepth 100000 in
theorem named_Names.calls (r : List ByteArray) (w : World) (h : named_Names.f = some r) (hG : GOK w := by first | (with_reducible exact HG_.out) | exact GOK.below HG_.out (by repeat (first | (with_reducible exact Below.refl _ _) | (with_reducible first | exact HB.out | apply below_alloc | apply pw_below_drewN | apply below_drew1 | refine below_set ?_ (Aside0.out (by assumption))) | exact HB.out)) | exact GOK.drewN HG_.out _ | exact GOK.drewN (GOK.drewN HG_.out _) _ | exact GOK.drew HG_.out) :
    Calls Tryd.prog 34 #[] w fun e w' => ∃ v0_ : Value, e = .returned (v0_) ∧ Kd.R Kd.string 9 w' w.heap.size (fun _ => True) v0_ r ∧ Below w.heap.size w w' := by
  have HG_ := Aside0.mk hG
  clear hG
  obtain rfl : classNames = r := by simpa [named_Names.f] using h
  clear h
  go_enter Tryd.func34, Tryd.ntmps34
  go_wp2_with fail
  refine (named_classes.calls w HG_.out).mono ?_
  rintro e w1 ⟨B, rfl, hm, hb⟩
  have HM := Aside0.mk hm
  have HB := Aside0.mk hb
  clear hm hb
  go_wp2_with fail
  refine (keys_k _ _).mono ?_
  rintro e w2 ⟨rfl, rfl⟩
  go_wp2_with fail
  refine (sorted_k _ B w1 HM.out).mono ?_
  rintro e w3 ⟨v, rfl, hR, hb⟩
  have HR := Aside0.mk (Kd.R_lower hR HB.out.size)
  have HB3 := Aside0.mk (below_step HB.out hb)
  clear hR hb
  go_wp2_with fail
  go_ret
  exact ⟨_, rfl, HR.out, HB3.out⟩

-- NOT PRINTED: function 171 (api_Range_rune)

/-! ### sets_has: function 136 -/
/-- what the binary search asks of a range: -1 where it lies below u, 1 where it lies above, else 0 -/
def hasCmp (x : S78) (u : Int) : Int := if x.f1 < u then -1 else if u < x.f0 then 1 else 0
set_option maxHeartbeats 800000 in
theorem has_lit (x y u : Int) (W : World) :
    Calls Tryd.prog 172 #[.agg #[.int .i32 x, .int .i32 y], .int .i32 u] W fun e w' => e = .returned (.int .i64 (hasCmp ⟨x, y⟩ u)) ∧ Below W.heap.size W w' := by
  have hu31 := Tryd.underlying78
  unfold hasCmp
  by_cases h1 : y < u
  · rw [if_pos h1]
    have d1 : decide (y < u) = true := decide_eq_true h1
    go_enter Tryd.func172, Tryd.ntmps172
    go_wp2
    go_ret
    exact ⟨rfl, by repeat (first | exact Below.refl _ _ | apply below_alloc | apply pw_below_drewN | apply below_drew1)⟩
  · rw [if_neg h1]
    have d1 : decide (y < u) = false := decide_eq_false h1
    by_cases h2 : u < x
    · rw [if_pos h2]
      have d2 : decide (u < x) = true := decide_eq_true h2
      go_enter Tryd.func172, Tryd.ntmps172
      go_wp2
      go_ret
      exact ⟨rfl, by repeat (first | exact Below.refl _ _ | apply below_alloc | apply pw_below_drewN | apply below_drew1)⟩
    · rw [if_neg h2]
      have d2 : decide (u < x) = false := decide_eq_false h2
      go_enter Tryd.func172, Tryd.ntmps172
      go_wp2
      go_ret
      exact ⟨rfl, by repeat (first | exact Below.refl _ _ | apply below_alloc | apply pw_below_drewN | apply below_drew1)⟩
/-- the search between i and j: the least place from i on whose range does not lie below u, if the ranges rise -/
def hasFind (u : Int) (l : List S78) : Nat → Nat → Nat → Option Nat
  | 0, _, _ => none
  | k + 1, i, j => if i < j then (if hasCmp (l.getD ((i + j) / 2) z78) u < 0 then hasFind u l k ((i + j) / 2 + 1) j else hasFind u l k i ((i + j) / 2)) else some i
theorem hasFind.mono (u : Int) (l : List S78) : ∀ k i j, LeO (hasFind u l k i j) (hasFind u l (k + 1) i j)
  | 0, _, _ => fun r h => by simp [hasFind] at h
  | k + 1, i, j => by
    have ih := hasFind.mono u l k
    unfold hasFind
    refine LeO.ite (LeO.ite ?_ ?_) (LeO.refl _)
    · exact ih _ _
    · exact ih _ _
def sets_has.f (k : Nat) (l0 : List S78) (a1 : Int) : Option Bool :=
  if l0.length ≤ 4611686018427387903 then ((hasFind a1 l0 k 0 l0.length).bind fun i => some (decide (i < l0.length) && decide (hasCmp (l0.getD i z78) a1 = 0))) else none
theorem sets_has.mono : ∀ a0 a1 k, LeO (sets_has.f k a0 a1) (sets_has.f (k + 1) a0 a1) := by
  intro a0 a1 k
  unfold sets_has.f
  exact LeO.ite (LeO.bind (hasFind.mono _ _ _ _ _) (fun _ => LeO.refl _)) (LeO.none _)
set_option maxHeartbeats 1600000 in
set_option maxRecDepth 100000 in
theorem has_search (k : Nat) (u : Int) (A : Option Addr) (c : Nat) (l : List S78) (n : Nat) (w : World) (hr : Kd.C k78 w A l.length l) (hc : l.length ≤ c) (hb8 : l.length ≤ 4611686018427387903) (h : hasFind u l k 0 l.length = some n) :
    Calls Tryd.prog 171 #[.slice A l.length c, .int .i32 u, .func (.func 172) #[] #[]] w fun e w' => e = .returned (.tuple #[.int .i64 n, .bool (decide (n < l.length) && decide (hasCmp (l.getD n z78) u = 0))]) ∧ Below w.heap.size w w' := by
  have hu31 := Tryd.underlying78
  have HR := Aside0.mk hr
  have HK := Aside0.mk hc
  have HF := Aside0.mk h
  clear hr hc h
  go_enter Tryd.func171, Tryd.ntmps171
  go_wp2
  go_loopw [9, 10] (fun vi vj wr => ∃ i j : Nat, i ≤ j ∧ j ≤ l.length ∧ vi = .int .i64 i ∧ vj = .int .i64 j ∧ Aside0 (∃ k, hasFind u l k i j = some n) ∧ Aside0 (Below w.heap.size w wr)) (fun vi vj _ => (intOf vj).toNat - (intOf vi).toNat)
  case atStart => exact ⟨0, l.length, Nat.zero_le _, Nat.le_refl _, rfl, rfl, ⟨⟨k, HF.out⟩⟩, ⟨Below.refl _ _⟩⟩
  case round =>
    obtain ⟨i, j, hij, hjl, rfl, rfl, HI, HB⟩ := hrel
    by_cases hlt : i < j
    · have hlt1 : decide ((i : Int) < (j : Int)) = true := decide_eq_true (by omega)
      obtain ⟨kk, hkk⟩ := HI.out
      have hn : (((i : Int) + (j : Int)) / 2).toNat = (i + j) / 2 := by omega
      have hrd : rd_T78 l (((i : Int) + (j : Int)) / 2) = l.getD ((i + j) / 2) z78 := by rw [rd_T78, hn]
      obtain ⟨ad, e1, h0, h1⟩ := at_T78 (Kd.C_below HR.out HB.out) (((i : Int) + (j : Int)) / 2) (by omega) (by omega)
      subst e1
      rw [hn] at h0 h1
      have hp : 0 ≤ ((i : Int) + (j : Int)) / 2 := by omega
      have hq : ((i : Int) + (j : Int)) / 2 < (l.length : Int) := by omega
      have HL := Aside0.mk (has_lit (rd_T78 l (((i : Int) + (j : Int)) / 2)).f0 (rd_T78 l (((i : Int) + (j : Int)) / 2)).f1 u wr)
      cases kk with
      | zero => exact absurd hkk (by simp [hasFind])
      | succ kk =>
        rw [hasFind, if_pos hlt] at hkk
        have hce : hasCmp ⟨(rd_T78 l (((i : Int) + (j : Int)) / 2)).f0, (rd_T78 l (((i : Int) + (j : Int)) / 2)).f1⟩ u = hasCmp (l.getD ((i + j) / 2) z78) u := by rw [hrd]
        by_cases hcm : hasCmp (l.getD ((i + j) / 2) z78) u < 0
        · rw [if_pos hcm] at hkk
          have HKK := Aside0.mk hkk
          have d1 : decide (hasCmp ⟨(rd_T78 l (((i : Int) + (j : Int)) / 2)).f0, (rd_T78 l (((i : Int) + (j : Int)) / 2)).f1⟩ u < 0) = true := by rw [hce]; exact decide_eq_true hcm
          clear hkk hcm hce hrd hn
          go_wp2_with (refine HL.out.mono ?_; rintro e w' ⟨rfl, hb⟩; have HB2 := Aside0.mk (below_step HB.out hb); clear hb)
          go_roundw
          case rel => exact ⟨(i + j) / 2 + 1, j, by omega, hjl, by go_num, rfl, ⟨⟨kk, HKK.out⟩⟩, HB2⟩
          case measure => simp [intOf]; omega
        · rw [if_neg hcm] at hkk
          have HKK := Aside0.mk hkk
          have d1 : decide (hasCmp ⟨(rd_T78 l (((i : Int) + (j : Int)) / 2)).f0, (rd_T78 l (((i : Int) + (j : Int)) / 2)).f1⟩ u < 0) = false := by rw [hce]; exact decide_eq_false hcm
          clear hkk hcm hce hrd hn
          go_wp2_with (refine HL.out.mono ?_; rintro e w' ⟨rfl, hb⟩; have HB2 := Aside0.mk (below_step HB.out hb); clear hb)
          go_roundw
          case rel => exact ⟨i, (i + j) / 2, by omega, by omega, rfl, by go_num, ⟨⟨kk, HKK.out⟩⟩, HB2⟩
          case measure => simp [intOf]; omega
    · have hlt1 : decide ((i : Int) < (j : Int)) = false := decide_eq_false (by omega)
      obtain ⟨kk, hkk⟩ := HI.out
      have hin : i = n := by
        cases kk with
        | zero => exact absurd hkk (by simp [hasFind])
        | succ kk => rw [hasFind, if_neg hlt] at hkk; exact Option.some.inj hkk
      subst hin
      clear hkk HI HF
      by_cases hil : i < l.length
      · have d2 : decide ((i : Int) < (l.length : Int)) = true := decide_eq_true (by omega)
        have d3 : decide (i < l.length) = true := decide_eq_true hil
        obtain ⟨ad, e1, h0, h1⟩ := at_T78 (Kd.C_below HR.out HB.out) (i : Int) (by omega) (by omega)
        subst e1
        simp only [Int.toNat_natCast] at h0 h1
        have hrd : rd_T78 l (i : Int) = l.getD i z78 := by simp [rd_T78]
        have HL := Aside0.mk (has_lit (rd_T78 l (i : Int)).f0 (rd_T78 l (i : Int)).f1 u wr)
        have hp : 0 ≤ (i : Int) := by omega
        have hq : (i : Int) < (l.length : Int) := by omega
        have HRD := Aside0.mk hrd
        clear hrd
        go_wp2_with (refine HL.out.mono ?_; rintro e w' ⟨rfl, hb⟩; have HB2 := Aside0.mk (below_step HB.out hb); clear hb)
        go_ret2
        refine ⟨?_, HB2.out⟩
        rw [d3, Bool.true_and, ← HRD.out]
        have hb2 : ∀ x : Int, (x == 0) = decide (x = 0) := fun x => by by_cases hx : x = 0 <;> simp [hx]
        rw [← hb2]
        rfl
      · have d2 : decide ((i : Int) < (l.length : Int)) = false := decide_eq_false (by omega)
        have d3 : decide (i < l.length) = false := decide_eq_false hil
        go_wp2
        go_ret2
        exact ⟨by rw [d3]; rfl, HB.out⟩
set_option maxHeartbeats 800000 in
set_option maxRecDepth 100000 in
theorem sets_has.calls (k : Nat) (A0 : Option Addr) (c0 : Nat) (l0 : List S78) (a1 : Int) (r : Bool) (w : World) (hr0 : Kd.C k78 w A0 l0.length l0) (hc0 : l0.length ≤ c0) (h : sets_has.f k l0 a1 = some r) (hG : GOK w := by first | (with_reducible exact HG_.out) | exact GOK.below HG_.out (by repeat (first | (with_reducible exact Below.refl _ _) | (with_reducible first | exact HB.out | apply below_alloc | apply pw_below_drewN | apply below_drew1 | refine below_set ?_ (Aside0.out (by assumption))) | exact HB.out)) | exact GOK.drewN HG_.out _ | exact GOK.drewN (GOK.drewN HG_.out _) _ | exact GOK.drew HG_.out) :
    Calls Tryd.prog 136 #[.slice A0 l0.length c0, .int .i32 a1] w fun e w' => e = .returned (.bool r) ∧ Below w.heap.size w w' := by
  unfold sets_has.f at h
  by_cases hb8 : l0.length ≤ 4611686018427387903
  · rw [if_pos hb8] at h
    obtain ⟨n, hn, h⟩ := Option.bind_eq_some_iff.mp h
    obtain rfl := Option.some.inj h
    have HC := Aside0.mk (has_search k a1 A0 c0 l0 n w hr0 hc0 hb8 hn)
    clear hr0 hc0 hn h hG hb8
    go_enter Tryd.func136, Tryd.ntmps136
    go_wp2_with (refine HC.out.mono ?_; rintro e w' ⟨rfl, hb⟩; have HB := Aside0.mk hb; clear hb)
    go_ret
    exact ⟨rfl, HB.out⟩
  · rw [if_neg hb8] at h
    cases h

/-! ### sets_Has: function 80 -/
def sets_Has.f (k : Nat) (l0 : List (S78)) (a1 : Int) : Option (Bool × Int) := (sets_Check.f k l0).bind fun t176 => (if t176 = 0 then ((sets_has.f k l0 a1).bind fun t177 => (some (t177, 0))) else (some (false, t176)))
theorem sets_Has.mono : ∀ a0 a1 k, LeO (sets_Has.f k a0 a1) (sets_Has.f (k + 1) a0 a1) := by
  intro a0 a1 k
  unfold sets_Has.f
  repeat' first
      | (with_reducible exact sets_Check.mono _ _)
      | (with_reducible exact sets_has.mono _ _ _)
      | (with_reducible exact LeO.refl _)
      | (with_reducible exact LeO.none _)
      | (with_reducible refine LeO.ite ?_ ?_)
      | (with_reducible refine LeO.bind ?_ (fun _ => ?_))
      | exact sets_Check.mono _ _
      | exact sets_has.mono _ _ _
      | exact LeO.none _
      | refine LeO.ite ?_ ?_
      | refine LeO.bind ?_ (fun _ => ?_)
set_option maxHeartbeats 8000000 in
set_option maxRecDepth 100000 in
theorem sets_Has.calls (k : Nat) (A0 : Option Addr) (c0 : Nat) (l0 : List (S78)) (a1 : Int) (r1 : Bool) (r2 : Int) (w : World) (hr0 : Kd.C k78 w A0 l0.length l0) (hc0 : l0.length ≤ c0) (h : sets_Has.f k l0 a1 = some (r1, r2)) (hG : GOK w := by first | (with_reducible exact HG_.out) | exact GOK.below HG_.out (by repeat (first | (with_reducible exact Below.refl _ _) | (with_reducible first | exact HB.out | apply below_alloc | apply pw_below_drewN | apply below_drew1 | refine below_set ?_ (Aside0.out (by assumption))) | exact HB.out)) | exact GOK.drewN HG_.out _ | exact GOK.drewN (GOK.drewN HG_.out _) _ | exact GOK.drew HG_.out) :
    Calls Tryd.prog 80 #[.slice A0 l0.length c0, .int .i32 a1] w fun e w' => e = .returned (.tuple #[.bool r1, .int .i64 r2]) ∧ Below w.heap.size w w' := by
  have HG_ := Aside0.mk hG
  clear hG
  have HR0 := Aside0.mk hr0
  have HC0 := Aside0.mk hc0
  clear hr0 hc0
  have HB := Aside0.mk (Below.refl w.heap.size w)
  have H : ((sets_Check.f k l0).bind fun t176 => (if t176 = 0 then ((sets_has.f k l0 a1).bind fun t177 => (some (t177, 0))) else (some (false, t176)))) = some (r1, r2) := h
  clear h
  replace H := Option.bind_eq_some_iff.mp H
  obtain ⟨t176, A30, H⟩ := H
  replace H : (if t176 = 0 then ((sets_has.f k l0 a1).bind fun t177 => (some (t177, 0))) else (some (false, t176))) = some (r1, r2) := H
  have A3 := Aside0.mk A30
  clear A30
  by_cases c4 : t176 = 0
  · rw [if_pos c4] at H
    have c4b0 : (t176 == 0) = true := beq_iff_eq.mpr c4
    have c4b1 : (t176 != 0) = false := bne_eq_false_iff_eq.mpr c4
    clear c4
    replace H := Option.bind_eq_some_iff.mp H
    obtain ⟨t177, A50, H⟩ := H
    replace H : (some (t177, 0)) = some (r1, r2) := H
    have A5 := Aside0.mk A50
    clear A50
    simp only [Option.some.injEq, Prod.mk.injEq] at H
    obtain ⟨rfl, rfl⟩ := H
    go_enter Tryd.func80, Tryd.ntmps80
    go_wp2_with (first | ((with_reducible refine gate_callee (f := 131) rfl ?_); refine goesL_ (some 8) rfl rfl Tryd.func131 (by kernel_rfl) rfl #[.slice A0 l0.length c0] rfl (by (try simp only [List.map_toArray, List.map_cons, List.map_nil]); first | done | rfl | (simp only [List.length_drop, List.length_take]; rfl)) ?_; (with_reducible refine (sets_Check.calls k _ _ l0 t176 _ ?side1 ?side2 A3.out).mono ?_); (case side1 => repeat (first | exact HR0.out | (with_reducible refine Kd.C_alloc ?_ _) | (with_reducible refine Kd.C_drewN ?_ _) | (with_reducible refine Kd.C_drew ?_))); (case side2 => exact HC0.out); rintro e w6 ⟨rfl, hb⟩; refine ⟨_, rfl, ?_⟩; have n0_ := Aside0.mk (below_step (by repeat (first | (with_reducible first | exact HB.out | apply below_alloc | apply pw_below_drewN | apply below_drew1) | exact HB.out)) hb); clear HB; have HB := n0_; clear n0_; (try clear hb); (try clear hb2); (try clear hk); (try clear hi)) | ((with_reducible refine gate_callee (f := 136) rfl ?_); refine goesL_ (some 14) rfl rfl Tryd.func136 (by kernel_rfl) rfl #[.slice A0 l0.length c0, .int .i32 a1] rfl (by (try simp only [List.map_toArray, List.map_cons, List.map_nil]); first | done | rfl | (simp only [List.length_drop, List.length_take]; rfl)) ?_; (with_reducible refine (sets_has.calls k _ _ l0 a1 t177 _ ?side1 ?side2 A5.out).mono ?_); (case side1 => repeat (first | exact (Kd.C_below HR0.out HB.out) | (with_reducible refine Kd.C_alloc ?_ _) | (with_reducible refine Kd.C_drewN ?_ _) | (with_reducible refine Kd.C_drew ?_))); (case side2 => exact HC0.out); rintro e w7 ⟨rfl, hb⟩; refine ⟨_, rfl, ?_⟩; have n0_ := Aside0.mk (below_step (by repeat (first | (with_reducible first | exact HB.out | apply below_alloc | apply pw_below_drewN | apply below_drew1) | exact HB.out)) hb); clear HB; have HB := n0_; clear n0_; (try clear hb); (try clear hb2); (try clear hk); (try clear hi)))
    go_ret2
    exact ⟨by first | rfl | (simp [errW_none, errW_some] <;> rfl) | (simp [*, errW_none, errW_some] <;> rfl), by repeat (first | (with_reducible first | exact HB.out | apply below_alloc | apply pw_below_drewN | apply below_drew1) | exact HB.out)⟩
  · rw [if_neg c4] at H
    have c4b0 : (t176 == 0) = false := beq_eq_false_iff_ne.mpr c4
    have c4b1 : (t176 != 0) = true := bne_iff_ne.mpr c4
    simp only [Option.some.injEq, Prod.mk.injEq] at H
    obtain ⟨rfl, rfl⟩ := H
    go_enter Tryd.func80, Tryd.ntmps80
    go_wp2_with (first | ((with_reducible refine gate_callee (f := 131) rfl ?_); refine goesL_ (some 8) rfl rfl Tryd.func131 (by kernel_rfl) rfl #[.slice A0 l0.length c0] rfl (by (try simp only [List.map_toArray, List.map_cons, List.map_nil]); first | done | rfl | (simp only [List.length_drop, List.length_take]; rfl)) ?_; (with_reducible refine (sets_Check.calls k _ _ l0 t176 _ ?side1 ?side2 A3.out).mono ?_); (case side1 => repeat (first | exact HR0.out | (with_reducible refine Kd.C_alloc ?_ _) | (with_reducible refine Kd.C_drewN ?_ _) | (with_reducible refine Kd.C_drew ?_))); (case side2 => exact HC0.out); rintro e w8 ⟨rfl, hb⟩; refine ⟨_, rfl, ?_⟩; have n0_ := Aside0.mk (below_step (by repeat (first | (with_reducible first | exact HB.out | apply below_alloc | apply pw_below_drewN | apply below_drew1) | exact HB.out)) hb); clear HB; have HB := n0_; clear n0_; (try clear hb); (try clear hb2); (try clear hk); (try clear hi)))
    go_ret2
    exact ⟨by first | rfl | (simp [errW_none, errW_some] <;> rfl) | (simp [*, errW_none, errW_some] <;> rfl), by repeat (first | (with_reducible first | exact HB.out | apply below_alloc | apply pw_below_drewN | apply below_drew1) | exact HB.out)⟩

end Go.Proofs.YtpobhkniekcciaaDoor.XN
