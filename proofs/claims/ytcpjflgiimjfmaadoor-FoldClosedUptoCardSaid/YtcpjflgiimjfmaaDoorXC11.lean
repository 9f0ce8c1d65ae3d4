/- WRITTEN BY A PROGRAM OF THIS SESSION (wip/tools/xprint.py, over the kit's printer): contracts of the functions that the seat's laws reach. -/
import Derived.Test.YtcpjflgiimjfmaaDoorXC0
import Derived.Test.YtcpjflgiimjfmaaDoorXC5
import Derived.Test.YtcpjflgiimjfmaaDoorXC6
import Derived.Test.YtcpjflgiimjfmaaDoorXC10
namespace Go.Proofs.YtcpjflgiimjfmaaDoor.XC
open Go.RowKit Go.Proofs.YtcpjflgiimjfmaaDoorW.PrintWords Go.Proofs.YtcpjflgiimjfmaaDoorW.PrintLast Go.Proofs.YtcpjflgiimjfmaaDoorW.PrintMore
attribute [local go_sem] max2_int min2_int max_two min_two max_three min_three max_four min_four   -- for this text's walks alone
set_option linter.unusedVariables false
set_option linter.unusedSimpArgs false

/-! ### sets_Not: function 14 -/
theorem bands3_reads {w : World} (hG : GOK w) : Kd.C k41 w (some ⟨0, 0, none⟩) bandsL.length bandsL := bands_reads hG
def sets_Not.f (k : Nat) (l0 : List S41) : Option (List S41 × Int) :=
  (sets_Check.f k l0).bind fun e => if e = 0 then ((sets_without.f k bandsL l0).bind fun o => some (o, 0)) else some ([], e)
theorem sets_Not.mono : ∀ a0 k, LeO (sets_Not.f k a0) (sets_Not.f (k + 1) a0) := by
  intro a0 k
  unfold sets_Not.f
  refine LeO.bind (sets_Check.mono _ _) (fun _ => ?_)
  refine LeO.ite ?_ (LeO.refl _)
  exact LeO.bind (sets_without.mono _ _ _) (fun _ => LeO.refl _)
set_option maxHeartbeats 800000 in
set_option maxRecDepth 100000 in
theorem sets_Not.calls (k : Nat) (A0 : Option Addr) (c0 : Nat) (l0 : List S41) (r1 : List S41) (r2 : Int) (w : World) (hr0 : Kd.C k41 w A0 l0.length l0) (hc0 : l0.length ≤ c0) (h : sets_Not.f k l0 = some (r1, r2)) (hG : GOK w := by first | (with_reducible exact HG_.out) | exact GOK.below HG_.out (by repeat (first | (with_reducible exact Below.refl _ _) | (with_reducible first | exact HB.out | apply below_alloc | apply pw_below_drewN | apply below_drew1 | refine below_set ?_ (Aside0.out (by assumption))) | exact HB.out)) | exact GOK.drewN HG_.out _ | exact GOK.drewN (GOK.drewN HG_.out _) _ | exact GOK.drew HG_.out) :
    Calls Tryd.prog 14 #[.slice A0 l0.length c0] w fun e w' => ∃ v0_ : Value, e = .returned (.tuple #[v0_, .int .i64 r2]) ∧ Kd.R k41 41 w' w.heap.size (fun _ => True) v0_ r1 ∧ Below w.heap.size w w' := by
  unfold sets_Not.f at h
  obtain ⟨e, he, h⟩ := Option.bind_eq_some_iff.mp h
  have HC := Aside0.mk (sets_Check.calls k A0 c0 l0 e w hr0 hc0 he hG)
  have HR := Aside0.mk hr0
  have HK := Aside0.mk hc0
  have HE := Aside0.mk he
  have HGG := Aside0.mk hG
  clear hr0 hc0 he hG
  by_cases e0 : e = 0
  · rw [if_pos e0] at h
    obtain ⟨o, ho, h⟩ := Option.bind_eq_some_iff.mp h
    obtain ⟨rfl, rfl⟩ : o = r1 ∧ (0 : Int) = r2 := by simpa using h
    have HO := Aside0.mk ho
    subst e0
    clear ho h
    go_enter Tryd.func14, Tryd.ntmps14
    go_wp2_with fail
    refine HC.out.mono ?_
    rintro e w1 ⟨rfl, hb⟩
    have HB := Aside0.mk hb
    clear hb
    go_wp2_with fail
    refine (sets_without.calls k (some ⟨0, 0, none⟩) 3 bandsL A0 c0 l0 o _ (bands3_reads (HGG.out.below HB.out)) (by simp [bandsL]) (Kd.C_below HR.out HB.out) HK.out HO.out).mono ?_
    rintro e w2 ⟨v, rfl, hv, hb⟩
    have HV := Aside0.mk (Kd.R_lower hv HB.out.size)
    have HB2 := Aside0.mk (below_step HB.out hb)
    clear hv hb
    go_wp2_with fail
    go_ret2
    exact ⟨v, rfl, HV.out, HB2.out⟩
  · rw [if_neg e0] at h
    obtain ⟨rfl, rfl⟩ : ([] : List S41) = r1 ∧ e = r2 := by simpa using h
    have en : (e != 0) = true := bne_iff_ne.mpr e0
    go_enter Tryd.func14, Tryd.ntmps14
    go_wp2_with fail
    refine HC.out.mono ?_
    rintro e w1 ⟨rfl, hb⟩
    have HB := Aside0.mk hb
    clear hb
    go_wp2_with fail
    go_ret2
    exact ⟨_, rfl, Kd.R_nil _ _ _ _ _, HB.out⟩

end Go.Proofs.YtcpjflgiimjfmaaDoor.XC
