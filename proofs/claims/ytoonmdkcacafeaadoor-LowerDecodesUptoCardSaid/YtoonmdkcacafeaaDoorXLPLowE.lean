/- thistlelaw16: awake and LowerNil, walked. -/
import Derived.Test.YtoonmdkcacafeaaDoorXLPLowD
namespace Go.Proofs.YtoonmdkcacafeaaDoor.XL
open Go.RowKit Go.Lib Go.Proofs.YtoonmdkcacafeaaDoorW.PrintWords Go.Proofs.YtoonmdkcacafeaaDoorW.PrintLast Go.Proofs.YtoonmdkcacafeaaDoorW.PrintMore Go.Proofs.YtoonmdkcacafeaaDoor.XLib
attribute [local go_sem] max2_int min2_int max_two min_two max_three min_three max_four min_four
set_option linter.unusedVariables false
set_option linter.unusedSimpArgs false
theorem step_c3 : stepD [] 195 = ([], [195]) := by kernel_rfl
theorem step_a9 : stepD [195] 169 = ([233], []) := by kernel_rfl
set_option maxHeartbeats 4000000 in
set_option maxRecDepth 100000 in
theorem awake_k (w : World) (hG : GOK w) : Calls Tryd.prog 14 #[] w fun e w' => e = .returned (.bool true) ∧ Below w.heap.size w w' := by
  have HG_ := Aside0.mk hG
  clear hG
  go_enter Tryd.func14, Tryd.ntmps14
  go_wp2_with fail
  refine (new_k _).mono ?_
  rintro e w1 ⟨rfl, hd, hb⟩
  have HD1 := Aside0.mk hd
  have HB1 := Aside0.mk hb
  clear hd hb
  go_wp2_with fail
  have hbk := byte_k w.heap.size [] 195 w1 (by simp) HD1.out (HG_.out.below HB1.out)
  rw [show (((195 : UInt8).toNat : Nat) : Int) = 195 from rfl, step_c3] at hbk
  refine hbk.mono ?_
  clear hbk
  rintro e w2 ⟨v2, rfl, hr, hd, hk⟩
  obtain ⟨A2, c2, rfl, _, hC2⟩ := Kd.R_reads hr
  have HD2 := Aside0.mk hd
  have HB2 := Aside0.mk (hk.below HB1.out (Nat.le_refl _) HB1.out.size)
  clear hd hk hr hC2
  simp only [List.length_nil]
  go_wp2_with fail
  have hbk := byte_k w.heap.size [195] 169 w2 (by simp) HD2.out (HG_.out.below HB2.out)
  rw [show (((169 : UInt8).toNat : Nat) : Int) = 169 from rfl, step_a9] at hbk
  refine hbk.mono ?_
  clear hbk
  rintro e w3 ⟨v3, rfl, hr, hd, hk⟩
  obtain ⟨A3, c3, rfl, _, hC3⟩ := Kd.R_reads hr
  have HD3 := Aside0.mk hd
  have HB3 := Aside0.mk (hk.below HB2.out (Nat.le_refl _) HB2.out.size)
  obtain ⟨ad, e, hx⟩ := Kd.at_int hC3 0 (Int.le_refl _) (by simp)
  cases e
  clear hd hk hr hC3
  simp only [List.length_singleton]
  simp only [rd, List.getD_cons_zero, Int.toNat_zero] at hx
  rw [show ad.add 0 = ad by rcases ad with ⟨p, q, s⟩; simp [Addr.add]] at hx
  go_wp2_with fail
  go_ret
  exact ⟨by simp, HB3.out⟩
def thistlelaw16_LowerNil.f (_ : Nat) : Option Bool := some true
set_option maxHeartbeats 4000000 in
set_option maxRecDepth 100000 in
theorem thistlelaw16_LowerNil.calls (k : Nat) (r : Bool) (w : World) (h : thistlelaw16_LowerNil.f k = some r) (hG : GOK w) : Calls Tryd.prog 5 #[] w fun e w' => e = .returned (.bool r) ∧ Below w.heap.size w w' := by
  obtain rfl : true = r := by simpa [thistlelaw16_LowerNil.f] using h
  have HG_ := Aside0.mk hG
  clear hG h
  go_enter Tryd.func5, Tryd.ntmps5
  go_wp2_with fail
  refine (awake_k _ HG_.out).mono ?_
  rintro e w1 ⟨rfl, hb⟩
  have HB1 := Aside0.mk hb
  clear hb
  go_wp2_with fail
  refine (byte_nil _ _).mono ?_
  rintro e w2 ⟨rfl, rfl⟩
  go_wp2_with fail
  refine (end_nil _).mono ?_
  rintro e w2 ⟨rfl, rfl⟩
  go_wp2_with fail
  refine (held_nil _).mono ?_
  rintro e w2 ⟨rfl, rfl⟩
  go_wp2_with fail
  refine (new_k _).mono ?_
  rintro e w3 ⟨rfl, hd, hb⟩
  have HD3 := Aside0.mk hd
  have HB3 := Aside0.mk (below_step HB1.out hb)
  clear hd hb
  go_wp2_with fail
  refine (held_k _ [] _ HD3.out).mono ?_
  rintro e w4 ⟨v4, rfl, hr, hb⟩
  obtain ⟨A4, c4, rfl, _, hC4⟩ := Kd.R_reads hr
  have HD4 := Aside0.mk (HD3.out.below hb)
  have HB4 := Aside0.mk (below_step HB3.out hb)
  clear hb hr hC4
  simp only [List.map_nil, List.length_nil]
  go_wp2_with fail
  refine (end_k _ [] _ HD4.out).mono ?_
  rintro e w5 ⟨v5, rfl, hr, hd, hk⟩
  obtain ⟨A5, c5, rfl, _, hC5⟩ := Kd.R_reads hr
  have HB5 := Aside0.mk (hk.below HB4.out HB1.out.size HB4.out.size)
  clear hd hk hr hC5
  simp only [List.map_nil, List.length_nil]
  go_wp2_with fail
  go_ret
  exact ⟨rfl, HB5.out⟩
end Go.Proofs.YtoonmdkcacafeaaDoor.XL
