/- WRITTEN BY A PROGRAM OF THIS SESSION (wip/tools/xprint.py, over the kit's printer): contracts of the functions that the seat's laws reach. -/
import Derived.Test.YtcpjflgiimjfmaaDoorXLibShort
import Derived.Test.YtcpjflgiimjfmaaDoorXF0
namespace Go.Proofs.YtcpjflgiimjfmaaDoor.XF
open Go.Proofs.YtcpjflgiimjfmaaDoor.XShort (o i)
open Go.RowKit Go.Proofs.YtcpjflgiimjfmaaDoorW.PrintWords Go.Proofs.YtcpjflgiimjfmaaDoorW.PrintLast Go.Proofs.YtcpjflgiimjfmaaDoorW.PrintMore
attribute [local go_sem] max2_int min2_int max_two min_two max_three min_three max_four min_four
set_option linter.unusedVariables false
set_option linter.unusedSimpArgs false

/-! ### thistleref03_Rules: function 39 -/
def thistleref03_Rules.f  : Option ((List (S65))) := some (([(⟨65, 90, 1, 32, 0⟩ : S65), (⟨192, 222, 1, 32, 215⟩ : S65), (⟨913, 937, 1, 32, 930⟩ : S65), (⟨1040, 1071, 1, 32, 0⟩ : S65), (⟨65313, 65338, 1, 32, 0⟩ : S65), (⟨1024, 1039, 1, 80, 0⟩ : S65), (⟨66560, 66599, 1, 40, 0⟩ : S65), (⟨256, 302, 2, 1, 0⟩ : S65), (⟨306, 310, 2, 1, 0⟩ : S65), (⟨330, 374, 2, 1, 0⟩ : S65), (⟨7680, 7828, 2, 1, 0⟩ : S65), (⟨313, 327, 2, 1, 0⟩ : S65), (⟨377, 381, 2, 1, 0⟩ : S65), (⟨255, 255, 1, 121, 0⟩ : S65), (⟨223, 223, 1, 7615, 0⟩ : S65), (⟨181, 181, 1, 775, 0⟩ : S65), (⟨931, 931, 1, 31, 0⟩ : S65), (⟨83, 83, 1, 300, 0⟩ : S65), (⟨75, 75, 1, 8415, 0⟩ : S65), (⟨197, 197, 1, 8294, 0⟩ : S65)] : List (S65)))
set_option maxHeartbeats 8000000 in
set_option maxRecDepth 100000 in
theorem thistleref03_Rules.calls  (r : List (S65)) (w : World) (h : thistleref03_Rules.f  = some r) :
  Calls Tryd.prog 39 #[] w fun e w' => ∃ v0_ : Value, e = .returned (v0_) ∧ Kd.R k65 65 w' w.heap.size (fun _ => True) v0_ r ∧ Below w.heap.size w w' := by
 have hu65 := Tryd.underlying65
 have HB := Aside0.mk (Below.refl w.heap.size w)
 have H : (some (([(⟨65, 90, 1, 32, 0⟩ : S65), (⟨192, 222, 1, 32, 215⟩ : S65), (⟨913, 937, 1, 32, 930⟩ : S65), (⟨1040, 1071, 1, 32, 0⟩ : S65), (⟨65313, 65338, 1, 32, 0⟩ : S65), (⟨1024, 1039, 1, 80, 0⟩ : S65), (⟨66560, 66599, 1, 40, 0⟩ : S65), (⟨256, 302, 2, 1, 0⟩ : S65), (⟨306, 310, 2, 1, 0⟩ : S65), (⟨330, 374, 2, 1, 0⟩ : S65), (⟨7680, 7828, 2, 1, 0⟩ : S65), (⟨313, 327, 2, 1, 0⟩ : S65), (⟨377, 381, 2, 1, 0⟩ : S65), (⟨255, 255, 1, 121, 0⟩ : S65), (⟨223, 223, 1, 7615, 0⟩ : S65), (⟨181, 181, 1, 775, 0⟩ : S65), (⟨931, 931, 1, 31, 0⟩ : S65), (⟨83, 83, 1, 300, 0⟩ : S65), (⟨75, 75, 1, 8415, 0⟩ : S65), (⟨197, 197, 1, 8294, 0⟩ : S65)] : List (S65)))) = some r := h
 clear h
 obtain ⟨y161, hy161⟩ : ∃ y_ : List (S65), y_ = (([(⟨65, 90, 1, 32, 0⟩ : S65), (⟨192, 222, 1, 32, 215⟩ : S65), (⟨913, 937, 1, 32, 930⟩ : S65), (⟨1040, 1071, 1, 32, 0⟩ : S65), (⟨65313, 65338, 1, 32, 0⟩ : S65), (⟨1024, 1039, 1, 80, 0⟩ : S65), (⟨66560, 66599, 1, 40, 0⟩ : S65), (⟨256, 302, 2, 1, 0⟩ : S65), (⟨306, 310, 2, 1, 0⟩ : S65), (⟨330, 374, 2, 1, 0⟩ : S65), (⟨7680, 7828, 2, 1, 0⟩ : S65), (⟨313, 327, 2, 1, 0⟩ : S65), (⟨377, 381, 2, 1, 0⟩ : S65), (⟨255, 255, 1, 121, 0⟩ : S65), (⟨223, 223, 1, 7615, 0⟩ : S65), (⟨181, 181, 1, 775, 0⟩ : S65), (⟨931, 931, 1, 31, 0⟩ : S65), (⟨83, 83, 1, 300, 0⟩ : S65), (⟨75, 75, 1, 8415, 0⟩ : S65), (⟨197, 197, 1, 8294, 0⟩ : S65)] : List (S65))) := ⟨_, rfl⟩
 replace H : (some y161) = some r := by first | (rw [hy161]; with_reducible exact H) | (have H2_ := (Option.bind_some _ _).symm.trans H; rw [hy161]; with_reducible exact H2_) | (have H2_ := (Option.bind_some _ _).symm.trans H; with_reducible exact H2_) | with_reducible exact H | (rw [hy161]; exact H) | exact H
 have Ny161 := Aside0.mk hy161
 clear hy161
 obtain rfl := Option.some.inj H
 go_enter Tryd.func39, Tryd.ntmps39
 go_wp2_with (first | ((with_reducible refine gate_dst (N := 21) rfl ?_); refine Kd.R_lit k65 _ 65 ?hg (N := 21) ?hd (xs := ([(⟨65, 90, 1, 32, 0⟩ : S65), (⟨192, 222, 1, 32, 215⟩ : S65), (⟨913, 937, 1, 32, 930⟩ : S65), (⟨1040, 1071, 1, 32, 0⟩ : S65), (⟨65313, 65338, 1, 32, 0⟩ : S65), (⟨1024, 1039, 1, 80, 0⟩ : S65), (⟨66560, 66599, 1, 40, 0⟩ : S65), (⟨256, 302, 2, 1, 0⟩ : S65), (⟨306, 310, 2, 1, 0⟩ : S65), (⟨330, 374, 2, 1, 0⟩ : S65), (⟨7680, 7828, 2, 1, 0⟩ : S65), (⟨313, 327, 2, 1, 0⟩ : S65), (⟨377, 381, 2, 1, 0⟩ : S65), (⟨255, 255, 1, 121, 0⟩ : S65), (⟨223, 223, 1, 7615, 0⟩ : S65), (⟨181, 181, 1, 775, 0⟩ : S65), (⟨931, 931, 1, 31, 0⟩ : S65), (⟨83, 83, 1, 300, 0⟩ : S65), (⟨75, 75, 1, 8415, 0⟩ : S65), (⟨197, 197, 1, 8294, 0⟩ : S65)] : List (S65))) (inner := [.int .i32 65, .int .i32 90, .int .i32 1, .int .i32 32, .int .i32 0, .int .i32 192, .int .i32 222, .int .i32 1, .int .i32 32, .int .i32 215, .int .i32 913, .int .i32 937, .int .i32 1, .int .i32 32, .int .i32 930, .int .i32 1040, .int .i32 1071, .int .i32 1, .int .i32 32, .int .i32 0, .int .i32 65313, .int .i32 65338, .int .i32 1, .int .i32 32, .int .i32 0, .int .i32 1024, .int .i32 1039, .int .i32 1, .int .i32 80, .int .i32 0, .int .i32 66560, .int .i32 66599, .int .i32 1, .int .i32 40, .int .i32 0, .int .i32 256, .int .i32 302, .int .i32 2, .int .i32 1, .int .i32 0, .int .i32 306, .int .i32 310, .int .i32 2, .int .i32 1, .int .i32 0, .int .i32 330, .int .i32 374, .int .i32 2, .int .i32 1, .int .i32 0, .int .i32 7680, .int .i32 7828, .int .i32 2, .int .i32 1, .int .i32 0, .int .i32 313, .int .i32 327, .int .i32 2, .int .i32 1, .int .i32 0, .int .i32 377, .int .i32 381, .int .i32 2, .int .i32 1, .int .i32 0, .int .i32 255, .int .i32 255, .int .i32 1, .int .i32 121, .int .i32 0, .int .i32 223, .int .i32 223, .int .i32 1, .int .i32 7615, .int .i32 0, .int .i32 181, .int .i32 181, .int .i32 1, .int .i32 775, .int .i32 0, .int .i32 931, .int .i32 931, .int .i32 1, .int .i32 31, .int .i32 0, .int .i32 83, .int .i32 83, .int .i32 1, .int .i32 300, .int .i32 0, .int .i32 75, .int .i32 75, .int .i32 1, .int .i32 8415, .int .i32 0, .int .i32 197, .int .i32 197, .int .i32 1, .int .i32 8294, .int .i32 0]) (ok := fun _ => True) (okp := fun _ => True) ?hr ?hp (fun _ hk => hk) trivial (Below.refl _ _) (Nat.le_refl _) (by simp) ?_; (case hd => rfl); (case hg => rfl); (case hr => first | (go_simp; done) | (go_simp; rfl)); (case hp => exact (Reps.c5 (show Kd.M k65 _ _ _ (⟨65, 90, 1, 32, 0⟩ : S65) [.int .i32 65, .int .i32 90, .int .i32 1, .int .i32 32, .int .i32 0] from (k65_mkM _ _ _ (⟨65, 90, 1, 32, 0⟩ : S65) )) (Reps.c5 (show Kd.M k65 _ _ _ (⟨192, 222, 1, 32, 215⟩ : S65) [.int .i32 192, .int .i32 222, .int .i32 1, .int .i32 32, .int .i32 215] from (k65_mkM _ _ _ (⟨192, 222, 1, 32, 215⟩ : S65) )) (Reps.c5 (show Kd.M k65 _ _ _ (⟨913, 937, 1, 32, 930⟩ : S65) [.int .i32 913, .int .i32 937, .int .i32 1, .int .i32 32, .int .i32 930] from (k65_mkM _ _ _ (⟨913, 937, 1, 32, 930⟩ : S65) )) (Reps.c5 (show Kd.M k65 _ _ _ (⟨1040, 1071, 1, 32, 0⟩ : S65) [.int .i32 1040, .int .i32 1071, .int .i32 1, .int .i32 32, .int .i32 0] from (k65_mkM _ _ _ (⟨1040, 1071, 1, 32, 0⟩ : S65) )) (Reps.c5 (show Kd.M k65 _ _ _ (⟨65313, 65338, 1, 32, 0⟩ : S65) [.int .i32 65313, .int .i32 65338, .int .i32 1, .int .i32 32, .int .i32 0] from (k65_mkM _ _ _ (⟨65313, 65338, 1, 32, 0⟩ : S65) )) (Reps.c5 (show Kd.M k65 _ _ _ (⟨1024, 1039, 1, 80, 0⟩ : S65) [.int .i32 1024, .int .i32 1039, .int .i32 1, .int .i32 80, .int .i32 0] from (k65_mkM _ _ _ (⟨1024, 1039, 1, 80, 0⟩ : S65) )) (Reps.c5 (show Kd.M k65 _ _ _ (⟨66560, 66599, 1, 40, 0⟩ : S65) [.int .i32 66560, .int .i32 66599, .int .i32 1, .int .i32 40, .int .i32 0] from (k65_mkM _ _ _ (⟨66560, 66599, 1, 40, 0⟩ : S65) )) (Reps.c5 (show Kd.M k65 _ _ _ (⟨256, 302, 2, 1, 0⟩ : S65) [.int .i32 256, .int .i32 302, .int .i32 2, .int .i32 1, .int .i32 0] from (k65_mkM _ _ _ (⟨256, 302, 2, 1, 0⟩ : S65) )) (Reps.c5 (show Kd.M k65 _ _ _ (⟨306, 310, 2, 1, 0⟩ : S65) [.int .i32 306, .int .i32 310, .int .i32 2, .int .i32 1, .int .i32 0] from (k65_mkM _ _ _ (⟨306, 310, 2, 1, 0⟩ : S65) )) (Reps.c5 (show Kd.M k65 _ _ _ (⟨330, 374, 2, 1, 0⟩ : S65) [.int .i32 330, .int .i32 374, .int .i32 2, .int .i32 1, .int .i32 0] from (k65_mkM _ _ _ (⟨330, 374, 2, 1, 0⟩ : S65) )) (Reps.c5 (show Kd.M k65 _ _ _ (⟨7680, 7828, 2, 1, 0⟩ : S65) [.int .i32 7680, .int .i32 7828, .int .i32 2, .int .i32 1, .int .i32 0] from (k65_mkM _ _ _ (⟨7680, 7828, 2, 1, 0⟩ : S65) )) (Reps.c5 (show Kd.M k65 _ _ _ (⟨313, 327, 2, 1, 0⟩ : S65) [.int .i32 313, .int .i32 327, .int .i32 2, .int .i32 1, .int .i32 0] from (k65_mkM _ _ _ (⟨313, 327, 2, 1, 0⟩ : S65) )) (Reps.c5 (show Kd.M k65 _ _ _ (⟨377, 381, 2, 1, 0⟩ : S65) [.int .i32 377, .int .i32 381, .int .i32 2, .int .i32 1, .int .i32 0] from (k65_mkM _ _ _ (⟨377, 381, 2, 1, 0⟩ : S65) )) (Reps.c5 (show Kd.M k65 _ _ _ (⟨255, 255, 1, 121, 0⟩ : S65) [.int .i32 255, .int .i32 255, .int .i32 1, .int .i32 121, .int .i32 0] from (k65_mkM _ _ _ (⟨255, 255, 1, 121, 0⟩ : S65) )) (Reps.c5 (show Kd.M k65 _ _ _ (⟨223, 223, 1, 7615, 0⟩ : S65) [.int .i32 223, .int .i32 223, .int .i32 1, .int .i32 7615, .int .i32 0] from (k65_mkM _ _ _ (⟨223, 223, 1, 7615, 0⟩ : S65) )) (Reps.c5 (show Kd.M k65 _ _ _ (⟨181, 181, 1, 775, 0⟩ : S65) [.int .i32 181, .int .i32 181, .int .i32 1, .int .i32 775, .int .i32 0] from (k65_mkM _ _ _ (⟨181, 181, 1, 775, 0⟩ : S65) )) (Reps.c5 (show Kd.M k65 _ _ _ (⟨931, 931, 1, 31, 0⟩ : S65) [.int .i32 931, .int .i32 931, .int .i32 1, .int .i32 31, .int .i32 0] from (k65_mkM _ _ _ (⟨931, 931, 1, 31, 0⟩ : S65) )) (Reps.c5 (show Kd.M k65 _ _ _ (⟨83, 83, 1, 300, 0⟩ : S65) [.int .i32 83, .int .i32 83, .int .i32 1, .int .i32 300, .int .i32 0] from (k65_mkM _ _ _ (⟨83, 83, 1, 300, 0⟩ : S65) )) (Reps.c5 (show Kd.M k65 _ _ _ (⟨75, 75, 1, 8415, 0⟩ : S65) [.int .i32 75, .int .i32 75, .int .i32 1, .int .i32 8415, .int .i32 0] from (k65_mkM _ _ _ (⟨75, 75, 1, 8415, 0⟩ : S65) )) (Reps.c5 (show Kd.M k65 _ _ _ (⟨197, 197, 1, 8294, 0⟩ : S65) [.int .i32 197, .int .i32 197, .int .i32 1, .int .i32 8294, .int .i32 0] from (k65_mkM _ _ _ (⟨197, 197, 1, 8294, 0⟩ : S65) )) (Reps.none _ _)))))))))))))))))))))); intro v162 w1 ho2 hb hg_ hnew_; clear hg_ hnew_; (first | rw [← Ny161.out] at ho2 | (simp only [Int.reduceToNat] at ho2; rw [← Ny161.out] at ho2)); have n0_ := Aside0.mk (Kd.R_lower ho2 (below_size XShort.bel)); have n1_ := Aside0.mk (below_step XShort.bel hb); clear HB; have HO163 := n0_; have HB := n1_; clear n0_ n1_; clear hb ho2))
 go_ret
 exact ⟨_, by first | rfl | (simp [errW_none, errW_some] <;> rfl) | (simp [*, errW_none, errW_some] <;> rfl), by (with_reducible repeat (first | apply Kd.R_alloc | apply Kd.R_drewN | apply Kd.R_drew)); exact HO163.out, XShort.bel⟩

/-! ### thistleref03_names: function 40 -/
def thistleref03_names.f (a0_0 : Int) (a0_1 : Int) (a0_2 : Int) (a0_3 : Int) (a0_4 : Int) (a1 : Int) : Option (Bool) := if a1 ≥ a0_0 then (if a1 ≤ a0_1 then (if a0_2 = 0 then (none) else (if (Int.tmod (wrap32 (a1 - a0_0)) a0_2) = 0 then (if a0_4 = 0 then (some true) else (some (a1 != a0_4))) else (some false))) else (some false)) else (some false)
set_option maxHeartbeats 8000000 in
set_option maxRecDepth 100000 in
theorem thistleref03_names.calls (a0_0 : Int) (a0_1 : Int) (a0_2 : Int) (a0_3 : Int) (a0_4 : Int) (a1 : Int) (r : Bool) (w : World) (h : thistleref03_names.f a0_0 a0_1 a0_2 a0_3 a0_4 a1 = some r) :
  Calls Tryd.prog 40 #[.agg #[.int .i32 a0_0, .int .i32 a0_1, .int .i32 a0_2, .int .i32 a0_3, .int .i32 a0_4], .int .i32 a1] w fun e w' => e = .returned (.bool r) ∧ Below w.heap.size w w' := by
 have hu65 := Tryd.underlying65
 have HB := Aside0.mk (Below.refl w.heap.size w)
 have H : (if a1 ≥ a0_0 then (if a1 ≤ a0_1 then (if a0_2 = 0 then (none) else (if (Int.tmod (wrap32 (a1 - a0_0)) a0_2) = 0 then (if a0_4 = 0 then (some true) else (some (a1 != a0_4))) else (some false))) else (some false)) else (some false)) = some r := h
 clear h
 by_cases c3 : a1 ≥ a0_0
 ·rw [if_pos c3] at H
  have c3b0 : decide (a0_0 ≤ a1) = true := decide_eq_true c3
  clear c3
  by_cases c4 : a1 ≤ a0_1
  ·rw [if_pos c4] at H
   have c4b0 : decide (a1 ≤ a0_1) = true := decide_eq_true c4
   clear c4
   by_cases c5 : a0_2 = 0
   ·rw [if_pos c5] at H
    exact absurd H (by simp)
   ·rw [if_neg c5] at H
    have c5b0 : (a0_2 == 0) = false := beq_eq_false_iff_ne.mpr c5
    have c5b1 : (a0_2 != 0) = true := bne_iff_ne.mpr c5
    by_cases c6 : (Int.tmod (wrap32 (a1 - a0_0)) a0_2) = 0
    ·rw [if_pos c6] at H
     have c6b0 : ((Int.tmod (wrap32 (a1 - a0_0)) a0_2) == 0) = true := beq_iff_eq.mpr c6
     have c6b1 : ((Int.tmod (wrap32 (a1 - a0_0)) a0_2) != 0) = false := bne_eq_false_iff_eq.mpr c6
     clear c6
     by_cases c7 : a0_4 = 0
     ·rw [if_pos c7] at H
      have c7b0 : (a0_4 == 0) = true := beq_iff_eq.mpr c7
      have c7b1 : (a0_4 != 0) = false := bne_eq_false_iff_eq.mpr c7
      clear c7
      obtain rfl := Option.some.inj H
      go_enter Tryd.func40, Tryd.ntmps40
      go_wp2_with (first | ((with_reducible refine gate_dst (N := 2) rfl ?_); refine box_event ?hg (N := 2) ?hd (cs := #[.int .i32 a0_0, .int .i32 a0_1, .int .i32 a0_2, .int .i32 a0_3, .int .i32 a0_4]) (t := 65) ?hr ?_; (case hd => rfl); (case hg => rfl); (case hr => first | (go_simp; done) | (go_simp; rfl)); intro gb164 hg w8 hbox hb; have n0_ := Aside0.mk (below_step XShort.bel hb); have n1_ := Aside0.mk (hbox); have n2_ := Aside0.mk ((by rw [hg]; exact (below_size XShort.bel) : w.heap.size ≤ gb164)); have n3_ := Aside0.mk ((by rw [hg]; exact (below_size XShort.bel) : w.heap.size ≤ gb164)); clear HB; have HB := n0_; have BK164 := n1_; have GW164 := n2_; have GE164 := n3_; clear n0_ n1_ n2_ n3_; clear hb hbox hg; have hcz9_0 : w8.cell? ⟨gb164, 0, none⟩ = some (.int .i32 a0_0) := (blk_cell BK164.out 0).trans rfl; have hcz9_1 : w8.cell? ⟨gb164, 1, none⟩ = some (.int .i32 a0_1) := (blk_cell BK164.out 1).trans rfl; have hcz9_2 : w8.cell? ⟨gb164, 2, none⟩ = some (.int .i32 a0_2) := (blk_cell BK164.out 2).trans rfl; have hcz9_3 : w8.cell? ⟨gb164, 3, none⟩ = some (.int .i32 a0_3) := (blk_cell BK164.out 3).trans rfl; have hcz9_4 : w8.cell? ⟨gb164, 4, none⟩ = some (.int .i32 a0_4) := (blk_cell BK164.out 4).trans rfl; have hfz9_0 := blk_frozen BK164.out 0; have hfz9_1 := blk_frozen BK164.out 1; have hfz9_2 := blk_frozen BK164.out 2; have hfz9_3 := blk_frozen BK164.out 3; have hfz9_4 := blk_frozen BK164.out 4))
      go_ret
      exact ⟨by first | rfl | (simp [errW_none, errW_some] <;> rfl) | (simp [*, errW_none, errW_some] <;> rfl), by repeat (first | (with_reducible first | exact HB.out | apply below_alloc | apply pw_below_drewN | apply below_drew1 | refine below_set ?_ GE164.out) | exact HB.out)⟩
     ·rw [if_neg c7] at H
      have c7b0 : (a0_4 == 0) = false := beq_eq_false_iff_ne.mpr c7
      have c7b1 : (a0_4 != 0) = true := bne_iff_ne.mpr c7
      obtain rfl := Option.some.inj H
      go_enter Tryd.func40, Tryd.ntmps40
      go_wp2_with (first | ((with_reducible refine gate_dst (N := 2) rfl ?_); refine box_event ?hg (N := 2) ?hd (cs := #[.int .i32 a0_0, .int .i32 a0_1, .int .i32 a0_2, .int .i32 a0_3, .int .i32 a0_4]) (t := 65) ?hr ?_; (case hd => rfl); (case hg => rfl); (case hr => first | (go_simp; done) | (go_simp; rfl)); intro gb164 hg w10 hbox hb; have n0_ := Aside0.mk (below_step XShort.bel hb); have n1_ := Aside0.mk (hbox); have n2_ := Aside0.mk ((by rw [hg]; exact (below_size XShort.bel) : w.heap.size ≤ gb164)); have n3_ := Aside0.mk ((by rw [hg]; exact (below_size XShort.bel) : w.heap.size ≤ gb164)); clear HB; have HB := n0_; have BK164 := n1_; have GW164 := n2_; have GE164 := n3_; clear n0_ n1_ n2_ n3_; clear hb hbox hg; have hcz11_0 : w10.cell? ⟨gb164, 0, none⟩ = some (.int .i32 a0_0) := (blk_cell BK164.out 0).trans rfl; have hcz11_1 : w10.cell? ⟨gb164, 1, none⟩ = some (.int .i32 a0_1) := (blk_cell BK164.out 1).trans rfl; have hcz11_2 : w10.cell? ⟨gb164, 2, none⟩ = some (.int .i32 a0_2) := (blk_cell BK164.out 2).trans rfl; have hcz11_3 : w10.cell? ⟨gb164, 3, none⟩ = some (.int .i32 a0_3) := (blk_cell BK164.out 3).trans rfl; have hcz11_4 : w10.cell? ⟨gb164, 4, none⟩ = some (.int .i32 a0_4) := (blk_cell BK164.out 4).trans rfl; have hfz11_0 := blk_frozen BK164.out 0; have hfz11_1 := blk_frozen BK164.out 1; have hfz11_2 := blk_frozen BK164.out 2; have hfz11_3 := blk_frozen BK164.out 3; have hfz11_4 := blk_frozen BK164.out 4))
      go_ret
      exact ⟨by first | rfl | (simp [errW_none, errW_some] <;> rfl) | (simp [*, errW_none, errW_some] <;> rfl), by repeat (first | (with_reducible first | exact HB.out | apply below_alloc | apply pw_below_drewN | apply below_drew1 | refine below_set ?_ GE164.out) | exact HB.out)⟩
    ·rw [if_neg c6] at H
     have c6b0 : ((Int.tmod (wrap32 (a1 - a0_0)) a0_2) == 0) = false := beq_eq_false_iff_ne.mpr c6
     have c6b1 : ((Int.tmod (wrap32 (a1 - a0_0)) a0_2) != 0) = true := bne_iff_ne.mpr c6
     obtain rfl := Option.some.inj H
     go_enter Tryd.func40, Tryd.ntmps40
     go_wp2_with (first | ((with_reducible refine gate_dst (N := 2) rfl ?_); refine box_event ?hg (N := 2) ?hd (cs := #[.int .i32 a0_0, .int .i32 a0_1, .int .i32 a0_2, .int .i32 a0_3, .int .i32 a0_4]) (t := 65) ?hr ?_; (case hd => rfl); (case hg => rfl); (case hr => first | (go_simp; done) | (go_simp; rfl)); intro gb164 hg w12 hbox hb; have n0_ := Aside0.mk (below_step XShort.bel hb); have n1_ := Aside0.mk (hbox); have n2_ := Aside0.mk ((by rw [hg]; exact (below_size XShort.bel) : w.heap.size ≤ gb164)); have n3_ := Aside0.mk ((by rw [hg]; exact (below_size XShort.bel) : w.heap.size ≤ gb164)); clear HB; have HB := n0_; have BK164 := n1_; have GW164 := n2_; have GE164 := n3_; clear n0_ n1_ n2_ n3_; clear hb hbox hg; have hcz13_0 : w12.cell? ⟨gb164, 0, none⟩ = some (.int .i32 a0_0) := (blk_cell BK164.out 0).trans rfl; have hcz13_1 : w12.cell? ⟨gb164, 1, none⟩ = some (.int .i32 a0_1) := (blk_cell BK164.out 1).trans rfl; have hcz13_2 : w12.cell? ⟨gb164, 2, none⟩ = some (.int .i32 a0_2) := (blk_cell BK164.out 2).trans rfl; have hcz13_3 : w12.cell? ⟨gb164, 3, none⟩ = some (.int .i32 a0_3) := (blk_cell BK164.out 3).trans rfl; have hcz13_4 : w12.cell? ⟨gb164, 4, none⟩ = some (.int .i32 a0_4) := (blk_cell BK164.out 4).trans rfl; have hfz13_0 := blk_frozen BK164.out 0; have hfz13_1 := blk_frozen BK164.out 1; have hfz13_2 := blk_frozen BK164.out 2; have hfz13_3 := blk_frozen BK164.out 3; have hfz13_4 := blk_frozen BK164.out 4))
     go_ret
     exact ⟨by first | rfl | (simp [errW_none, errW_some] <;> rfl) | (simp [*, errW_none, errW_some] <;> rfl), by repeat (first | (with_reducible first | exact HB.out | apply below_alloc | apply pw_below_drewN | apply below_drew1 | refine below_set ?_ GE164.out) | exact HB.out)⟩
  ·rw [if_neg c4] at H
   have c4b0 : decide (a1 ≤ a0_1) = false := decide_eq_false c4
   clear c4
   obtain rfl := Option.some.inj H
   go_enter Tryd.func40, Tryd.ntmps40
   go_wp2_with (first | ((with_reducible refine gate_dst (N := 2) rfl ?_); refine box_event ?hg (N := 2) ?hd (cs := #[.int .i32 a0_0, .int .i32 a0_1, .int .i32 a0_2, .int .i32 a0_3, .int .i32 a0_4]) (t := 65) ?hr ?_; (case hd => rfl); (case hg => rfl); (case hr => first | (go_simp; done) | (go_simp; rfl)); intro gb164 hg w14 hbox hb; have n0_ := Aside0.mk (below_step XShort.bel hb); have n1_ := Aside0.mk (hbox); have n2_ := Aside0.mk ((by rw [hg]; exact (below_size XShort.bel) : w.heap.size ≤ gb164)); have n3_ := Aside0.mk ((by rw [hg]; exact (below_size XShort.bel) : w.heap.size ≤ gb164)); clear HB; have HB := n0_; have BK164 := n1_; have GW164 := n2_; have GE164 := n3_; clear n0_ n1_ n2_ n3_; clear hb hbox hg; have hcz15_0 : w14.cell? ⟨gb164, 0, none⟩ = some (.int .i32 a0_0) := (blk_cell BK164.out 0).trans rfl; have hcz15_1 : w14.cell? ⟨gb164, 1, none⟩ = some (.int .i32 a0_1) := (blk_cell BK164.out 1).trans rfl; have hcz15_2 : w14.cell? ⟨gb164, 2, none⟩ = some (.int .i32 a0_2) := (blk_cell BK164.out 2).trans rfl; have hcz15_3 : w14.cell? ⟨gb164, 3, none⟩ = some (.int .i32 a0_3) := (blk_cell BK164.out 3).trans rfl; have hcz15_4 : w14.cell? ⟨gb164, 4, none⟩ = some (.int .i32 a0_4) := (blk_cell BK164.out 4).trans rfl; have hfz15_0 := blk_frozen BK164.out 0; have hfz15_1 := blk_frozen BK164.out 1; have hfz15_2 := blk_frozen BK164.out 2; have hfz15_3 := blk_frozen BK164.out 3; have hfz15_4 := blk_frozen BK164.out 4))
   go_ret
   exact ⟨by first | rfl | (simp [errW_none, errW_some] <;> rfl) | (simp [*, errW_none, errW_some] <;> rfl), by repeat (first | (with_reducible first | exact HB.out | apply below_alloc | apply pw_below_drewN | apply below_drew1 | refine below_set ?_ GE164.out) | exact HB.out)⟩
 ·rw [if_neg c3] at H
  have c3b0 : decide (a0_0 ≤ a1) = false := decide_eq_false c3
  clear c3
  obtain rfl := Option.some.inj H
  go_enter Tryd.func40, Tryd.ntmps40
  go_wp2_with (first | ((with_reducible refine gate_dst (N := 2) rfl ?_); refine box_event ?hg (N := 2) ?hd (cs := #[.int .i32 a0_0, .int .i32 a0_1, .int .i32 a0_2, .int .i32 a0_3, .int .i32 a0_4]) (t := 65) ?hr ?_; (case hd => rfl); (case hg => rfl); (case hr => first | (go_simp; done) | (go_simp; rfl)); intro gb164 hg w16 hbox hb; have n0_ := Aside0.mk (below_step XShort.bel hb); have n1_ := Aside0.mk (hbox); have n2_ := Aside0.mk ((by rw [hg]; exact (below_size XShort.bel) : w.heap.size ≤ gb164)); have n3_ := Aside0.mk ((by rw [hg]; exact (below_size XShort.bel) : w.heap.size ≤ gb164)); clear HB; have HB := n0_; have BK164 := n1_; have GW164 := n2_; have GE164 := n3_; clear n0_ n1_ n2_ n3_; clear hb hbox hg; have hcz17_0 : w16.cell? ⟨gb164, 0, none⟩ = some (.int .i32 a0_0) := (blk_cell BK164.out 0).trans rfl; have hcz17_1 : w16.cell? ⟨gb164, 1, none⟩ = some (.int .i32 a0_1) := (blk_cell BK164.out 1).trans rfl; have hcz17_2 : w16.cell? ⟨gb164, 2, none⟩ = some (.int .i32 a0_2) := (blk_cell BK164.out 2).trans rfl; have hcz17_3 : w16.cell? ⟨gb164, 3, none⟩ = some (.int .i32 a0_3) := (blk_cell BK164.out 3).trans rfl; have hcz17_4 : w16.cell? ⟨gb164, 4, none⟩ = some (.int .i32 a0_4) := (blk_cell BK164.out 4).trans rfl; have hfz17_0 := blk_frozen BK164.out 0; have hfz17_1 := blk_frozen BK164.out 1; have hfz17_2 := blk_frozen BK164.out 2; have hfz17_3 := blk_frozen BK164.out 3; have hfz17_4 := blk_frozen BK164.out 4))
  go_ret
  exact ⟨by first | rfl | (simp [errW_none, errW_some] <;> rfl) | (simp [*, errW_none, errW_some] <;> rfl), by repeat (first | (with_reducible first | exact HB.out | apply below_alloc | apply pw_below_drewN | apply below_drew1 | refine below_set ?_ GE164.out) | exact HB.out)⟩

/-! ### thistleref03_Named: function 18 -/
mutual
def thistleref03_Named.l0 : Nat → List Int → List (S65) → Int → Option (List Int)
 | 0, _, _, _ => none
 | k + 1, x1, x2, x3 => if x3 < (x2.length : Int) then (if 0 ≤ x3 then (thistleref03_Named.l1 k x1 x2 x3 ((rd_T65 x2 x3).f0) ((rd_T65 x2 x3).f0) ((rd_T65 x2 x3).f1) ((rd_T65 x2 x3).f2) ((rd_T65 x2 x3).f3) ((rd_T65 x2 x3).f4)) else (none)) else (some x1)
def thistleref03_Named.l1 : Nat → List Int → List (S65) → Int → Int → Int → Int → Int → Int → Int → Option (List Int)
 | 0, _, _, _, _, _, _, _, _, _ => none
 | k + 1, x1, x2, x3, x5, x170000, x170001, x170002, x170003, x170004 => if x5 ≤ x170001 then ((thistleref03_names.f x170000 x170001 x170002 x170003 x170004 x5).bind fun t170 => (if t170 = true then (if x1.length < 35184372088832 then ((some (x1 ++ [x5] : List Int)).bind fun y171 => (if y171.length < 35184372088832 then (thistleref03_Named.l1 k (y171 ++ [wrap32 (x5 + x170003)]) x2 x3 (wrap32 (x5 + x170002)) x170000 x170001 x170002 x170003 x170004) else (none))) else (none)) else (thistleref03_Named.l1 k x1 x2 x3 (wrap32 (x5 + x170002)) x170000 x170001 x170002 x170003 x170004))) else (thistleref03_Named.l0 k x1 x2 (wrap64 (x3 + 1)))
end
def thistleref03_Named.f (k : Nat)  : Option (List Int) := (thistleref03_Rules.f).bind fun t165 => (thistleref03_Named.l0 k ([] : List Int) t165 0)
theorem thistleref03_Named.mono_l : ∀ k, (∀ y0 y1 y2, LeO (thistleref03_Named.l0 k y0 y1 y2) (thistleref03_Named.l0 (k + 1) y0 y1 y2)) ∧ (∀ y0 y1 y2 y3 y4 y5 y6 y7 y8, LeO (thistleref03_Named.l1 k y0 y1 y2 y3 y4 y5 y6 y7 y8) (thistleref03_Named.l1 (k + 1) y0 y1 y2 y3 y4 y5 y6 y7 y8))
 | 0 => ⟨fun _ _ _ r h => by simp [thistleref03_Named.l0] at h, fun _ _ _ _ _ _ _ _ _ r h => by simp [thistleref03_Named.l1] at h⟩
 | k + 1 => by
  obtain ⟨ih0, ih1⟩ := thistleref03_Named.mono_l k
  refine ⟨?_, ?_⟩
  ·intro y0 y1 y2
   unfold thistleref03_Named.l0
   repeat' first
   | (with_reducible exact ih0 _ _ _)
   | (with_reducible exact ih1 _ _ _ _ _ _ _ _ _)
   | (with_reducible exact LeO.refl _)
   | (with_reducible exact LeO.none _)
   | (with_reducible refine LeO.ite ?_ ?_)
   | (with_reducible refine LeO.bind ?_ (fun _ => ?_))
   | exact ih0 _ _ _
   | exact ih1 _ _ _ _ _ _ _ _ _
   | exact LeO.none _
   | refine LeO.ite ?_ ?_
   | refine LeO.bind ?_ (fun _ => ?_)
  ·intro y0 y1 y2 y3 y4 y5 y6 y7 y8
   unfold thistleref03_Named.l1
   repeat' first
   | (with_reducible exact ih0 _ _ _)
   | (with_reducible exact ih1 _ _ _ _ _ _ _ _ _)
   | (with_reducible exact LeO.refl _)
   | (with_reducible exact LeO.none _)
   | (with_reducible refine LeO.ite ?_ ?_)
   | (with_reducible refine LeO.bind ?_ (fun _ => ?_))
   | exact ih0 _ _ _
   | exact ih1 _ _ _ _ _ _ _ _ _
   | exact LeO.none _
   | refine LeO.ite ?_ ?_
   | refine LeO.bind ?_ (fun _ => ?_)
theorem thistleref03_Named.mono : ∀ k, LeO (thistleref03_Named.f k ) (thistleref03_Named.f (k + 1) ) := by
 intro  k
 obtain ⟨ih0, ih1⟩ := thistleref03_Named.mono_l k
 unfold thistleref03_Named.f
 repeat' first
   | (with_reducible exact ih0 _ _ _)
   | (with_reducible exact ih1 _ _ _ _ _ _ _ _ _)
   | (with_reducible exact LeO.refl _)
   | (with_reducible exact LeO.none _)
   | (with_reducible refine LeO.ite ?_ ?_)
   | (with_reducible refine LeO.bind ?_ (fun _ => ?_))
   | exact ih0 _ _ _
   | exact ih1 _ _ _ _ _ _ _ _ _
   | exact LeO.none _
   | refine LeO.ite ?_ ?_
   | refine LeO.bind ?_ (fun _ => ?_)
set_option maxHeartbeats 8000000 in
set_option maxRecDepth 100000 in
theorem thistleref03_Named.calls (k : Nat)  (r : List Int) (w : World) (h : thistleref03_Named.f k  = some r) :
  Calls Tryd.prog 18 #[] w fun e w' => ∃ v0_ : Value, e = .returned (v0_) ∧ Kd.R (Kd.int .i32) 21 w' w.heap.size (fun _ => True) v0_ r ∧ Below w.heap.size w w' := by
 have hu65 := Tryd.underlying65
 have HB := Aside0.mk (Below.refl w.heap.size w)
 have H : ((thistleref03_Rules.f).bind fun t165 => (thistleref03_Named.l0 k ([] : List Int) t165 0)) = some r := h
 clear h
 replace H := Option.bind_eq_some_iff.mp H
 obtain ⟨t165, A10, H⟩ := H
 replace H : (thistleref03_Named.l0 k ([] : List Int) t165 0) = some r := H
 have A1 := Aside0.mk A10
 clear A10
 have H' := Aside0.mk H
 clear H
 go_enter Tryd.func18, Tryd.ntmps18
 go_wp2_with (first | ((with_reducible refine gate_callee (f := 39) rfl ?_); refine goesL_ (some 6) rfl rfl Tryd.func39 (by kernel_rfl) rfl #[] rfl (by (try simp only [List.map_toArray, List.map_cons, List.map_nil]); first | done | rfl | (simp only [List.length_drop, List.length_take]; rfl)) ?_; (with_reducible refine (thistleref03_Rules.calls  t165 _ A1.out).mono ?_); rintro e w2 ⟨v166, rfl, ho0, hb⟩; refine ⟨_, rfl, ?_⟩; have n0_ := Aside0.mk (Kd.R_lower ho0 (below_size XShort.bel)); have n1_ := Aside0.mk (below_step XShort.bel hb); clear HB; have HO167 := n0_; have HB := n1_; clear n0_ n1_; (try clear hb); (try clear hb2); (try clear hk); (try clear hi); (try clear ho0)))
 go_loopg [1, 3] k (fun kq v1 v3 w' => ∃ (x1_1 : List Int) (x3_1 : Int), v3 = .int .i64 x3_1 ∧ Aside0 (thistleref03_Named.l0 kq x1_1 t165 x3_1 = some r) ∧ Aside0 (kq ≤ k) ∧ Aside0 (Kd.R (Kd.int .i32) 21 w' w.heap.size (fun _ => True) v1 x1_1) ∧ Aside0 (Kd.R k65 65 w' w.heap.size (fun _ => True) v166 t165) ∧ Aside0 (Below w.heap.size w w'))
 case atStart => exact ⟨(([] : List Int)), (0), XShort.eqs, H', ⟨Nat.le_refl _⟩, ⟨by first | exact Kd.R_nil _ _ _ _ _ | exact Kd.N_nil _ _ _ _ _ | exact Kd.V_nil _ _ _ _ _ | exact Kd.Q_nil _ _ _ _ _ | exact Kd.S_nil _ _ _ _ _⟩, ⟨by (with_reducible repeat (first | apply Kd.R_alloc | apply Kd.R_drewN | apply Kd.R_drew)); exact HO167.out⟩, ⟨XShort.bel⟩⟩
 case round =>
  clear H'
  try clear c1
  try clear p2
  obtain ⟨x1_1, x3_1, rfl, HA, HK1, HO_1, HO_2, HB⟩ := hrel
  cases gk with
  | zero => exact absurd HA.out (by simp [thistleref03_Named.l0])
  | succ k1 =>
   have H := HA.out
   clear HA
   simp only [thistleref03_Named.l0] at H
   by_cases c3 : x3_1 < (t165.length : Int)
   ·rw [if_pos c3] at H
    have c3b0 : decide (x3_1 < (t165.length : Int)) = true := decide_eq_true c3
    clear c3
    by_cases c4 : 0 ≤ x3_1
    ·rw [if_pos c4] at H
     have c4b0 : decide (0 ≤ x3_1) = true := decide_eq_true c4
     clear c4
     have H' := Aside0.mk H
     clear H
     obtain ⟨Ao5, co5, eo5⟩ := Kd.R_slice HO_2.out
     subst eo5
     have p168 : 0 ≤ (x3_1 : Int) := of_decide_eq_true XShort.asm
     have q168 : x3_1 < (t165.length : Int) := of_decide_eq_true XShort.asm
     obtain ⟨ad168, e168, hx168_0, hx168_1, hx168_2, hx168_3, hx168_4⟩ := at_T65 (Kd.R_reads' HO_2.out).2.2 x3_1 p168 q168
     cases e168
     replace p168 := eq_true p168
     replace q168 := eq_true q168
     go_wp2_with (first | ((with_reducible refine gate_dst (N := 4) rfl ?_); refine box_event ?hg (N := 4) ?hd (cs := #[.int .i32 0, .int .i32 0, .int .i32 0, .int .i32 0, .int .i32 0]) (t := 65) ?hr ?_; (case hd => rfl); (case hg => rfl); (case hr => first | (go_simp; done) | (go_simp; rfl)); intro gb169 hg w6 hbox hb; have n0_ := Aside0.mk (Kd.R_below (XShort.rr HO_1.out) hb); have n1_ := Aside0.mk (Kd.R_below (Kd.R_elderB (XShort.rr HO_2.out) gb169 (Nat.le_of_eq hg.symm)) hb); have n2_ := Aside0.mk (below_step XShort.bel hb); have n3_ := Aside0.mk (hbox); have n4_ := Aside0.mk ((by rw [hg]; exact (below_size XShort.bel) : w.heap.size ≤ gb169)); have n5_ := Aside0.mk ((by rw [hg]; exact (below_size XShort.bel) : w.heap.size ≤ gb169)); clear HO_1; clear HO_2; clear HB; have HO_1 := n0_; have HO_2 := n1_; have HB := n2_; have BK169 := n3_; have GW169 := n4_; have GE169 := n5_; clear n0_ n1_ n2_ n3_ n4_ n5_; clear hb hbox hg; have hcz7_0 : w6.cell? ⟨gb169, 0, none⟩ = some (.int .i32 0) := (blk_cell BK169.out 0).trans rfl; have hcz7_1 : w6.cell? ⟨gb169, 1, none⟩ = some (.int .i32 0) := (blk_cell BK169.out 1).trans rfl; have hcz7_2 : w6.cell? ⟨gb169, 2, none⟩ = some (.int .i32 0) := (blk_cell BK169.out 2).trans rfl; have hcz7_3 : w6.cell? ⟨gb169, 3, none⟩ = some (.int .i32 0) := (blk_cell BK169.out 3).trans rfl; have hcz7_4 : w6.cell? ⟨gb169, 4, none⟩ = some (.int .i32 0) := (blk_cell BK169.out 4).trans rfl; have hfz7_0 := blk_frozen BK169.out 0; have hfz7_1 := blk_frozen BK169.out 1; have hfz7_2 := blk_frozen BK169.out 2; have hfz7_3 := blk_frozen BK169.out 3; have hfz7_4 := blk_frozen BK169.out 4))
     go_loopg [1, 5] k1 (fun kq v1 v5 w' => ∃ (x1_2 : List Int) (x5_2 : Int), v5 = .int .i32 x5_2 ∧ Aside0 (thistleref03_Named.l1 kq x1_2 t165 x3_1 x5_2 ((rd_T65 t165 x3_1).f0) ((rd_T65 t165 x3_1).f1) ((rd_T65 t165 x3_1).f2) ((rd_T65 t165 x3_1).f3) ((rd_T65 t165 x3_1).f4) = some r) ∧ Aside0 (kq ≤ k1) ∧ Aside0 (Kd.R (Kd.int .i32) 21 w' w.heap.size (fun _ => True) v1 x1_2) ∧ Aside0 (Kd.R k65 65 w' w.heap.size (fun k_ => k_ ≠ gb169) (.slice (some ad168) t165.length co5) t165) ∧ Aside0 (w'.heap[gb169]? = some (.cells #[.int .i32 ((rd_T65 t165 x3_1).f0), .int .i32 ((rd_T65 t165 x3_1).f1), .int .i32 ((rd_T65 t165 x3_1).f2), .int .i32 ((rd_T65 t165 x3_1).f3), .int .i32 ((rd_T65 t165 x3_1).f4)] 65 (0, 0))) ∧ Aside0 (Below w.heap.size w w'))
     case atStart => exact ⟨(x1_1), ((rd_T65 t165 x3_1).f0), XShort.eqs, H', ⟨Nat.le_refl _⟩, ⟨by (with_reducible repeat (first | apply Kd.R_alloc | apply Kd.R_drewN | apply Kd.R_drew)); exact Kd.R_mono (Kd.R_far (p := ⟨gb169, 4, none⟩) (Kd.R_far (p := ⟨gb169, 3, none⟩) (Kd.R_far (p := ⟨gb169, 2, none⟩) (Kd.R_far (p := ⟨gb169, 1, none⟩) (Kd.R_far (p := ⟨gb169, 0, none⟩) (Kd.R_types HO_1.out BK169.out (by decide)) (fun _ hk => hk.2) (.int .i32 ((rd_T65 t165 x3_1).f0))) (fun _ hk => hk.2) (.int .i32 ((rd_T65 t165 x3_1).f1))) (fun _ hk => hk.2) (.int .i32 ((rd_T65 t165 x3_1).f2))) (fun _ hk => hk.2) (.int .i32 ((rd_T65 t165 x3_1).f3))) (fun _ hk => hk.2) (.int .i32 ((rd_T65 t165 x3_1).f4))) (fun _ hk => trivial)⟩, ⟨by (with_reducible repeat (first | apply Kd.R_alloc | apply Kd.R_drewN | apply Kd.R_drew)); exact Kd.R_mono (Kd.R_far (p := ⟨gb169, 4, none⟩) (Kd.R_far (p := ⟨gb169, 3, none⟩) (Kd.R_far (p := ⟨gb169, 2, none⟩) (Kd.R_far (p := ⟨gb169, 1, none⟩) (Kd.R_far (p := ⟨gb169, 0, none⟩) (Kd.R_mono HO_2.out (fun k_ hk => (⟨hk, hk.2⟩ : _ ∧ k_ ≠ gb169))) (fun _ hk => hk.2) (.int .i32 ((rd_T65 t165 x3_1).f0))) (fun _ hk => hk.2) (.int .i32 ((rd_T65 t165 x3_1).f1))) (fun _ hk => hk.2) (.int .i32 ((rd_T65 t165 x3_1).f2))) (fun _ hk => hk.2) (.int .i32 ((rd_T65 t165 x3_1).f3))) (fun _ hk => hk.2) (.int .i32 ((rd_T65 t165 x3_1).f4))) (fun _ hk => hk.1.2)⟩, ⟨by (with_reducible repeat (first | refine blk_drewN ?_ _ | refine blk_drew ?_ | refine blk_alloc ?_ _)); refine blk_put (cs := #[.int .i32 ((rd_T65 t165 x3_1).f0), .int .i32 ((rd_T65 t165 x3_1).f1), .int .i32 ((rd_T65 t165 x3_1).f2), .int .i32 ((rd_T65 t165 x3_1).f3), .int .i32 0]) ?_ 4 _ rfl; (with_reducible repeat (first | refine blk_drewN ?_ _ | refine blk_drew ?_ | refine blk_alloc ?_ _)); refine blk_put (cs := #[.int .i32 ((rd_T65 t165 x3_1).f0), .int .i32 ((rd_T65 t165 x3_1).f1), .int .i32 ((rd_T65 t165 x3_1).f2), .int .i32 0, .int .i32 0]) ?_ 3 _ rfl; (with_reducible repeat (first | refine blk_drewN ?_ _ | refine blk_drew ?_ | refine blk_alloc ?_ _)); refine blk_put (cs := #[.int .i32 ((rd_T65 t165 x3_1).f0), .int .i32 ((rd_T65 t165 x3_1).f1), .int .i32 0, .int .i32 0, .int .i32 0]) ?_ 2 _ rfl; (with_reducible repeat (first | refine blk_drewN ?_ _ | refine blk_drew ?_ | refine blk_alloc ?_ _)); refine blk_put (cs := #[.int .i32 ((rd_T65 t165 x3_1).f0), .int .i32 0, .int .i32 0, .int .i32 0, .int .i32 0]) ?_ 1 _ rfl; (with_reducible repeat (first | refine blk_drewN ?_ _ | refine blk_drew ?_ | refine blk_alloc ?_ _)); refine blk_put (cs := #[.int .i32 0, .int .i32 0, .int .i32 0, .int .i32 0, .int .i32 0]) ?_ 0 _ rfl; (with_reducible repeat (first | refine blk_drewN ?_ _ | refine blk_drew ?_ | refine blk_alloc ?_ _)); exact BK169.out⟩, ⟨by repeat (first | (with_reducible first | exact HB.out | apply below_alloc | apply pw_below_drewN | apply below_drew1 | refine below_set ?_ GE169.out) | exact HB.out)⟩⟩
     case round =>
      clear H'
      try clear c1
      try clear p1
      try clear q1
      try clear hx1
      try clear p2
      try clear c3
      try clear c3b0
      try clear c4
      try clear c4b0
      try clear hcz7_0
      try clear hcz7_1
      try clear hcz7_2
      try clear hcz7_3
      try clear hcz7_4
      try clear hfz7_0
      try clear hfz7_1
      try clear hfz7_2
      try clear hfz7_3
      try clear hfz7_4
      try clear hx168_0
      try clear hx168_1
      try clear hx168_2
      try clear hx168_3
      try clear hx168_4
      try clear p168
      try clear p2
      try clear q168
      obtain ⟨x1_2, x5_2, rfl, HA, HK2, HO_1, HO_2, BK169, HB⟩ := hrel
      cases gk with
      | zero => exact absurd HA.out (by simp [thistleref03_Named.l1])
      | succ k2 =>
       have H := HA.out
       clear HA
       simp only [thistleref03_Named.l1] at H
       by_cases c8 : x5_2 ≤ ((rd_T65 t165 x3_1).f1)
       ·rw [if_pos c8] at H
        have c8b0 : decide (x5_2 ≤ ((rd_T65 t165 x3_1).f1)) = true := decide_eq_true c8
        clear c8
        replace H := Option.bind_eq_some_iff.mp H
        obtain ⟨t170, A90, H⟩ := H
        replace H : (if t170 = true then (if x1_2.length < 35184372088832 then ((some (x1_2 ++ [x5_2] : List Int)).bind fun y171 => (if y171.length < 35184372088832 then (thistleref03_Named.l1 k2 (y171 ++ [wrap32 (x5_2 + ((rd_T65 t165 x3_1).f3))]) t165 x3_1 (wrap32 (x5_2 + ((rd_T65 t165 x3_1).f2))) ((rd_T65 t165 x3_1).f0) ((rd_T65 t165 x3_1).f1) ((rd_T65 t165 x3_1).f2) ((rd_T65 t165 x3_1).f3) ((rd_T65 t165 x3_1).f4)) else (none))) else (none)) else (thistleref03_Named.l1 k2 x1_2 t165 x3_1 (wrap32 (x5_2 + ((rd_T65 t165 x3_1).f2))) ((rd_T65 t165 x3_1).f0) ((rd_T65 t165 x3_1).f1) ((rd_T65 t165 x3_1).f2) ((rd_T65 t165 x3_1).f3) ((rd_T65 t165 x3_1).f4))) = some r := H
        have A9 := Aside0.mk A90
        clear A90
        by_cases c10 : t170 = true
        ·subst c10
         have H1 : (if x1_2.length < 35184372088832 then ((some (x1_2 ++ [x5_2] : List Int)).bind fun y171 => (if y171.length < 35184372088832 then (thistleref03_Named.l1 k2 (y171 ++ [wrap32 (x5_2 + ((rd_T65 t165 x3_1).f3))]) t165 x3_1 (wrap32 (x5_2 + ((rd_T65 t165 x3_1).f2))) ((rd_T65 t165 x3_1).f0) ((rd_T65 t165 x3_1).f1) ((rd_T65 t165 x3_1).f2) ((rd_T65 t165 x3_1).f3) ((rd_T65 t165 x3_1).f4)) else (none))) else (none)) = some r := by rw [if_pos rfl] at H; exact H
         clear H
         have H := H1
         clear H1
         by_cases c11 : x1_2.length < 35184372088832
         ·rw [if_pos c11] at H
          have LMc11 := Aside0.mk c11
          clear c11
          obtain ⟨y171, hy171⟩ : ∃ y_ : List Int, y_ = (x1_2 ++ [x5_2]) := ⟨_, rfl⟩
          replace H : (if y171.length < 35184372088832 then (thistleref03_Named.l1 k2 (y171 ++ [wrap32 (x5_2 + ((rd_T65 t165 x3_1).f3))]) t165 x3_1 (wrap32 (x5_2 + ((rd_T65 t165 x3_1).f2))) ((rd_T65 t165 x3_1).f0) ((rd_T65 t165 x3_1).f1) ((rd_T65 t165 x3_1).f2) ((rd_T65 t165 x3_1).f3) ((rd_T65 t165 x3_1).f4)) else (none)) = some r := by first | (rw [hy171]; with_reducible exact H) | (have H2_ := (Option.bind_some _ _).symm.trans H; rw [hy171]; with_reducible exact H2_) | (have H2_ := (Option.bind_some _ _).symm.trans H; with_reducible exact H2_) | with_reducible exact H | (rw [hy171]; exact H) | exact H
          have Ny171 := Aside0.mk hy171
          clear hy171
          by_cases c12 : y171.length < 35184372088832
          ·rw [if_pos c12] at H
           have LMc12 := Aside0.mk c12
           clear c12
           obtain ⟨y174, hy174⟩ : ∃ y_ : List Int, y_ = (y171 ++ [wrap32 (x5_2 + ((rd_T65 t165 x3_1).f3))]) := ⟨_, rfl⟩
           replace H : (thistleref03_Named.l1 k2 y174 t165 x3_1 (wrap32 (x5_2 + ((rd_T65 t165 x3_1).f2))) ((rd_T65 t165 x3_1).f0) ((rd_T65 t165 x3_1).f1) ((rd_T65 t165 x3_1).f2) ((rd_T65 t165 x3_1).f3) ((rd_T65 t165 x3_1).f4)) = some r := by first | (rw [hy174]; with_reducible exact H) | (have H2_ := (Option.bind_some _ _).symm.trans H; rw [hy174]; with_reducible exact H2_) | (have H2_ := (Option.bind_some _ _).symm.trans H; with_reducible exact H2_) | with_reducible exact H | (rw [hy174]; exact H) | exact H
           have Ny174 := Aside0.mk hy174
           clear hy174
           have H' := Aside0.mk H
           clear H
           have hcz13_0 : wr.cell? ⟨gb169, 0, none⟩ = some (.int .i32 ((rd_T65 t165 x3_1).f0)) := (blk_cell BK169.out 0).trans rfl
           have hcz13_1 : wr.cell? ⟨gb169, 1, none⟩ = some (.int .i32 ((rd_T65 t165 x3_1).f1)) := (blk_cell BK169.out 1).trans rfl
           have hcz13_2 : wr.cell? ⟨gb169, 2, none⟩ = some (.int .i32 ((rd_T65 t165 x3_1).f2)) := (blk_cell BK169.out 2).trans rfl
           have hcz13_3 : wr.cell? ⟨gb169, 3, none⟩ = some (.int .i32 ((rd_T65 t165 x3_1).f3)) := (blk_cell BK169.out 3).trans rfl
           have hcz13_4 : wr.cell? ⟨gb169, 4, none⟩ = some (.int .i32 ((rd_T65 t165 x3_1).f4)) := (blk_cell BK169.out 4).trans rfl
           have hfz13_0 := blk_frozen BK169.out 0
           have hfz13_1 := blk_frozen BK169.out 1
           have hfz13_2 := blk_frozen BK169.out 2
           have hfz13_3 := blk_frozen BK169.out 3
           have hfz13_4 := blk_frozen BK169.out 4
           go_wp2_with (first | ((with_reducible refine gate_callee (f := 40) rfl ?_); refine goesL_ (some 29) rfl rfl Tryd.func40 (by kernel_rfl) rfl #[.agg #[.int .i32 ((rd_T65 t165 x3_1).f0), .int .i32 ((rd_T65 t165 x3_1).f1), .int .i32 ((rd_T65 t165 x3_1).f2), .int .i32 ((rd_T65 t165 x3_1).f3), .int .i32 ((rd_T65 t165 x3_1).f4)], .int .i32 x5_2] rfl (by (try simp only [List.map_toArray, List.map_cons, List.map_nil]); first | done | rfl | (simp only [List.length_drop, List.length_take]; rfl)) ?_; (with_reducible refine (thistleref03_names.calls ((rd_T65 t165 x3_1).f0) ((rd_T65 t165 x3_1).f1) ((rd_T65 t165 x3_1).f2) ((rd_T65 t165 x3_1).f3) ((rd_T65 t165 x3_1).f4) x5_2 true _ A9.out).mono ?_); rintro e w14 ⟨rfl, hb⟩; refine ⟨_, rfl, ?_⟩; have n0_ := Aside0.mk (Kd.R_below (XShort.rr HO_1.out) hb); have n1_ := Aside0.mk (Kd.R_below (XShort.rr HO_2.out) hb); have n2_ := Aside0.mk (blk_below (g := gb169) (o := .cells #[.int .i32 ((rd_T65 t165 x3_1).f0), .int .i32 ((rd_T65 t165 x3_1).f1), .int .i32 ((rd_T65 t165 x3_1).f2), .int .i32 ((rd_T65 t165 x3_1).f3), .int .i32 ((rd_T65 t165 x3_1).f4)] 65 (0, 0)) (by (with_reducible repeat (first | refine blk_drewN ?_ _ | refine blk_drew ?_ | refine blk_alloc ?_ _)); exact BK169.out) hb); have n3_ := Aside0.mk (below_step (by repeat (first | (with_reducible first | exact HB.out | apply below_alloc | apply pw_below_drewN | apply below_drew1 | refine below_set ?_ GE169.out) | exact HB.out)) hb); clear HO_1; clear HO_2; clear BK169; clear HB; have HO_1 := n0_; have HO_2 := n1_; have BK169 := n2_; have HB := n3_; clear n0_ n1_ n2_ n3_; (try clear hb); (try clear hb2); (try clear hk); (try clear hi)) | ((with_reducible refine gate_builtin (b := .append) (xs := #[.tmp 30, .tmp 32]) rfl ?_); at_builtin; refine Kd.R_append (Kd.int .i32) (w0 := w) w.heap.size rfl (.tmp 30) (.tmp 32) 32 21 (.int .i32 0) 4 rfl Tryd.underlying32 info21 rfl (by decide) (by omega) u1 x1_2 x5_2 [.int .i32 x5_2] (fun _ => True) (fun _ => False) rfl rfl ?aP (fun _ hk => hk.elim) ?aF ?aO ?aB ?aS ?aL ?_; (case aP => exact rfl); (case aB => exact (by repeat (first | (with_reducible first | exact HB.out | apply below_alloc | apply pw_below_drewN | apply below_drew1 | refine below_set ?_ GE169.out) | exact HB.out))); (case aF => exact (fun _ _ => trivial)); (case aO => exact (XShort.rr HO_1.out)); (case aS => exact (below_size (by repeat (first | (with_reducible first | exact HB.out | apply below_alloc | apply pw_below_drewN | apply below_drew1 | refine below_set ?_ GE169.out) | exact HB.out)))); (case aL => have := LMc11.out; omega); intro v172 w15 ho hb hg hat; rw [← Ny171.out] at ho; have n0_ := Aside0.mk (Kd.R_over' (XShort.rr HO_2.out) (Kd.R_typed (XShort.rr HO_1.out)) (by decide) hg); have n1_ := Aside0.mk (blk_grown (g := gb169) (o := .cells #[.int .i32 ((rd_T65 t165 x3_1).f0), .int .i32 ((rd_T65 t165 x3_1).f1), .int .i32 ((rd_T65 t165 x3_1).f2), .int .i32 ((rd_T65 t165 x3_1).f3), .int .i32 ((rd_T65 t165 x3_1).f4)] 65 (0, 0)) (by (with_reducible repeat (first | refine blk_drewN ?_ _ | refine blk_drew ?_ | refine blk_alloc ?_ _)); exact BK169.out) hg (Kd.R_ne HO_1.out BK169.out (by decide))); have n2_ := Aside0.mk (hb); have n3_ := Aside0.mk (ho); clear HO_2; clear BK169; clear HB; clear HO_1; have HO_2 := n0_; have BK169 := n1_; have HB := n2_; have HO173 := n3_; clear n0_ n1_ n2_ n3_; clear ho hb hg hat; have hcz16_0 : w15.cell? ⟨gb169, 0, none⟩ = some (.int .i32 ((rd_T65 t165 x3_1).f0)) := (blk_cell BK169.out 0).trans rfl; have hcz16_1 : w15.cell? ⟨gb169, 1, none⟩ = some (.int .i32 ((rd_T65 t165 x3_1).f1)) := (blk_cell BK169.out 1).trans rfl; have hcz16_2 : w15.cell? ⟨gb169, 2, none⟩ = some (.int .i32 ((rd_T65 t165 x3_1).f2)) := (blk_cell BK169.out 2).trans rfl; have hcz16_3 : w15.cell? ⟨gb169, 3, none⟩ = some (.int .i32 ((rd_T65 t165 x3_1).f3)) := (blk_cell BK169.out 3).trans rfl; have hcz16_4 : w15.cell? ⟨gb169, 4, none⟩ = some (.int .i32 ((rd_T65 t165 x3_1).f4)) := (blk_cell BK169.out 4).trans rfl; have hfz16_0 := blk_frozen BK169.out 0; have hfz16_1 := blk_frozen BK169.out 1; have hfz16_2 := blk_frozen BK169.out 2; have hfz16_3 := blk_frozen BK169.out 3; have hfz16_4 := blk_frozen BK169.out 4) | ((with_reducible refine gate_builtin (b := .append) (xs := #[.tmp 34, .tmp 39]) rfl ?_); at_builtin; refine Kd.R_append (Kd.int .i32) (w0 := w) w.heap.size rfl (.tmp 34) (.tmp 39) 32 21 (.int .i32 0) 4 rfl Tryd.underlying32 info21 rfl (by decide) (by omega) v172 y171 (wrap32 (x5_2 + ((rd_T65 t165 x3_1).f3))) [.int .i32 (wrap32 (x5_2 + ((rd_T65 t165 x3_1).f3)))] (fun _ => True) (fun _ => False) rfl rfl ?aP (fun _ hk => hk.elim) ?aF ?aO ?aB ?aS ?aL ?_; (case aP => exact rfl); (case aB => exact (by repeat (first | (with_reducible first | exact HB.out | apply below_alloc | apply pw_below_drewN | apply below_drew1 | refine below_set ?_ GE169.out) | exact HB.out))); (case aF => exact (fun _ _ => trivial)); (case aO => exact (XShort.rr HO173.out)); (case aS => exact (below_size (by repeat (first | (with_reducible first | exact HB.out | apply below_alloc | apply pw_below_drewN | apply below_drew1 | refine below_set ?_ GE169.out) | exact HB.out)))); (case aL => have := LMc12.out; omega); intro v175 w17 ho hb hg hat; rw [← Ny174.out] at ho; have n0_ := Aside0.mk (Kd.R_over' (XShort.rr HO_2.out) (Kd.R_typed (XShort.rr HO173.out)) (by decide) hg); have n1_ := Aside0.mk (blk_grown (g := gb169) (o := .cells #[.int .i32 ((rd_T65 t165 x3_1).f0), .int .i32 ((rd_T65 t165 x3_1).f1), .int .i32 ((rd_T65 t165 x3_1).f2), .int .i32 ((rd_T65 t165 x3_1).f3), .int .i32 ((rd_T65 t165 x3_1).f4)] 65 (0, 0)) (by (with_reducible repeat (first | refine blk_drewN ?_ _ | refine blk_drew ?_ | refine blk_alloc ?_ _)); exact BK169.out) hg (Kd.R_ne HO173.out BK169.out (by decide))); have n2_ := Aside0.mk (hb); have n3_ := Aside0.mk (ho); clear HO_2; clear BK169; clear HB; clear HO173; have HO_2 := n0_; have BK169 := n1_; have HB := n2_; have HO176 := n3_; clear n0_ n1_ n2_ n3_; clear ho hb hg hat; have hcz18_0 : w17.cell? ⟨gb169, 0, none⟩ = some (.int .i32 ((rd_T65 t165 x3_1).f0)) := (blk_cell BK169.out 0).trans rfl; have hcz18_1 : w17.cell? ⟨gb169, 1, none⟩ = some (.int .i32 ((rd_T65 t165 x3_1).f1)) := (blk_cell BK169.out 1).trans rfl; have hcz18_2 : w17.cell? ⟨gb169, 2, none⟩ = some (.int .i32 ((rd_T65 t165 x3_1).f2)) := (blk_cell BK169.out 2).trans rfl; have hcz18_3 : w17.cell? ⟨gb169, 3, none⟩ = some (.int .i32 ((rd_T65 t165 x3_1).f3)) := (blk_cell BK169.out 3).trans rfl; have hcz18_4 : w17.cell? ⟨gb169, 4, none⟩ = some (.int .i32 ((rd_T65 t165 x3_1).f4)) := (blk_cell BK169.out 4).trans rfl; have hfz18_0 := blk_frozen BK169.out 0; have hfz18_1 := blk_frozen BK169.out 1; have hfz18_2 := blk_frozen BK169.out 2; have hfz18_3 := blk_frozen BK169.out 3; have hfz18_4 := blk_frozen BK169.out 4))
           go_roundg k2
           case measure => have := HK1.out; have := HK2.out; omega
           case rel => exact ⟨(y174), (wrap32 (x5_2 + ((rd_T65 t165 x3_1).f2))), XShort.eqs, H', ⟨by have := HK1.out; have := HK2.out; omega⟩, ⟨by (with_reducible repeat (first | apply Kd.R_alloc | apply Kd.R_drewN | apply Kd.R_drew)); exact HO176.out⟩, ⟨by (with_reducible repeat (first | apply Kd.R_alloc | apply Kd.R_drewN | apply Kd.R_drew)); exact HO_2.out⟩, ⟨by (with_reducible repeat (first | refine blk_drewN ?_ _ | refine blk_drew ?_ | refine blk_alloc ?_ _)); exact BK169.out⟩, ⟨by repeat (first | (with_reducible first | exact HB.out | apply below_alloc | apply pw_below_drewN | apply below_drew1 | refine below_set ?_ GE169.out) | exact HB.out)⟩⟩
          ·rw [if_neg c12] at H
           exact absurd H (by simp)
         ·rw [if_neg c11] at H
          exact absurd H (by simp)
        ·replace c10 := Bool.eq_false_iff.mpr c10
         subst c10
         have H1 : (thistleref03_Named.l1 k2 x1_2 t165 x3_1 (wrap32 (x5_2 + ((rd_T65 t165 x3_1).f2))) ((rd_T65 t165 x3_1).f0) ((rd_T65 t165 x3_1).f1) ((rd_T65 t165 x3_1).f2) ((rd_T65 t165 x3_1).f3) ((rd_T65 t165 x3_1).f4)) = some r := by rw [if_neg (show ¬ (false = true) by decide)] at H; exact H
         clear H
         have H := H1
         clear H1
         have H' := Aside0.mk H
         clear H
         have hcz19_0 : wr.cell? ⟨gb169, 0, none⟩ = some (.int .i32 ((rd_T65 t165 x3_1).f0)) := (blk_cell BK169.out 0).trans rfl
         have hcz19_1 : wr.cell? ⟨gb169, 1, none⟩ = some (.int .i32 ((rd_T65 t165 x3_1).f1)) := (blk_cell BK169.out 1).trans rfl
         have hcz19_2 : wr.cell? ⟨gb169, 2, none⟩ = some (.int .i32 ((rd_T65 t165 x3_1).f2)) := (blk_cell BK169.out 2).trans rfl
         have hcz19_3 : wr.cell? ⟨gb169, 3, none⟩ = some (.int .i32 ((rd_T65 t165 x3_1).f3)) := (blk_cell BK169.out 3).trans rfl
         have hcz19_4 : wr.cell? ⟨gb169, 4, none⟩ = some (.int .i32 ((rd_T65 t165 x3_1).f4)) := (blk_cell BK169.out 4).trans rfl
         have hfz19_0 := blk_frozen BK169.out 0
         have hfz19_1 := blk_frozen BK169.out 1
         have hfz19_2 := blk_frozen BK169.out 2
         have hfz19_3 := blk_frozen BK169.out 3
         have hfz19_4 := blk_frozen BK169.out 4
         go_wp2_with (first | ((with_reducible refine gate_callee (f := 40) rfl ?_); refine goesL_ (some 29) rfl rfl Tryd.func40 (by kernel_rfl) rfl #[.agg #[.int .i32 ((rd_T65 t165 x3_1).f0), .int .i32 ((rd_T65 t165 x3_1).f1), .int .i32 ((rd_T65 t165 x3_1).f2), .int .i32 ((rd_T65 t165 x3_1).f3), .int .i32 ((rd_T65 t165 x3_1).f4)], .int .i32 x5_2] rfl (by (try simp only [List.map_toArray, List.map_cons, List.map_nil]); first | done | rfl | (simp only [List.length_drop, List.length_take]; rfl)) ?_; (with_reducible refine (thistleref03_names.calls ((rd_T65 t165 x3_1).f0) ((rd_T65 t165 x3_1).f1) ((rd_T65 t165 x3_1).f2) ((rd_T65 t165 x3_1).f3) ((rd_T65 t165 x3_1).f4) x5_2 false _ A9.out).mono ?_); rintro e w20 ⟨rfl, hb⟩; refine ⟨_, rfl, ?_⟩; have n0_ := Aside0.mk (Kd.R_below (XShort.rr HO_1.out) hb); have n1_ := Aside0.mk (Kd.R_below (XShort.rr HO_2.out) hb); have n2_ := Aside0.mk (blk_below (g := gb169) (o := .cells #[.int .i32 ((rd_T65 t165 x3_1).f0), .int .i32 ((rd_T65 t165 x3_1).f1), .int .i32 ((rd_T65 t165 x3_1).f2), .int .i32 ((rd_T65 t165 x3_1).f3), .int .i32 ((rd_T65 t165 x3_1).f4)] 65 (0, 0)) (by (with_reducible repeat (first | refine blk_drewN ?_ _ | refine blk_drew ?_ | refine blk_alloc ?_ _)); exact BK169.out) hb); have n3_ := Aside0.mk (below_step (by repeat (first | (with_reducible first | exact HB.out | apply below_alloc | apply pw_below_drewN | apply below_drew1 | refine below_set ?_ GE169.out) | exact HB.out)) hb); clear HO_1; clear HO_2; clear BK169; clear HB; have HO_1 := n0_; have HO_2 := n1_; have BK169 := n2_; have HB := n3_; clear n0_ n1_ n2_ n3_; (try clear hb); (try clear hb2); (try clear hk); (try clear hi); have hcz21_0 : w20.cell? ⟨gb169, 0, none⟩ = some (.int .i32 ((rd_T65 t165 x3_1).f0)) := (blk_cell BK169.out 0).trans rfl; have hcz21_1 : w20.cell? ⟨gb169, 1, none⟩ = some (.int .i32 ((rd_T65 t165 x3_1).f1)) := (blk_cell BK169.out 1).trans rfl; have hcz21_2 : w20.cell? ⟨gb169, 2, none⟩ = some (.int .i32 ((rd_T65 t165 x3_1).f2)) := (blk_cell BK169.out 2).trans rfl; have hcz21_3 : w20.cell? ⟨gb169, 3, none⟩ = some (.int .i32 ((rd_T65 t165 x3_1).f3)) := (blk_cell BK169.out 3).trans rfl; have hcz21_4 : w20.cell? ⟨gb169, 4, none⟩ = some (.int .i32 ((rd_T65 t165 x3_1).f4)) := (blk_cell BK169.out 4).trans rfl; have hfz21_0 := blk_frozen BK169.out 0; have hfz21_1 := blk_frozen BK169.out 1; have hfz21_2 := blk_frozen BK169.out 2; have hfz21_3 := blk_frozen BK169.out 3; have hfz21_4 := blk_frozen BK169.out 4))
         go_roundg k2
         case measure => have := HK1.out; have := HK2.out; omega
         case rel => exact ⟨(x1_2), (wrap32 (x5_2 + ((rd_T65 t165 x3_1).f2))), XShort.eqs, H', ⟨by have := HK1.out; have := HK2.out; omega⟩, ⟨by (with_reducible repeat (first | apply Kd.R_alloc | apply Kd.R_drewN | apply Kd.R_drew)); exact HO_1.out⟩, ⟨by (with_reducible repeat (first | apply Kd.R_alloc | apply Kd.R_drewN | apply Kd.R_drew)); exact HO_2.out⟩, ⟨by (with_reducible repeat (first | refine blk_drewN ?_ _ | refine blk_drew ?_ | refine blk_alloc ?_ _)); exact BK169.out⟩, ⟨by repeat (first | (with_reducible first | exact HB.out | apply below_alloc | apply pw_below_drewN | apply below_drew1 | refine below_set ?_ GE169.out) | exact HB.out)⟩⟩
       ·rw [if_neg c8] at H
        have c8b0 : decide (x5_2 ≤ ((rd_T65 t165 x3_1).f1)) = false := decide_eq_false c8
        clear c8
        have H' := Aside0.mk H
        clear H
        have hcz22_0 : wr.cell? ⟨gb169, 0, none⟩ = some (.int .i32 ((rd_T65 t165 x3_1).f0)) := (blk_cell BK169.out 0).trans rfl
        have hcz22_1 : wr.cell? ⟨gb169, 1, none⟩ = some (.int .i32 ((rd_T65 t165 x3_1).f1)) := (blk_cell BK169.out 1).trans rfl
        have hcz22_2 : wr.cell? ⟨gb169, 2, none⟩ = some (.int .i32 ((rd_T65 t165 x3_1).f2)) := (blk_cell BK169.out 2).trans rfl
        have hcz22_3 : wr.cell? ⟨gb169, 3, none⟩ = some (.int .i32 ((rd_T65 t165 x3_1).f3)) := (blk_cell BK169.out 3).trans rfl
        have hcz22_4 : wr.cell? ⟨gb169, 4, none⟩ = some (.int .i32 ((rd_T65 t165 x3_1).f4)) := (blk_cell BK169.out 4).trans rfl
        have hfz22_0 := blk_frozen BK169.out 0
        have hfz22_1 := blk_frozen BK169.out 1
        have hfz22_2 := blk_frozen BK169.out 2
        have hfz22_3 := blk_frozen BK169.out 3
        have hfz22_4 := blk_frozen BK169.out 4
        go_wp2
        go_roundg k2
        case measure => have := HK1.out; have := HK2.out; omega
        case rel => exact ⟨(x1_2), (wrap64 (x3_1 + 1)), XShort.eqs, H', ⟨by have := HK1.out; have := HK2.out; omega⟩, ⟨by (with_reducible repeat (first | apply Kd.R_alloc | apply Kd.R_drewN | apply Kd.R_drew)); exact HO_1.out⟩, ⟨by (with_reducible repeat (first | apply Kd.R_alloc | apply Kd.R_drewN | apply Kd.R_drew)); exact Kd.R_mono HO_2.out (fun _ hk => trivial)⟩, ⟨by repeat (first | (with_reducible first | exact HB.out | apply below_alloc | apply pw_below_drewN | apply below_drew1 | refine below_set ?_ GE169.out) | exact HB.out)⟩⟩
    ·rw [if_neg c4] at H
     exact absurd H (by simp)
   ·rw [if_neg c3] at H
    have c3b0 : decide (x3_1 < (t165.length : Int)) = false := decide_eq_false c3
    clear c3
    obtain rfl := Option.some.inj H
    obtain ⟨Ao23, co23, eo23⟩ := Kd.R_slice HO_2.out
    subst eo23
    go_wp2
    go_ret
    exact ⟨_, by first | rfl | (simp [errW_none, errW_some] <;> rfl) | (simp [*, errW_none, errW_some] <;> rfl), by (with_reducible repeat (first | apply Kd.R_alloc | apply Kd.R_drewN | apply Kd.R_drew)); exact HO_1.out, XShort.bel⟩

/-! ### thistleref03_lies: function 19 -/
def thistleref03_lies.l0 : Nat → List (S41) → Int → Int → Option (Bool)
 | 0, _, _, _ => none
 | k + 1, x0, x1, x5 => if x5 < (x0.length : Int) then (if 0 ≤ x5 then (if x1 ≥ ((rd_T41 x0 x5).f0) then (if x1 ≤ ((rd_T41 x0 x5).f1) then (some true) else (thistleref03_lies.l0 k x0 x1 (wrap64 (x5 + 1)))) else (thistleref03_lies.l0 k x0 x1 (wrap64 (x5 + 1)))) else (none)) else (some false)
def thistleref03_lies.f (k : Nat) (l0 : List (S41)) (a1 : Int) : Option (Bool) := thistleref03_lies.l0 k l0 a1 0
theorem thistleref03_lies.mono_l : ∀ k, (∀ y0 y1 y2, LeO (thistleref03_lies.l0 k y0 y1 y2) (thistleref03_lies.l0 (k + 1) y0 y1 y2))
 | 0 => fun _ _ _ r h => by simp [thistleref03_lies.l0] at h
 | k + 1 => by
  have ih0 := thistleref03_lies.mono_l k
  ·intro y0 y1 y2
   unfold thistleref03_lies.l0
   repeat' first
   | (with_reducible exact ih0 _ _ _)
   | (with_reducible exact LeO.refl _)
   | (with_reducible exact LeO.none _)
   | (with_reducible refine LeO.ite ?_ ?_)
   | (with_reducible refine LeO.bind ?_ (fun _ => ?_))
   | exact ih0 _ _ _
   | exact LeO.none _
   | refine LeO.ite ?_ ?_
   | refine LeO.bind ?_ (fun _ => ?_)
theorem thistleref03_lies.mono : ∀ a0 a1 k, LeO (thistleref03_lies.f k a0 a1) (thistleref03_lies.f (k + 1) a0 a1) := by
 intro a0 a1 k
 have ih0 := thistleref03_lies.mono_l k
 unfold thistleref03_lies.f
 repeat' first
   | (with_reducible exact ih0 _ _ _)
   | (with_reducible exact LeO.refl _)
   | (with_reducible exact LeO.none _)
   | (with_reducible refine LeO.ite ?_ ?_)
   | (with_reducible refine LeO.bind ?_ (fun _ => ?_))
   | exact ih0 _ _ _
   | exact LeO.none _
   | refine LeO.ite ?_ ?_
   | refine LeO.bind ?_ (fun _ => ?_)
set_option maxHeartbeats 8000000 in
set_option maxRecDepth 100000 in
theorem thistleref03_lies.calls (k : Nat) (A0 : Option Addr) (c0 : Nat) (l0 : List (S41)) (a1 : Int) (r : Bool) (w : World) (hr0 : Kd.C k41 w A0 l0.length l0) (hc0 : l0.length ≤ c0) (h : thistleref03_lies.f k l0 a1 = some r) :
  Calls Tryd.prog 19 #[.slice A0 l0.length c0, .int .i32 a1] w fun e w' => e = .returned (.bool r) ∧ Drawn0 w w' := by
 have HR0 := Aside0.mk hr0
 have HC0 := Aside0.mk hc0
 clear hr0 hc0
 have H : (thistleref03_lies.l0 k l0 a1 0) = some r := h
 clear h
 have H' := Aside0.mk H
 clear H
 go_enter Tryd.func19, Tryd.ntmps19
 go_wp2
 go_loopg [5] k (fun kq v5 w' => ∃ (x5_1 : Int), v5 = .int .i64 x5_1 ∧ Aside0 (thistleref03_lies.l0 kq l0 a1 x5_1 = some r) ∧ Aside0 (kq ≤ k) ∧ Drawn0 w w')
 case atStart => exact ⟨(0), XShort.eqs, H', ⟨Nat.le_refl _⟩, by repeat (first | exact Drawn0.refl _ | apply Drawn0.step)⟩
 case round =>
  clear H'
  try clear c1
  try clear p2
  obtain ⟨x5_1, rfl, HA, HK1, ⟨m1, rfl⟩⟩ := hrel
  cases gk with
  | zero => exact absurd HA.out (by simp [thistleref03_lies.l0])
  | succ k1 =>
   have H := HA.out
   clear HA
   simp only [thistleref03_lies.l0] at H
   by_cases c3 : x5_1 < (l0.length : Int)
   ·rw [if_pos c3] at H
    have c3b0 : decide (x5_1 < (l0.length : Int)) = true := decide_eq_true c3
    clear c3
    by_cases c4 : 0 ≤ x5_1
    ·rw [if_pos c4] at H
     have c4b0 : decide (0 ≤ x5_1) = true := decide_eq_true c4
     clear c4
     by_cases c5 : a1 ≥ ((rd_T41 l0 x5_1).f0)
     ·rw [if_pos c5] at H
      have c5b0 : decide (((rd_T41 l0 x5_1).f0) ≤ a1) = true := decide_eq_true c5
      clear c5
      by_cases c6 : a1 ≤ ((rd_T41 l0 x5_1).f1)
      ·rw [if_pos c6] at H
       have c6b0 : decide (a1 ≤ ((rd_T41 l0 x5_1).f1)) = true := decide_eq_true c6
       clear c6
       obtain rfl := Option.some.inj H
       have p177 : 0 ≤ (x5_1 : Int) := of_decide_eq_true XShort.asm
       have q177 : x5_1 < (l0.length : Int) := of_decide_eq_true XShort.asm
       obtain ⟨ad177, e177, hx177_0, hx177_1⟩ := at_T41 HR0.out x5_1 p177 q177
       cases e177
       replace p177 := eq_true p177
       replace q177 := eq_true q177
       have p178 : 0 ≤ (x5_1 : Int) := of_decide_eq_true XShort.asm
       have q178 : x5_1 < (l0.length : Int) := of_decide_eq_true XShort.asm
       obtain ⟨ad178, e178, hx178_0, hx178_1⟩ := at_T41 HR0.out x5_1 p178 q178
       obtain rfl : ad177 = ad178 := (by injection e178)
       replace p178 := eq_true p178
       replace q178 := eq_true q178
       go_wp2
       go_ret
       exact ⟨XShort.eqs, by repeat (first | exact Drawn0.refl _ | apply Drawn0.step)⟩
      ·rw [if_neg c6] at H
       have c6b0 : decide (a1 ≤ ((rd_T41 l0 x5_1).f1)) = false := decide_eq_false c6
       clear c6
       have H' := Aside0.mk H
       clear H
       have p177 : 0 ≤ (x5_1 : Int) := of_decide_eq_true XShort.asm
       have q177 : x5_1 < (l0.length : Int) := of_decide_eq_true XShort.asm
       obtain ⟨ad177, e177, hx177_0, hx177_1⟩ := at_T41 HR0.out x5_1 p177 q177
       cases e177
       replace p177 := eq_true p177
       replace q177 := eq_true q177
       have p178 : 0 ≤ (x5_1 : Int) := of_decide_eq_true XShort.asm
       have q178 : x5_1 < (l0.length : Int) := of_decide_eq_true XShort.asm
       obtain ⟨ad178, e178, hx178_0, hx178_1⟩ := at_T41 HR0.out x5_1 p178 q178
       obtain rfl : ad177 = ad178 := (by injection e178)
       replace p178 := eq_true p178
       replace q178 := eq_true q178
       go_wp2
       go_roundg k1
       case measure => have := HK1.out; omega
       case rel => exact ⟨(wrap64 (x5_1 + 1)), XShort.eqs, H', ⟨by have := HK1.out; omega⟩, by repeat (first | exact Drawn0.refl _ | apply Drawn0.step)⟩
     ·rw [if_neg c5] at H
      have c5b0 : decide (((rd_T41 l0 x5_1).f0) ≤ a1) = false := decide_eq_false c5
      clear c5
      have H' := Aside0.mk H
      clear H
      have p177 : 0 ≤ (x5_1 : Int) := of_decide_eq_true XShort.asm
      have q177 : x5_1 < (l0.length : Int) := of_decide_eq_true XShort.asm
      obtain ⟨ad177, e177, hx177_0, hx177_1⟩ := at_T41 HR0.out x5_1 p177 q177
      cases e177
      replace p177 := eq_true p177
      replace q177 := eq_true q177
      go_wp2
      go_roundg k1
      case measure => have := HK1.out; omega
      case rel => exact ⟨(wrap64 (x5_1 + 1)), XShort.eqs, H', ⟨by have := HK1.out; omega⟩, by repeat (first | exact Drawn0.refl _ | apply Drawn0.step)⟩
    ·rw [if_neg c4] at H
     exact absurd H (by simp)
   ·rw [if_neg c3] at H
    have c3b0 : decide (x5_1 < (l0.length : Int)) = false := decide_eq_false c3
    clear c3
    obtain rfl := Option.some.inj H
    go_wp2
    go_ret
    exact ⟨XShort.eqs, by repeat (first | exact Drawn0.refl _ | apply Drawn0.step)⟩

/-! ### thistleref03_partners: function 41 -/
mutual
def thistleref03_partners.l0 : Nat → Int → List Int → List (S65) → Int → Option (List Int)
 | 0, _, _, _, _ => none
 | k + 1, x0, x3, x4, x5 => if x5 < (x4.length : Int) then (if 0 ≤ x5 then (if x0 < 0 then (thistleref03_partners.j1 k x0 x3 x4 x5 true ((rd_T65 x4 x5).f0) ((rd_T65 x4 x5).f1) ((rd_T65 x4 x5).f2) ((rd_T65 x4 x5).f3) ((rd_T65 x4 x5).f4)) else (thistleref03_partners.j1 k x0 x3 x4 x5 (decide (x0 > 1114111)) ((rd_T65 x4 x5).f0) ((rd_T65 x4 x5).f1) ((rd_T65 x4 x5).f2) ((rd_T65 x4 x5).f3) ((rd_T65 x4 x5).f4))) else (none)) else (some x3)
def thistleref03_partners.j1 : Nat → Int → List Int → List (S65) → Int → Bool → Int → Int → Int → Int → Int → Option (List Int)
 | 0, _, _, _, _, _, _, _, _, _, _ => none
 | k + 1, x0, x3, x4, x5, x23, x184000, x184001, x184002, x184003, x184004 => if x23 = true then (thistleref03_partners.l0 k x0 x3 x4 (wrap64 (x5 + 1))) else ((thistleref03_names.f x184000 x184001 x184002 x184003 x184004 x0).bind fun t184 => (if t184 = true then (if x3.length < 35184372088832 then ((some (x3 ++ [wrap32 (x0 + x184003)] : List Int)).bind fun y185 => ((thistleref03_names.f x184000 x184001 x184002 x184003 x184004 (wrap32 (x0 - x184003))).bind fun t188 => (if t188 = true then (if y185.length < 35184372088832 then (thistleref03_partners.l0 k x0 (y185 ++ [wrap32 (x0 - x184003)]) x4 (wrap64 (x5 + 1))) else (none)) else (thistleref03_partners.l0 k x0 y185 x4 (wrap64 (x5 + 1)))))) else (none)) else ((thistleref03_names.f x184000 x184001 x184002 x184003 x184004 (wrap32 (x0 - x184003))).bind fun t192 => (if t192 = true then (if x3.length < 35184372088832 then (thistleref03_partners.l0 k x0 (x3 ++ [wrap32 (x0 - x184003)]) x4 (wrap64 (x5 + 1))) else (none)) else (thistleref03_partners.l0 k x0 x3 x4 (wrap64 (x5 + 1)))))))
end
def thistleref03_partners.f (k : Nat) (a0 : Int) : Option (List Int) := (thistleref03_Rules.f).bind fun t179 => (thistleref03_partners.l0 k a0 ([] : List Int) t179 0)
theorem thistleref03_partners.mono_l : ∀ k, (∀ y0 y1 y2 y3, LeO (thistleref03_partners.l0 k y0 y1 y2 y3) (thistleref03_partners.l0 (k + 1) y0 y1 y2 y3)) ∧ (∀ y0 y1 y2 y3 y4 y5 y6 y7 y8 y9, LeO (thistleref03_partners.j1 k y0 y1 y2 y3 y4 y5 y6 y7 y8 y9) (thistleref03_partners.j1 (k + 1) y0 y1 y2 y3 y4 y5 y6 y7 y8 y9))
 | 0 => ⟨fun _ _ _ _ r h => by simp [thistleref03_partners.l0] at h, fun _ _ _ _ _ _ _ _ _ _ r h => by simp [thistleref03_partners.j1] at h⟩
 | k + 1 => by
  obtain ⟨ih0, ih1⟩ := thistleref03_partners.mono_l k
  refine ⟨?_, ?_⟩
  ·intro y0 y1 y2 y3
   unfold thistleref03_partners.l0
   repeat' first
   | (with_reducible exact ih0 _ _ _ _)
   | (with_reducible exact ih1 _ _ _ _ _ _ _ _ _ _)
   | (with_reducible exact LeO.refl _)
   | (with_reducible exact LeO.none _)
   | (with_reducible refine LeO.ite ?_ ?_)
   | (with_reducible refine LeO.bind ?_ (fun _ => ?_))
   | exact ih0 _ _ _ _
   | exact ih1 _ _ _ _ _ _ _ _ _ _
   | exact LeO.none _
   | refine LeO.ite ?_ ?_
   | refine LeO.bind ?_ (fun _ => ?_)
  ·intro y0 y1 y2 y3 y4 y5 y6 y7 y8 y9
   unfold thistleref03_partners.j1
   repeat' first
   | (with_reducible exact ih0 _ _ _ _)
   | (with_reducible exact ih1 _ _ _ _ _ _ _ _ _ _)
   | (with_reducible exact LeO.refl _)
   | (with_reducible exact LeO.none _)
   | (with_reducible refine LeO.ite ?_ ?_)
   | (with_reducible refine LeO.bind ?_ (fun _ => ?_))
   | exact ih0 _ _ _ _
   | exact ih1 _ _ _ _ _ _ _ _ _ _
   | exact LeO.none _
   | refine LeO.ite ?_ ?_
   | refine LeO.bind ?_ (fun _ => ?_)
theorem thistleref03_partners.mono : ∀ a0 k, LeO (thistleref03_partners.f k a0) (thistleref03_partners.f (k + 1) a0) := by
 intro a0 k
 obtain ⟨ih0, ih1⟩ := thistleref03_partners.mono_l k
 unfold thistleref03_partners.f
 repeat' first
   | (with_reducible exact ih0 _ _ _ _)
   | (with_reducible exact ih1 _ _ _ _ _ _ _ _ _ _)
   | (with_reducible exact LeO.refl _)
   | (with_reducible exact LeO.none _)
   | (with_reducible refine LeO.ite ?_ ?_)
   | (with_reducible refine LeO.bind ?_ (fun _ => ?_))
   | exact ih0 _ _ _ _
   | exact ih1 _ _ _ _ _ _ _ _ _ _
   | exact LeO.none _
   | refine LeO.ite ?_ ?_
   | refine LeO.bind ?_ (fun _ => ?_)
set_option maxHeartbeats 8000000 in
set_option maxRecDepth 100000 in
theorem thistleref03_partners.calls (k : Nat) (a0 : Int) (r : List Int) (w : World) (h : thistleref03_partners.f k a0 = some r) :
  Calls Tryd.prog 41 #[.int .i32 a0] w fun e w' => ∃ v0_ : Value, e = .returned (v0_) ∧ Kd.R (Kd.int .i32) 21 w' w.heap.size (fun _ => True) v0_ r ∧ Below w.heap.size w w' := by
 have hu65 := Tryd.underlying65
 have HB := Aside0.mk (Below.refl w.heap.size w)
 have H : ((thistleref03_Rules.f).bind fun t179 => (thistleref03_partners.l0 k a0 ([] : List Int) t179 0)) = some r := h
 clear h
 replace H := Option.bind_eq_some_iff.mp H
 obtain ⟨t179, A20, H⟩ := H
 replace H : (thistleref03_partners.l0 k a0 ([] : List Int) t179 0) = some r := H
 have A2 := Aside0.mk A20
 clear A20
 have H' := Aside0.mk H
 clear H
 go_enter Tryd.func41, Tryd.ntmps41
 go_wp2_with (first | ((with_reducible refine gate_callee (f := 39) rfl ?_); refine goesL_ (some 7) rfl rfl Tryd.func39 (by kernel_rfl) rfl #[] rfl (by (try simp only [List.map_toArray, List.map_cons, List.map_nil]); first | done | rfl | (simp only [List.length_drop, List.length_take]; rfl)) ?_; (with_reducible refine (thistleref03_Rules.calls  t179 _ A2.out).mono ?_); rintro e w3 ⟨v180, rfl, ho0, hb⟩; refine ⟨_, rfl, ?_⟩; have n0_ := Aside0.mk (Kd.R_lower ho0 (below_size XShort.bel)); have n1_ := Aside0.mk (below_step XShort.bel hb); clear HB; have HO181 := n0_; have HB := n1_; clear n0_ n1_; (try clear hb); (try clear hb2); (try clear hk); (try clear hi); (try clear ho0)))
 go_loopg [3, 5] k (fun kq v3 v5 w' => ∃ (x3_1 : List Int) (x5_1 : Int), v5 = .int .i64 x5_1 ∧ Aside0 (thistleref03_partners.l0 kq a0 x3_1 t179 x5_1 = some r) ∧ Aside0 (kq ≤ k) ∧ Aside0 (Kd.R (Kd.int .i32) 21 w' w.heap.size (fun _ => True) v3 x3_1) ∧ Aside0 (Kd.R k65 65 w' w.heap.size (fun _ => True) v180 t179) ∧ Aside0 (Below w.heap.size w w'))
 case atStart => exact ⟨(([] : List Int)), (0), XShort.eqs, H', ⟨Nat.le_refl _⟩, ⟨by first | exact Kd.R_nil _ _ _ _ _ | exact Kd.N_nil _ _ _ _ _ | exact Kd.V_nil _ _ _ _ _ | exact Kd.Q_nil _ _ _ _ _ | exact Kd.S_nil _ _ _ _ _⟩, ⟨by (with_reducible repeat (first | apply Kd.R_alloc | apply Kd.R_drewN | apply Kd.R_drew)); exact HO181.out⟩, ⟨XShort.bel⟩⟩
 case round =>
  clear H'
  try clear p2
  try clear c3
  obtain ⟨x3_1, x5_1, rfl, HA, HK1, HO_3, HO_4, HB⟩ := hrel
  cases gk with
  | zero => exact absurd HA.out (by simp [thistleref03_partners.l0])
  | succ k1 =>
   have H := HA.out
   clear HA
   simp only [thistleref03_partners.l0] at H
   by_cases c4 : x5_1 < (t179.length : Int)
   ·rw [if_pos c4] at H
    have c4b0 : decide (x5_1 < (t179.length : Int)) = true := decide_eq_true c4
    clear c4
    by_cases c5 : 0 ≤ x5_1
    ·rw [if_pos c5] at H
     have c5b0 : decide (0 ≤ x5_1) = true := decide_eq_true c5
     clear c5
     have HC6 := Aside0.mk H
     clear H
     obtain ⟨Ao7, co7, eo7⟩ := Kd.R_slice HO_4.out
     subst eo7
     have p182 : 0 ≤ (x5_1 : Int) := of_decide_eq_true XShort.asm
     have q182 : x5_1 < (t179.length : Int) := of_decide_eq_true XShort.asm
     obtain ⟨ad182, e182, hx182_0, hx182_1, hx182_2, hx182_3, hx182_4⟩ := at_T65 (Kd.R_reads' HO_4.out).2.2 x5_1 p182 q182
     cases e182
     replace p182 := eq_true p182
     replace q182 := eq_true q182
     go_upto_region 7 with (first | ((with_reducible refine gate_dst (N := 6) rfl ?_); refine box_event ?hg (N := 6) ?hd (cs := #[.int .i32 0, .int .i32 0, .int .i32 0, .int .i32 0, .int .i32 0]) (t := 65) ?hr ?_; (case hd => rfl); (case hg => rfl); (case hr => first | (go_simp; done) | (go_simp; rfl)); intro gb183 hg w8 hbox hb; have n0_ := Aside0.mk (Kd.R_below (XShort.rr HO_3.out) hb); have n1_ := Aside0.mk (Kd.R_below (Kd.R_elderB (XShort.rr HO_4.out) gb183 (Nat.le_of_eq hg.symm)) hb); have n2_ := Aside0.mk (below_step XShort.bel hb); have n3_ := Aside0.mk (hbox); have n4_ := Aside0.mk ((by rw [hg]; exact (below_size XShort.bel) : w.heap.size ≤ gb183)); have n5_ := Aside0.mk ((by rw [hg]; exact (below_size XShort.bel) : w.heap.size ≤ gb183)); clear HO_3; clear HO_4; clear HB; have HO_3 := n0_; have HO_4 := n1_; have HB := n2_; have BK183 := n3_; have GW183 := n4_; have GE183 := n5_; clear n0_ n1_ n2_ n3_ n4_ n5_; clear hb hbox hg; have hcz9_0 : w8.cell? ⟨gb183, 0, none⟩ = some (.int .i32 0) := (blk_cell BK183.out 0).trans rfl; have hcz9_1 : w8.cell? ⟨gb183, 1, none⟩ = some (.int .i32 0) := (blk_cell BK183.out 1).trans rfl; have hcz9_2 : w8.cell? ⟨gb183, 2, none⟩ = some (.int .i32 0) := (blk_cell BK183.out 2).trans rfl; have hcz9_3 : w8.cell? ⟨gb183, 3, none⟩ = some (.int .i32 0) := (blk_cell BK183.out 3).trans rfl; have hcz9_4 : w8.cell? ⟨gb183, 4, none⟩ = some (.int .i32 0) := (blk_cell BK183.out 4).trans rfl; have hfz9_0 := blk_frozen BK183.out 0; have hfz9_1 := blk_frozen BK183.out 1; have hfz9_2 := blk_frozen BK183.out 2; have hfz9_3 := blk_frozen BK183.out 3; have hfz9_4 := blk_frozen BK183.out 4))
     (try simp only [Act.put, List.setIfInBounds_toArray, List.set_cons_zero, List.set_cons_succ])
     go_cut [23] (fun v23 wc => ∃ (kq : Nat) (x23_5 : Bool), v23 = .bool x23_5 ∧ Aside0 (thistleref03_partners.j1 kq a0 x3_1 t179 x5_1 x23_5 ((rd_T65 t179 x5_1).f0) ((rd_T65 t179 x5_1).f1) ((rd_T65 t179 x5_1).f2) ((rd_T65 t179 x5_1).f3) ((rd_T65 t179 x5_1).f4) = some r) ∧ Aside0 (kq ≤ k1) ∧ Aside0 (Kd.R (Kd.int .i32) 21 wc w.heap.size (fun _ => True) u3 x3_1) ∧ Aside0 (Kd.R k65 65 wc w.heap.size (fun k_ => k_ ≠ gb183) (.slice (some ad182) t179.length co7) t179) ∧ Aside0 (wc.heap[gb183]? = some (.cells #[.int .i32 ((rd_T65 t179 x5_1).f0), .int .i32 ((rd_T65 t179 x5_1).f1), .int .i32 ((rd_T65 t179 x5_1).f2), .int .i32 ((rd_T65 t179 x5_1).f3), .int .i32 ((rd_T65 t179 x5_1).f4)] 65 (0, 0))) ∧ Aside0 (Below w.heap.size w wc))
     case first =>
      have H := HC6.out
      clear HC6
      by_cases c10 : a0 < 0
      ·rw [if_pos c10] at H
       have c10b0 : decide (a0 < 0) = true := decide_eq_true c10
       clear c10
       (first | rw [c10b0] | (simp only [i64_w, i32_w]; rw [c10b0]) | skip)
       have H' := Aside0.mk H
       clear H
       go_wp2
       go_meet
       case rel => exact ⟨_, (true), XShort.eqs, H', ⟨by have := HK1.out; first | omega | exact Nat.le_refl _⟩, ⟨by (with_reducible repeat (first | apply Kd.R_alloc | apply Kd.R_drewN | apply Kd.R_drew)); exact Kd.R_mono (Kd.R_far (p := ⟨gb183, 4, none⟩) (Kd.R_far (p := ⟨gb183, 3, none⟩) (Kd.R_far (p := ⟨gb183, 2, none⟩) (Kd.R_far (p := ⟨gb183, 1, none⟩) (Kd.R_far (p := ⟨gb183, 0, none⟩) (Kd.R_types HO_3.out BK183.out (by decide)) (fun _ hk => hk.2) (.int .i32 ((rd_T65 t179 x5_1).f0))) (fun _ hk => hk.2) (.int .i32 ((rd_T65 t179 x5_1).f1))) (fun _ hk => hk.2) (.int .i32 ((rd_T65 t179 x5_1).f2))) (fun _ hk => hk.2) (.int .i32 ((rd_T65 t179 x5_1).f3))) (fun _ hk => hk.2) (.int .i32 ((rd_T65 t179 x5_1).f4))) (fun _ hk => trivial)⟩, ⟨by (with_reducible repeat (first | apply Kd.R_alloc | apply Kd.R_drewN | apply Kd.R_drew)); exact Kd.R_mono (Kd.R_far (p := ⟨gb183, 4, none⟩) (Kd.R_far (p := ⟨gb183, 3, none⟩) (Kd.R_far (p := ⟨gb183, 2, none⟩) (Kd.R_far (p := ⟨gb183, 1, none⟩) (Kd.R_far (p := ⟨gb183, 0, none⟩) (Kd.R_mono HO_4.out (fun k_ hk => (⟨hk, hk.2⟩ : _ ∧ k_ ≠ gb183))) (fun _ hk => hk.2) (.int .i32 ((rd_T65 t179 x5_1).f0))) (fun _ hk => hk.2) (.int .i32 ((rd_T65 t179 x5_1).f1))) (fun _ hk => hk.2) (.int .i32 ((rd_T65 t179 x5_1).f2))) (fun _ hk => hk.2) (.int .i32 ((rd_T65 t179 x5_1).f3))) (fun _ hk => hk.2) (.int .i32 ((rd_T65 t179 x5_1).f4))) (fun _ hk => hk.1.2)⟩, ⟨by (with_reducible repeat (first | refine blk_drewN ?_ _ | refine blk_drew ?_ | refine blk_alloc ?_ _)); refine blk_put (cs := #[.int .i32 ((rd_T65 t179 x5_1).f0), .int .i32 ((rd_T65 t179 x5_1).f1), .int .i32 ((rd_T65 t179 x5_1).f2), .int .i32 ((rd_T65 t179 x5_1).f3), .int .i32 0]) ?_ 4 _ rfl; (with_reducible repeat (first | refine blk_drewN ?_ _ | refine blk_drew ?_ | refine blk_alloc ?_ _)); refine blk_put (cs := #[.int .i32 ((rd_T65 t179 x5_1).f0), .int .i32 ((rd_T65 t179 x5_1).f1), .int .i32 ((rd_T65 t179 x5_1).f2), .int .i32 0, .int .i32 0]) ?_ 3 _ rfl; (with_reducible repeat (first | refine blk_drewN ?_ _ | refine blk_drew ?_ | refine blk_alloc ?_ _)); refine blk_put (cs := #[.int .i32 ((rd_T65 t179 x5_1).f0), .int .i32 ((rd_T65 t179 x5_1).f1), .int .i32 0, .int .i32 0, .int .i32 0]) ?_ 2 _ rfl; (with_reducible repeat (first | refine blk_drewN ?_ _ | refine blk_drew ?_ | refine blk_alloc ?_ _)); refine blk_put (cs := #[.int .i32 ((rd_T65 t179 x5_1).f0), .int .i32 0, .int .i32 0, .int .i32 0, .int .i32 0]) ?_ 1 _ rfl; (with_reducible repeat (first | refine blk_drewN ?_ _ | refine blk_drew ?_ | refine blk_alloc ?_ _)); refine blk_put (cs := #[.int .i32 0, .int .i32 0, .int .i32 0, .int .i32 0, .int .i32 0]) ?_ 0 _ rfl; (with_reducible repeat (first | refine blk_drewN ?_ _ | refine blk_drew ?_ | refine blk_alloc ?_ _)); exact BK183.out⟩, ⟨by repeat (first | (with_reducible first | exact HB.out | apply below_alloc | apply pw_below_drewN | apply below_drew1 | refine below_set ?_ GE183.out) | exact HB.out)⟩⟩
      ·rw [if_neg c10] at H
       have c10b0 : decide (a0 < 0) = false := decide_eq_false c10
       clear c10
       (first | rw [c10b0] | (simp only [i64_w, i32_w]; rw [c10b0]) | skip)
       have H' := Aside0.mk H
       clear H
       go_wp2
       go_meet
       case rel => exact ⟨_, (decide (a0 > 1114111)), XShort.eqs, H', ⟨by have := HK1.out; first | omega | exact Nat.le_refl _⟩, ⟨by (with_reducible repeat (first | apply Kd.R_alloc | apply Kd.R_drewN | apply Kd.R_drew)); exact Kd.R_mono (Kd.R_far (p := ⟨gb183, 4, none⟩) (Kd.R_far (p := ⟨gb183, 3, none⟩) (Kd.R_far (p := ⟨gb183, 2, none⟩) (Kd.R_far (p := ⟨gb183, 1, none⟩) (Kd.R_far (p := ⟨gb183, 0, none⟩) (Kd.R_types HO_3.out BK183.out (by decide)) (fun _ hk => hk.2) (.int .i32 ((rd_T65 t179 x5_1).f0))) (fun _ hk => hk.2) (.int .i32 ((rd_T65 t179 x5_1).f1))) (fun _ hk => hk.2) (.int .i32 ((rd_T65 t179 x5_1).f2))) (fun _ hk => hk.2) (.int .i32 ((rd_T65 t179 x5_1).f3))) (fun _ hk => hk.2) (.int .i32 ((rd_T65 t179 x5_1).f4))) (fun _ hk => trivial)⟩, ⟨by (with_reducible repeat (first | apply Kd.R_alloc | apply Kd.R_drewN | apply Kd.R_drew)); exact Kd.R_mono (Kd.R_far (p := ⟨gb183, 4, none⟩) (Kd.R_far (p := ⟨gb183, 3, none⟩) (Kd.R_far (p := ⟨gb183, 2, none⟩) (Kd.R_far (p := ⟨gb183, 1, none⟩) (Kd.R_far (p := ⟨gb183, 0, none⟩) (Kd.R_mono HO_4.out (fun k_ hk => (⟨hk, hk.2⟩ : _ ∧ k_ ≠ gb183))) (fun _ hk => hk.2) (.int .i32 ((rd_T65 t179 x5_1).f0))) (fun _ hk => hk.2) (.int .i32 ((rd_T65 t179 x5_1).f1))) (fun _ hk => hk.2) (.int .i32 ((rd_T65 t179 x5_1).f2))) (fun _ hk => hk.2) (.int .i32 ((rd_T65 t179 x5_1).f3))) (fun _ hk => hk.2) (.int .i32 ((rd_T65 t179 x5_1).f4))) (fun _ hk => hk.1.2)⟩, ⟨by (with_reducible repeat (first | refine blk_drewN ?_ _ | refine blk_drew ?_ | refine blk_alloc ?_ _)); refine blk_put (cs := #[.int .i32 ((rd_T65 t179 x5_1).f0), .int .i32 ((rd_T65 t179 x5_1).f1), .int .i32 ((rd_T65 t179 x5_1).f2), .int .i32 ((rd_T65 t179 x5_1).f3), .int .i32 0]) ?_ 4 _ rfl; (with_reducible repeat (first | refine blk_drewN ?_ _ | refine blk_drew ?_ | refine blk_alloc ?_ _)); refine blk_put (cs := #[.int .i32 ((rd_T65 t179 x5_1).f0), .int .i32 ((rd_T65 t179 x5_1).f1), .int .i32 ((rd_T65 t179 x5_1).f2), .int .i32 0, .int .i32 0]) ?_ 3 _ rfl; (with_reducible repeat (first | refine blk_drewN ?_ _ | refine blk_drew ?_ | refine blk_alloc ?_ _)); refine blk_put (cs := #[.int .i32 ((rd_T65 t179 x5_1).f0), .int .i32 ((rd_T65 t179 x5_1).f1), .int .i32 0, .int .i32 0, .int .i32 0]) ?_ 2 _ rfl; (with_reducible repeat (first | refine blk_drewN ?_ _ | refine blk_drew ?_ | refine blk_alloc ?_ _)); refine blk_put (cs := #[.int .i32 ((rd_T65 t179 x5_1).f0), .int .i32 0, .int .i32 0, .int .i32 0, .int .i32 0]) ?_ 1 _ rfl; (with_reducible repeat (first | refine blk_drewN ?_ _ | refine blk_drew ?_ | refine blk_alloc ?_ _)); refine blk_put (cs := #[.int .i32 0, .int .i32 0, .int .i32 0, .int .i32 0, .int .i32 0]) ?_ 0 _ rfl; (with_reducible repeat (first | refine blk_drewN ?_ _ | refine blk_drew ?_ | refine blk_alloc ?_ _)); exact BK183.out⟩, ⟨by repeat (first | (with_reducible first | exact HB.out | apply below_alloc | apply pw_below_drewN | apply below_drew1 | refine below_set ?_ GE183.out) | exact HB.out)⟩⟩
     case rest =>
      clear HC6
      try clear c1
      try clear p1
      try clear q1
      try clear hx1
      try clear p2
      try clear c3
      try clear c4
      try clear c4b0
      try clear c5
      try clear c5b0
      try clear c10
      try clear c10b0
      try clear hcz9_0
      try clear hcz9_1
      try clear hcz9_2
      try clear hcz9_3
      try clear hcz9_4
      try clear hfz9_0
      try clear hfz9_1
      try clear hfz9_2
      try clear hfz9_3
      try clear hfz9_4
      try clear hx182_0
      try clear hx182_1
      try clear hx182_2
      try clear hx182_3
      try clear hx182_4
      try clear p182
      try clear p2
      try clear q182
      obtain ⟨kq, x23_5, rfl, HA, HJ5, HO_3, HO_4, BK183, HB⟩ := hcut
      cases kq with
      | zero => exact absurd HA.out (by simp [thistleref03_partners.j1])
      | succ kj5 =>
       have H := HA.out
       clear HA
       simp only [thistleref03_partners.j1] at H
       by_cases c11 : x23_5 = true
       ·subst c11
        have H1 : (thistleref03_partners.l0 kj5 a0 x3_1 t179 (wrap64 (x5_1 + 1))) = some r := by rw [if_pos rfl] at H; exact H
        clear H
        have H := H1
        clear H1
        have H' := Aside0.mk H
        clear H
        go_wp2
        go_roundg kj5
        case measure => have := HK1.out; have := HJ5.out; omega
        case rel => exact ⟨(x3_1), (wrap64 (x5_1 + 1)), XShort.eqs, H', ⟨by have := HK1.out; have := HJ5.out; omega⟩, ⟨by (with_reducible repeat (first | apply Kd.R_alloc | apply Kd.R_drewN | apply Kd.R_drew)); exact HO_3.out⟩, ⟨by (with_reducible repeat (first | apply Kd.R_alloc | apply Kd.R_drewN | apply Kd.R_drew)); exact Kd.R_mono HO_4.out (fun _ hk => trivial)⟩, ⟨by repeat (first | (with_reducible first | exact HB.out | apply below_alloc | apply pw_below_drewN | apply below_drew1 | refine below_set ?_ GE183.out) | exact HB.out)⟩⟩
       ·replace c11 := Bool.eq_false_iff.mpr c11
        subst c11
        have H1 : ((thistleref03_names.f ((rd_T65 t179 x5_1).f0) ((rd_T65 t179 x5_1).f1) ((rd_T65 t179 x5_1).f2) ((rd_T65 t179 x5_1).f3) ((rd_T65 t179 x5_1).f4) a0).bind fun t184 => (if t184 = true then (if x3_1.length < 35184372088832 then ((some (x3_1 ++ [wrap32 (a0 + ((rd_T65 t179 x5_1).f3))] : List Int)).bind fun y185 => ((thistleref03_names.f ((rd_T65 t179 x5_1).f0) ((rd_T65 t179 x5_1).f1) ((rd_T65 t179 x5_1).f2) ((rd_T65 t179 x5_1).f3) ((rd_T65 t179 x5_1).f4) (wrap32 (a0 - ((rd_T65 t179 x5_1).f3)))).bind fun t188 => (if t188 = true then (if y185.length < 35184372088832 then (thistleref03_partners.l0 kj5 a0 (y185 ++ [wrap32 (a0 - ((rd_T65 t179 x5_1).f3))]) t179 (wrap64 (x5_1 + 1))) else (none)) else (thistleref03_partners.l0 kj5 a0 y185 t179 (wrap64 (x5_1 + 1)))))) else (none)) else ((thistleref03_names.f ((rd_T65 t179 x5_1).f0) ((rd_T65 t179 x5_1).f1) ((rd_T65 t179 x5_1).f2) ((rd_T65 t179 x5_1).f3) ((rd_T65 t179 x5_1).f4) (wrap32 (a0 - ((rd_T65 t179 x5_1).f3)))).bind fun t192 => (if t192 = true then (if x3_1.length < 35184372088832 then (thistleref03_partners.l0 kj5 a0 (x3_1 ++ [wrap32 (a0 - ((rd_T65 t179 x5_1).f3))]) t179 (wrap64 (x5_1 + 1))) else (none)) else (thistleref03_partners.l0 kj5 a0 x3_1 t179 (wrap64 (x5_1 + 1))))))) = some r := by rw [if_neg (show ¬ (false = true) by decide)] at H; exact H
        clear H
        have H := H1
        clear H1
        replace H := Option.bind_eq_some_iff.mp H
        obtain ⟨t184, A120, H⟩ := H
        replace H : (if t184 = true then (if x3_1.length < 35184372088832 then ((some (x3_1 ++ [wrap32 (a0 + ((rd_T65 t179 x5_1).f3))] : List Int)).bind fun y185 => ((thistleref03_names.f ((rd_T65 t179 x5_1).f0) ((rd_T65 t179 x5_1).f1) ((rd_T65 t179 x5_1).f2) ((rd_T65 t179 x5_1).f3) ((rd_T65 t179 x5_1).f4) (wrap32 (a0 - ((rd_T65 t179 x5_1).f3)))).bind fun t188 => (if t188 = true then (if y185.length < 35184372088832 then (thistleref03_partners.l0 kj5 a0 (y185 ++ [wrap32 (a0 - ((rd_T65 t179 x5_1).f3))]) t179 (wrap64 (x5_1 + 1))) else (none)) else (thistleref03_partners.l0 kj5 a0 y185 t179 (wrap64 (x5_1 + 1)))))) else (none)) else ((thistleref03_names.f ((rd_T65 t179 x5_1).f0) ((rd_T65 t179 x5_1).f1) ((rd_T65 t179 x5_1).f2) ((rd_T65 t179 x5_1).f3) ((rd_T65 t179 x5_1).f4) (wrap32 (a0 - ((rd_T65 t179 x5_1).f3)))).bind fun t192 => (if t192 = true then (if x3_1.length < 35184372088832 then (thistleref03_partners.l0 kj5 a0 (x3_1 ++ [wrap32 (a0 - ((rd_T65 t179 x5_1).f3))]) t179 (wrap64 (x5_1 + 1))) else (none)) else (thistleref03_partners.l0 kj5 a0 x3_1 t179 (wrap64 (x5_1 + 1)))))) = some r := H
        have A12 := Aside0.mk A120
        clear A120
        by_cases c13 : t184 = true
        ·subst c13
         have H1 : (if x3_1.length < 35184372088832 then ((some (x3_1 ++ [wrap32 (a0 + ((rd_T65 t179 x5_1).f3))] : List Int)).bind fun y185 => ((thistleref03_names.f ((rd_T65 t179 x5_1).f0) ((rd_T65 t179 x5_1).f1) ((rd_T65 t179 x5_1).f2) ((rd_T65 t179 x5_1).f3) ((rd_T65 t179 x5_1).f4) (wrap32 (a0 - ((rd_T65 t179 x5_1).f3)))).bind fun t188 => (if t188 = true then (if y185.length < 35184372088832 then (thistleref03_partners.l0 kj5 a0 (y185 ++ [wrap32 (a0 - ((rd_T65 t179 x5_1).f3))]) t179 (wrap64 (x5_1 + 1))) else (none)) else (thistleref03_partners.l0 kj5 a0 y185 t179 (wrap64 (x5_1 + 1)))))) else (none)) = some r := by rw [if_pos rfl] at H; exact H
         clear H
         have H := H1
         clear H1
         by_cases c14 : x3_1.length < 35184372088832
         ·rw [if_pos c14] at H
          have LMc14 := Aside0.mk c14
          clear c14
          obtain ⟨y185, hy185⟩ : ∃ y_ : List Int, y_ = (x3_1 ++ [wrap32 (a0 + ((rd_T65 t179 x5_1).f3))]) := ⟨_, rfl⟩
          replace H : ((thistleref03_names.f ((rd_T65 t179 x5_1).f0) ((rd_T65 t179 x5_1).f1) ((rd_T65 t179 x5_1).f2) ((rd_T65 t179 x5_1).f3) ((rd_T65 t179 x5_1).f4) (wrap32 (a0 - ((rd_T65 t179 x5_1).f3)))).bind fun t188 => (if t188 = true then (if y185.length < 35184372088832 then (thistleref03_partners.l0 kj5 a0 (y185 ++ [wrap32 (a0 - ((rd_T65 t179 x5_1).f3))]) t179 (wrap64 (x5_1 + 1))) else (none)) else (thistleref03_partners.l0 kj5 a0 y185 t179 (wrap64 (x5_1 + 1))))) = some r := by first | (rw [hy185]; with_reducible exact H) | (have H2_ := (Option.bind_some _ _).symm.trans H; rw [hy185]; with_reducible exact H2_) | (have H2_ := (Option.bind_some _ _).symm.trans H; with_reducible exact H2_) | with_reducible exact H | (rw [hy185]; exact H) | exact H
          have Ny185 := Aside0.mk hy185
          clear hy185
          replace H := Option.bind_eq_some_iff.mp H
          obtain ⟨t188, A150, H⟩ := H
          replace H : (if t188 = true then (if y185.length < 35184372088832 then (thistleref03_partners.l0 kj5 a0 (y185 ++ [wrap32 (a0 - ((rd_T65 t179 x5_1).f3))]) t179 (wrap64 (x5_1 + 1))) else (none)) else (thistleref03_partners.l0 kj5 a0 y185 t179 (wrap64 (x5_1 + 1)))) = some r := H
          have A15 := Aside0.mk A150
          clear A150
          by_cases c16 : t188 = true
          ·subst c16
           have H1 : (if y185.length < 35184372088832 then (thistleref03_partners.l0 kj5 a0 (y185 ++ [wrap32 (a0 - ((rd_T65 t179 x5_1).f3))]) t179 (wrap64 (x5_1 + 1))) else (none)) = some r := by rw [if_pos rfl] at H; exact H
           clear H
           have H := H1
           clear H1
           by_cases c17 : y185.length < 35184372088832
           ·rw [if_pos c17] at H
            have LMc17 := Aside0.mk c17
            clear c17
            obtain ⟨y189, hy189⟩ : ∃ y_ : List Int, y_ = (y185 ++ [wrap32 (a0 - ((rd_T65 t179 x5_1).f3))]) := ⟨_, rfl⟩
            replace H : (thistleref03_partners.l0 kj5 a0 y189 t179 (wrap64 (x5_1 + 1))) = some r := by first | (rw [hy189]; with_reducible exact H) | (have H2_ := (Option.bind_some _ _).symm.trans H; rw [hy189]; with_reducible exact H2_) | (have H2_ := (Option.bind_some _ _).symm.trans H; with_reducible exact H2_) | with_reducible exact H | (rw [hy189]; exact H) | exact H
            have Ny189 := Aside0.mk hy189
            clear hy189
            have H' := Aside0.mk H
            clear H
            have hcz18_0 : wc.cell? ⟨gb183, 0, none⟩ = some (.int .i32 ((rd_T65 t179 x5_1).f0)) := (blk_cell BK183.out 0).trans rfl
            have hcz18_1 : wc.cell? ⟨gb183, 1, none⟩ = some (.int .i32 ((rd_T65 t179 x5_1).f1)) := (blk_cell BK183.out 1).trans rfl
            have hcz18_2 : wc.cell? ⟨gb183, 2, none⟩ = some (.int .i32 ((rd_T65 t179 x5_1).f2)) := (blk_cell BK183.out 2).trans rfl
            have hcz18_3 : wc.cell? ⟨gb183, 3, none⟩ = some (.int .i32 ((rd_T65 t179 x5_1).f3)) := (blk_cell BK183.out 3).trans rfl
            have hcz18_4 : wc.cell? ⟨gb183, 4, none⟩ = some (.int .i32 ((rd_T65 t179 x5_1).f4)) := (blk_cell BK183.out 4).trans rfl
            have hfz18_0 := blk_frozen BK183.out 0
            have hfz18_1 := blk_frozen BK183.out 1
            have hfz18_2 := blk_frozen BK183.out 2
            have hfz18_3 := blk_frozen BK183.out 3
            have hfz18_4 := blk_frozen BK183.out 4
            go_wp2_with (first | ((with_reducible refine gate_callee (f := 40) rfl ?_); refine goesL_ (some 26) rfl rfl Tryd.func40 (by kernel_rfl) rfl #[.agg #[.int .i32 ((rd_T65 t179 x5_1).f0), .int .i32 ((rd_T65 t179 x5_1).f1), .int .i32 ((rd_T65 t179 x5_1).f2), .int .i32 ((rd_T65 t179 x5_1).f3), .int .i32 ((rd_T65 t179 x5_1).f4)], .int .i32 a0] rfl (by (try simp only [List.map_toArray, List.map_cons, List.map_nil]); first | done | rfl | (simp only [List.length_drop, List.length_take]; rfl)) ?_; (with_reducible refine (thistleref03_names.calls ((rd_T65 t179 x5_1).f0) ((rd_T65 t179 x5_1).f1) ((rd_T65 t179 x5_1).f2) ((rd_T65 t179 x5_1).f3) ((rd_T65 t179 x5_1).f4) a0 true _ A12.out).mono ?_); rintro e w19 ⟨rfl, hb⟩; refine ⟨_, rfl, ?_⟩; have n0_ := Aside0.mk (Kd.R_below (XShort.rr HO_3.out) hb); have n1_ := Aside0.mk (Kd.R_below (XShort.rr HO_4.out) hb); have n2_ := Aside0.mk (blk_below (g := gb183) (o := .cells #[.int .i32 ((rd_T65 t179 x5_1).f0), .int .i32 ((rd_T65 t179 x5_1).f1), .int .i32 ((rd_T65 t179 x5_1).f2), .int .i32 ((rd_T65 t179 x5_1).f3), .int .i32 ((rd_T65 t179 x5_1).f4)] 65 (0, 0)) (by (with_reducible repeat (first | refine blk_drewN ?_ _ | refine blk_drew ?_ | refine blk_alloc ?_ _)); exact BK183.out) hb); have n3_ := Aside0.mk (below_step (by repeat (first | (with_reducible first | exact HB.out | apply below_alloc | apply pw_below_drewN | apply below_drew1 | refine below_set ?_ GE183.out) | exact HB.out)) hb); clear HO_3; clear HO_4; clear BK183; clear HB; have HO_3 := n0_; have HO_4 := n1_; have BK183 := n2_; have HB := n3_; clear n0_ n1_ n2_ n3_; (try clear hb); (try clear hb2); (try clear hk); (try clear hi); have hcz20_0 : w19.cell? ⟨gb183, 0, none⟩ = some (.int .i32 ((rd_T65 t179 x5_1).f0)) := (blk_cell BK183.out 0).trans rfl; have hcz20_1 : w19.cell? ⟨gb183, 1, none⟩ = some (.int .i32 ((rd_T65 t179 x5_1).f1)) := (blk_cell BK183.out 1).trans rfl; have hcz20_2 : w19.cell? ⟨gb183, 2, none⟩ = some (.int .i32 ((rd_T65 t179 x5_1).f2)) := (blk_cell BK183.out 2).trans rfl; have hcz20_3 : w19.cell? ⟨gb183, 3, none⟩ = some (.int .i32 ((rd_T65 t179 x5_1).f3)) := (blk_cell BK183.out 3).trans rfl; have hcz20_4 : w19.cell? ⟨gb183, 4, none⟩ = some (.int .i32 ((rd_T65 t179 x5_1).f4)) := (blk_cell BK183.out 4).trans rfl; have hfz20_0 := blk_frozen BK183.out 0; have hfz20_1 := blk_frozen BK183.out 1; have hfz20_2 := blk_frozen BK183.out 2; have hfz20_3 := blk_frozen BK183.out 3; have hfz20_4 := blk_frozen BK183.out 4) | ((with_reducible refine gate_builtin (b := .append) (xs := #[.tmp 27, .tmp 32]) rfl ?_); at_builtin; refine Kd.R_append (Kd.int .i32) (w0 := w) w.heap.size rfl (.tmp 27) (.tmp 32) 32 21 (.int .i32 0) 4 rfl Tryd.underlying32 info21 rfl (by decide) (by omega) u3 x3_1 (wrap32 (a0 + ((rd_T65 t179 x5_1).f3))) [.int .i32 (wrap32 (a0 + ((rd_T65 t179 x5_1).f3)))] (fun _ => True) (fun _ => False) rfl rfl ?aP (fun _ hk => hk.elim) ?aF ?aO ?aB ?aS ?aL ?_; (case aP => exact rfl); (case aB => exact (by repeat (first | (with_reducible first | exact HB.out | apply below_alloc | apply pw_below_drewN | apply below_drew1 | refine below_set ?_ GE183.out) | exact HB.out))); (case aF => exact (fun _ _ => trivial)); (case aO => exact (XShort.rr HO_3.out)); (case aS => exact (below_size (by repeat (first | (with_reducible first | exact HB.out | apply below_alloc | apply pw_below_drewN | apply below_drew1 | refine below_set ?_ GE183.out) | exact HB.out)))); (case aL => have := LMc14.out; omega); intro v186 w21 ho hb hg hat; rw [← Ny185.out] at ho; have n0_ := Aside0.mk (Kd.R_over' (XShort.rr HO_4.out) (Kd.R_typed (XShort.rr HO_3.out)) (by decide) hg); have n1_ := Aside0.mk (blk_grown (g := gb183) (o := .cells #[.int .i32 ((rd_T65 t179 x5_1).f0), .int .i32 ((rd_T65 t179 x5_1).f1), .int .i32 ((rd_T65 t179 x5_1).f2), .int .i32 ((rd_T65 t179 x5_1).f3), .int .i32 ((rd_T65 t179 x5_1).f4)] 65 (0, 0)) (by (with_reducible repeat (first | refine blk_drewN ?_ _ | refine blk_drew ?_ | refine blk_alloc ?_ _)); exact BK183.out) hg (Kd.R_ne HO_3.out BK183.out (by decide))); have n2_ := Aside0.mk (hb); have n3_ := Aside0.mk (ho); clear HO_4; clear BK183; clear HB; clear HO_3; have HO_4 := n0_; have BK183 := n1_; have HB := n2_; have HO187 := n3_; clear n0_ n1_ n2_ n3_; clear ho hb hg hat; have hcz22_0 : w21.cell? ⟨gb183, 0, none⟩ = some (.int .i32 ((rd_T65 t179 x5_1).f0)) := (blk_cell BK183.out 0).trans rfl; have hcz22_1 : w21.cell? ⟨gb183, 1, none⟩ = some (.int .i32 ((rd_T65 t179 x5_1).f1)) := (blk_cell BK183.out 1).trans rfl; have hcz22_2 : w21.cell? ⟨gb183, 2, none⟩ = some (.int .i32 ((rd_T65 t179 x5_1).f2)) := (blk_cell BK183.out 2).trans rfl; have hcz22_3 : w21.cell? ⟨gb183, 3, none⟩ = some (.int .i32 ((rd_T65 t179 x5_1).f3)) := (blk_cell BK183.out 3).trans rfl; have hcz22_4 : w21.cell? ⟨gb183, 4, none⟩ = some (.int .i32 ((rd_T65 t179 x5_1).f4)) := (blk_cell BK183.out 4).trans rfl; have hfz22_0 := blk_frozen BK183.out 0; have hfz22_1 := blk_frozen BK183.out 1; have hfz22_2 := blk_frozen BK183.out 2; have hfz22_3 := blk_frozen BK183.out 3; have hfz22_4 := blk_frozen BK183.out 4) | ((with_reducible refine gate_callee (f := 40) rfl ?_); refine goesL_ (some 39) rfl rfl Tryd.func40 (by kernel_rfl) rfl #[.agg #[.int .i32 ((rd_T65 t179 x5_1).f0), .int .i32 ((rd_T65 t179 x5_1).f1), .int .i32 ((rd_T65 t179 x5_1).f2), .int .i32 ((rd_T65 t179 x5_1).f3), .int .i32 ((rd_T65 t179 x5_1).f4)], .int .i32 (wrap32 (a0 - ((rd_T65 t179 x5_1).f3)))] rfl (by (try simp only [List.map_toArray, List.map_cons, List.map_nil]); first | done | rfl | (simp only [List.length_drop, List.length_take]; rfl)) ?_; (with_reducible refine (thistleref03_names.calls ((rd_T65 t179 x5_1).f0) ((rd_T65 t179 x5_1).f1) ((rd_T65 t179 x5_1).f2) ((rd_T65 t179 x5_1).f3) ((rd_T65 t179 x5_1).f4) (wrap32 (a0 - ((rd_T65 t179 x5_1).f3))) true _ A15.out).mono ?_); rintro e w23 ⟨rfl, hb⟩; refine ⟨_, rfl, ?_⟩; have n0_ := Aside0.mk (Kd.R_below (XShort.rr HO_4.out) hb); have n1_ := Aside0.mk (Kd.R_below (XShort.rr HO187.out) hb); have n2_ := Aside0.mk (blk_below (g := gb183) (o := .cells #[.int .i32 ((rd_T65 t179 x5_1).f0), .int .i32 ((rd_T65 t179 x5_1).f1), .int .i32 ((rd_T65 t179 x5_1).f2), .int .i32 ((rd_T65 t179 x5_1).f3), .int .i32 ((rd_T65 t179 x5_1).f4)] 65 (0, 0)) (by (with_reducible repeat (first | refine blk_drewN ?_ _ | refine blk_drew ?_ | refine blk_alloc ?_ _)); exact BK183.out) hb); have n3_ := Aside0.mk (below_step (by repeat (first | (with_reducible first | exact HB.out | apply below_alloc | apply pw_below_drewN | apply below_drew1 | refine below_set ?_ GE183.out) | exact HB.out)) hb); clear HO_4; clear HO187; clear BK183; clear HB; have HO_4 := n0_; have HO187 := n1_; have BK183 := n2_; have HB := n3_; clear n0_ n1_ n2_ n3_; (try clear hb); (try clear hb2); (try clear hk); (try clear hi); have hcz24_0 : w23.cell? ⟨gb183, 0, none⟩ = some (.int .i32 ((rd_T65 t179 x5_1).f0)) := (blk_cell BK183.out 0).trans rfl; have hcz24_1 : w23.cell? ⟨gb183, 1, none⟩ = some (.int .i32 ((rd_T65 t179 x5_1).f1)) := (blk_cell BK183.out 1).trans rfl; have hcz24_2 : w23.cell? ⟨gb183, 2, none⟩ = some (.int .i32 ((rd_T65 t179 x5_1).f2)) := (blk_cell BK183.out 2).trans rfl; have hcz24_3 : w23.cell? ⟨gb183, 3, none⟩ = some (.int .i32 ((rd_T65 t179 x5_1).f3)) := (blk_cell BK183.out 3).trans rfl; have hcz24_4 : w23.cell? ⟨gb183, 4, none⟩ = some (.int .i32 ((rd_T65 t179 x5_1).f4)) := (blk_cell BK183.out 4).trans rfl; have hfz24_0 := blk_frozen BK183.out 0; have hfz24_1 := blk_frozen BK183.out 1; have hfz24_2 := blk_frozen BK183.out 2; have hfz24_3 := blk_frozen BK183.out 3; have hfz24_4 := blk_frozen BK183.out 4) | ((with_reducible refine gate_builtin (b := .append) (xs := #[.tmp 40, .tmp 45]) rfl ?_); at_builtin; refine Kd.R_append (Kd.int .i32) (w0 := w) w.heap.size rfl (.tmp 40) (.tmp 45) 32 21 (.int .i32 0) 4 rfl Tryd.underlying32 info21 rfl (by decide) (by omega) v186 y185 (wrap32 (a0 - ((rd_T65 t179 x5_1).f3))) [.int .i32 (wrap32 (a0 - ((rd_T65 t179 x5_1).f3)))] (fun _ => True) (fun _ => False) rfl rfl ?aP (fun _ hk => hk.elim) ?aF ?aO ?aB ?aS ?aL ?_; (case aP => exact rfl); (case aB => exact (by repeat (first | (with_reducible first | exact HB.out | apply below_alloc | apply pw_below_drewN | apply below_drew1 | refine below_set ?_ GE183.out) | exact HB.out))); (case aF => exact (fun _ _ => trivial)); (case aO => exact (XShort.rr HO187.out)); (case aS => exact (below_size (by repeat (first | (with_reducible first | exact HB.out | apply below_alloc | apply pw_below_drewN | apply below_drew1 | refine below_set ?_ GE183.out) | exact HB.out)))); (case aL => have := LMc17.out; omega); intro v190 w25 ho hb hg hat; rw [← Ny189.out] at ho; have n0_ := Aside0.mk (Kd.R_over' (XShort.rr HO_4.out) (Kd.R_typed (XShort.rr HO187.out)) (by decide) hg); have n1_ := Aside0.mk (blk_grown (g := gb183) (o := .cells #[.int .i32 ((rd_T65 t179 x5_1).f0), .int .i32 ((rd_T65 t179 x5_1).f1), .int .i32 ((rd_T65 t179 x5_1).f2), .int .i32 ((rd_T65 t179 x5_1).f3), .int .i32 ((rd_T65 t179 x5_1).f4)] 65 (0, 0)) (by (with_reducible repeat (first | refine blk_drewN ?_ _ | refine blk_drew ?_ | refine blk_alloc ?_ _)); exact BK183.out) hg (Kd.R_ne HO187.out BK183.out (by decide))); have n2_ := Aside0.mk (hb); have n3_ := Aside0.mk (ho); clear HO_4; clear BK183; clear HB; clear HO187; have HO_4 := n0_; have BK183 := n1_; have HB := n2_; have HO191 := n3_; clear n0_ n1_ n2_ n3_; clear ho hb hg hat))
            go_roundg kj5
            case measure => have := HK1.out; have := HJ5.out; omega
            case rel => exact ⟨(y189), (wrap64 (x5_1 + 1)), XShort.eqs, H', ⟨by have := HK1.out; have := HJ5.out; omega⟩, ⟨by (with_reducible repeat (first | apply Kd.R_alloc | apply Kd.R_drewN | apply Kd.R_drew)); exact HO191.out⟩, ⟨by (with_reducible repeat (first | apply Kd.R_alloc | apply Kd.R_drewN | apply Kd.R_drew)); exact Kd.R_mono HO_4.out (fun _ hk => trivial)⟩, ⟨by repeat (first | (with_reducible first | exact HB.out | apply below_alloc | apply pw_below_drewN | apply below_drew1 | refine below_set ?_ GE183.out) | exact HB.out)⟩⟩
           ·rw [if_neg c17] at H
            exact absurd H (by simp)
          ·replace c16 := Bool.eq_false_iff.mpr c16
           subst c16
           have H1 : (thistleref03_partners.l0 kj5 a0 y185 t179 (wrap64 (x5_1 + 1))) = some r := by rw [if_neg (show ¬ (false = true) by decide)] at H; exact H
           clear H
           have H := H1
           clear H1
           have H' := Aside0.mk H
           clear H
           have hcz26_0 : wc.cell? ⟨gb183, 0, none⟩ = some (.int .i32 ((rd_T65 t179 x5_1).f0)) := (blk_cell BK183.out 0).trans rfl
           have hcz26_1 : wc.cell? ⟨gb183, 1, none⟩ = some (.int .i32 ((rd_T65 t179 x5_1).f1)) := (blk_cell BK183.out 1).trans rfl
           have hcz26_2 : wc.cell? ⟨gb183, 2, none⟩ = some (.int .i32 ((rd_T65 t179 x5_1).f2)) := (blk_cell BK183.out 2).trans rfl
           have hcz26_3 : wc.cell? ⟨gb183, 3, none⟩ = some (.int .i32 ((rd_T65 t179 x5_1).f3)) := (blk_cell BK183.out 3).trans rfl
           have hcz26_4 : wc.cell? ⟨gb183, 4, none⟩ = some (.int .i32 ((rd_T65 t179 x5_1).f4)) := (blk_cell BK183.out 4).trans rfl
           have hfz26_0 := blk_frozen BK183.out 0
           have hfz26_1 := blk_frozen BK183.out 1
           have hfz26_2 := blk_frozen BK183.out 2
           have hfz26_3 := blk_frozen BK183.out 3
           have hfz26_4 := blk_frozen BK183.out 4
           go_wp2_with (first | ((with_reducible refine gate_callee (f := 40) rfl ?_); refine goesL_ (some 26) rfl rfl Tryd.func40 (by kernel_rfl) rfl #[.agg #[.int .i32 ((rd_T65 t179 x5_1).f0), .int .i32 ((rd_T65 t179 x5_1).f1), .int .i32 ((rd_T65 t179 x5_1).f2), .int .i32 ((rd_T65 t179 x5_1).f3), .int .i32 ((rd_T65 t179 x5_1).f4)], .int .i32 a0] rfl (by (try simp only [List.map_toArray, List.map_cons, List.map_nil]); first | done | rfl | (simp only [List.length_drop, List.length_take]; rfl)) ?_; (with_reducible refine (thistleref03_names.calls ((rd_T65 t179 x5_1).f0) ((rd_T65 t179 x5_1).f1) ((rd_T65 t179 x5_1).f2) ((rd_T65 t179 x5_1).f3) ((rd_T65 t179 x5_1).f4) a0 true _ A12.out).mono ?_); rintro e w27 ⟨rfl, hb⟩; refine ⟨_, rfl, ?_⟩; have n0_ := Aside0.mk (Kd.R_below (XShort.rr HO_3.out) hb); have n1_ := Aside0.mk (Kd.R_below (XShort.rr HO_4.out) hb); have n2_ := Aside0.mk (blk_below (g := gb183) (o := .cells #[.int .i32 ((rd_T65 t179 x5_1).f0), .int .i32 ((rd_T65 t179 x5_1).f1), .int .i32 ((rd_T65 t179 x5_1).f2), .int .i32 ((rd_T65 t179 x5_1).f3), .int .i32 ((rd_T65 t179 x5_1).f4)] 65 (0, 0)) (by (with_reducible repeat (first | refine blk_drewN ?_ _ | refine blk_drew ?_ | refine blk_alloc ?_ _)); exact BK183.out) hb); have n3_ := Aside0.mk (below_step (by repeat (first | (with_reducible first | exact HB.out | apply below_alloc | apply pw_below_drewN | apply below_drew1 | refine below_set ?_ GE183.out) | exact HB.out)) hb); clear HO_3; clear HO_4; clear BK183; clear HB; have HO_3 := n0_; have HO_4 := n1_; have BK183 := n2_; have HB := n3_; clear n0_ n1_ n2_ n3_; (try clear hb); (try clear hb2); (try clear hk); (try clear hi); have hcz28_0 : w27.cell? ⟨gb183, 0, none⟩ = some (.int .i32 ((rd_T65 t179 x5_1).f0)) := (blk_cell BK183.out 0).trans rfl; have hcz28_1 : w27.cell? ⟨gb183, 1, none⟩ = some (.int .i32 ((rd_T65 t179 x5_1).f1)) := (blk_cell BK183.out 1).trans rfl; have hcz28_2 : w27.cell? ⟨gb183, 2, none⟩ = some (.int .i32 ((rd_T65 t179 x5_1).f2)) := (blk_cell BK183.out 2).trans rfl; have hcz28_3 : w27.cell? ⟨gb183, 3, none⟩ = some (.int .i32 ((rd_T65 t179 x5_1).f3)) := (blk_cell BK183.out 3).trans rfl; have hcz28_4 : w27.cell? ⟨gb183, 4, none⟩ = some (.int .i32 ((rd_T65 t179 x5_1).f4)) := (blk_cell BK183.out 4).trans rfl; have hfz28_0 := blk_frozen BK183.out 0; have hfz28_1 := blk_frozen BK183.out 1; have hfz28_2 := blk_frozen BK183.out 2; have hfz28_3 := blk_frozen BK183.out 3; have hfz28_4 := blk_frozen BK183.out 4) | ((with_reducible refine gate_builtin (b := .append) (xs := #[.tmp 27, .tmp 32]) rfl ?_); at_builtin; refine Kd.R_append (Kd.int .i32) (w0 := w) w.heap.size rfl (.tmp 27) (.tmp 32) 32 21 (.int .i32 0) 4 rfl Tryd.underlying32 info21 rfl (by decide) (by omega) u3 x3_1 (wrap32 (a0 + ((rd_T65 t179 x5_1).f3))) [.int .i32 (wrap32 (a0 + ((rd_T65 t179 x5_1).f3)))] (fun _ => True) (fun _ => False) rfl rfl ?aP (fun _ hk => hk.elim) ?aF ?aO ?aB ?aS ?aL ?_; (case aP => exact rfl); (case aB => exact (by repeat (first | (with_reducible first | exact HB.out | apply below_alloc | apply pw_below_drewN | apply below_drew1 | refine below_set ?_ GE183.out) | exact HB.out))); (case aF => exact (fun _ _ => trivial)); (case aO => exact (XShort.rr HO_3.out)); (case aS => exact (below_size (by repeat (first | (with_reducible first | exact HB.out | apply below_alloc | apply pw_below_drewN | apply below_drew1 | refine below_set ?_ GE183.out) | exact HB.out)))); (case aL => have := LMc14.out; omega); intro v186 w29 ho hb hg hat; rw [← Ny185.out] at ho; have n0_ := Aside0.mk (Kd.R_over' (XShort.rr HO_4.out) (Kd.R_typed (XShort.rr HO_3.out)) (by decide) hg); have n1_ := Aside0.mk (blk_grown (g := gb183) (o := .cells #[.int .i32 ((rd_T65 t179 x5_1).f0), .int .i32 ((rd_T65 t179 x5_1).f1), .int .i32 ((rd_T65 t179 x5_1).f2), .int .i32 ((rd_T65 t179 x5_1).f3), .int .i32 ((rd_T65 t179 x5_1).f4)] 65 (0, 0)) (by (with_reducible repeat (first | refine blk_drewN ?_ _ | refine blk_drew ?_ | refine blk_alloc ?_ _)); exact BK183.out) hg (Kd.R_ne HO_3.out BK183.out (by decide))); have n2_ := Aside0.mk (hb); have n3_ := Aside0.mk (ho); clear HO_4; clear BK183; clear HB; clear HO_3; have HO_4 := n0_; have BK183 := n1_; have HB := n2_; have HO187 := n3_; clear n0_ n1_ n2_ n3_; clear ho hb hg hat; have hcz30_0 : w29.cell? ⟨gb183, 0, none⟩ = some (.int .i32 ((rd_T65 t179 x5_1).f0)) := (blk_cell BK183.out 0).trans rfl; have hcz30_1 : w29.cell? ⟨gb183, 1, none⟩ = some (.int .i32 ((rd_T65 t179 x5_1).f1)) := (blk_cell BK183.out 1).trans rfl; have hcz30_2 : w29.cell? ⟨gb183, 2, none⟩ = some (.int .i32 ((rd_T65 t179 x5_1).f2)) := (blk_cell BK183.out 2).trans rfl; have hcz30_3 : w29.cell? ⟨gb183, 3, none⟩ = some (.int .i32 ((rd_T65 t179 x5_1).f3)) := (blk_cell BK183.out 3).trans rfl; have hcz30_4 : w29.cell? ⟨gb183, 4, none⟩ = some (.int .i32 ((rd_T65 t179 x5_1).f4)) := (blk_cell BK183.out 4).trans rfl; have hfz30_0 := blk_frozen BK183.out 0; have hfz30_1 := blk_frozen BK183.out 1; have hfz30_2 := blk_frozen BK183.out 2; have hfz30_3 := blk_frozen BK183.out 3; have hfz30_4 := blk_frozen BK183.out 4) | ((with_reducible refine gate_callee (f := 40) rfl ?_); refine goesL_ (some 39) rfl rfl Tryd.func40 (by kernel_rfl) rfl #[.agg #[.int .i32 ((rd_T65 t179 x5_1).f0), .int .i32 ((rd_T65 t179 x5_1).f1), .int .i32 ((rd_T65 t179 x5_1).f2), .int .i32 ((rd_T65 t179 x5_1).f3), .int .i32 ((rd_T65 t179 x5_1).f4)], .int .i32 (wrap32 (a0 - ((rd_T65 t179 x5_1).f3)))] rfl (by (try simp only [List.map_toArray, List.map_cons, List.map_nil]); first | done | rfl | (simp only [List.length_drop, List.length_take]; rfl)) ?_; (with_reducible refine (thistleref03_names.calls ((rd_T65 t179 x5_1).f0) ((rd_T65 t179 x5_1).f1) ((rd_T65 t179 x5_1).f2) ((rd_T65 t179 x5_1).f3) ((rd_T65 t179 x5_1).f4) (wrap32 (a0 - ((rd_T65 t179 x5_1).f3))) false _ A15.out).mono ?_); rintro e w31 ⟨rfl, hb⟩; refine ⟨_, rfl, ?_⟩; have n0_ := Aside0.mk (Kd.R_below (XShort.rr HO_4.out) hb); have n1_ := Aside0.mk (Kd.R_below (XShort.rr HO187.out) hb); have n2_ := Aside0.mk (blk_below (g := gb183) (o := .cells #[.int .i32 ((rd_T65 t179 x5_1).f0), .int .i32 ((rd_T65 t179 x5_1).f1), .int .i32 ((rd_T65 t179 x5_1).f2), .int .i32 ((rd_T65 t179 x5_1).f3), .int .i32 ((rd_T65 t179 x5_1).f4)] 65 (0, 0)) (by (with_reducible repeat (first | refine blk_drewN ?_ _ | refine blk_drew ?_ | refine blk_alloc ?_ _)); exact BK183.out) hb); have n3_ := Aside0.mk (below_step (by repeat (first | (with_reducible first | exact HB.out | apply below_alloc | apply pw_below_drewN | apply below_drew1 | refine below_set ?_ GE183.out) | exact HB.out)) hb); clear HO_4; clear HO187; clear BK183; clear HB; have HO_4 := n0_; have HO187 := n1_; have BK183 := n2_; have HB := n3_; clear n0_ n1_ n2_ n3_; (try clear hb); (try clear hb2); (try clear hk); (try clear hi)))
           go_roundg kj5
           case measure => have := HK1.out; have := HJ5.out; omega
           case rel => exact ⟨(y185), (wrap64 (x5_1 + 1)), XShort.eqs, H', ⟨by have := HK1.out; have := HJ5.out; omega⟩, ⟨by (with_reducible repeat (first | apply Kd.R_alloc | apply Kd.R_drewN | apply Kd.R_drew)); exact HO187.out⟩, ⟨by (with_reducible repeat (first | apply Kd.R_alloc | apply Kd.R_drewN | apply Kd.R_drew)); exact Kd.R_mono HO_4.out (fun _ hk => trivial)⟩, ⟨by repeat (first | (with_reducible first | exact HB.out | apply below_alloc | apply pw_below_drewN | apply below_drew1 | refine below_set ?_ GE183.out) | exact HB.out)⟩⟩
         ·rw [if_neg c14] at H
          exact absurd H (by simp)
        ·replace c13 := Bool.eq_false_iff.mpr c13
         subst c13
         have H1 : ((thistleref03_names.f ((rd_T65 t179 x5_1).f0) ((rd_T65 t179 x5_1).f1) ((rd_T65 t179 x5_1).f2) ((rd_T65 t179 x5_1).f3) ((rd_T65 t179 x5_1).f4) (wrap32 (a0 - ((rd_T65 t179 x5_1).f3)))).bind fun t192 => (if t192 = true then (if x3_1.length < 35184372088832 then (thistleref03_partners.l0 kj5 a0 (x3_1 ++ [wrap32 (a0 - ((rd_T65 t179 x5_1).f3))]) t179 (wrap64 (x5_1 + 1))) else (none)) else (thistleref03_partners.l0 kj5 a0 x3_1 t179 (wrap64 (x5_1 + 1))))) = some r := by rw [if_neg (show ¬ (false = true) by decide)] at H; exact H
         clear H
         have H := H1
         clear H1
         replace H := Option.bind_eq_some_iff.mp H
         obtain ⟨t192, A320, H⟩ := H
         replace H : (if t192 = true then (if x3_1.length < 35184372088832 then (thistleref03_partners.l0 kj5 a0 (x3_1 ++ [wrap32 (a0 - ((rd_T65 t179 x5_1).f3))]) t179 (wrap64 (x5_1 + 1))) else (none)) else (thistleref03_partners.l0 kj5 a0 x3_1 t179 (wrap64 (x5_1 + 1)))) = some r := H
         have A32 := Aside0.mk A320
         clear A320
         by_cases c33 : t192 = true
         ·subst c33
          have H1 : (if x3_1.length < 35184372088832 then (thistleref03_partners.l0 kj5 a0 (x3_1 ++ [wrap32 (a0 - ((rd_T65 t179 x5_1).f3))]) t179 (wrap64 (x5_1 + 1))) else (none)) = some r := by rw [if_pos rfl] at H; exact H
          clear H
          have H := H1
          clear H1
          by_cases c34 : x3_1.length < 35184372088832
          ·rw [if_pos c34] at H
           have LMc34 := Aside0.mk c34
           clear c34
           obtain ⟨y193, hy193⟩ : ∃ y_ : List Int, y_ = (x3_1 ++ [wrap32 (a0 - ((rd_T65 t179 x5_1).f3))]) := ⟨_, rfl⟩
           replace H : (thistleref03_partners.l0 kj5 a0 y193 t179 (wrap64 (x5_1 + 1))) = some r := by first | (rw [hy193]; with_reducible exact H) | (have H2_ := (Option.bind_some _ _).symm.trans H; rw [hy193]; with_reducible exact H2_) | (have H2_ := (Option.bind_some _ _).symm.trans H; with_reducible exact H2_) | with_reducible exact H | (rw [hy193]; exact H) | exact H
           have Ny193 := Aside0.mk hy193
           clear hy193
           have H' := Aside0.mk H
           clear H
           have hcz35_0 : wc.cell? ⟨gb183, 0, none⟩ = some (.int .i32 ((rd_T65 t179 x5_1).f0)) := (blk_cell BK183.out 0).trans rfl
           have hcz35_1 : wc.cell? ⟨gb183, 1, none⟩ = some (.int .i32 ((rd_T65 t179 x5_1).f1)) := (blk_cell BK183.out 1).trans rfl
           have hcz35_2 : wc.cell? ⟨gb183, 2, none⟩ = some (.int .i32 ((rd_T65 t179 x5_1).f2)) := (blk_cell BK183.out 2).trans rfl
           have hcz35_3 : wc.cell? ⟨gb183, 3, none⟩ = some (.int .i32 ((rd_T65 t179 x5_1).f3)) := (blk_cell BK183.out 3).trans rfl
           have hcz35_4 : wc.cell? ⟨gb183, 4, none⟩ = some (.int .i32 ((rd_T65 t179 x5_1).f4)) := (blk_cell BK183.out 4).trans rfl
           have hfz35_0 := blk_frozen BK183.out 0
           have hfz35_1 := blk_frozen BK183.out 1
           have hfz35_2 := blk_frozen BK183.out 2
           have hfz35_3 := blk_frozen BK183.out 3
           have hfz35_4 := blk_frozen BK183.out 4
           go_wp2_with (first | ((with_reducible refine gate_callee (f := 40) rfl ?_); refine goesL_ (some 26) rfl rfl Tryd.func40 (by kernel_rfl) rfl #[.agg #[.int .i32 ((rd_T65 t179 x5_1).f0), .int .i32 ((rd_T65 t179 x5_1).f1), .int .i32 ((rd_T65 t179 x5_1).f2), .int .i32 ((rd_T65 t179 x5_1).f3), .int .i32 ((rd_T65 t179 x5_1).f4)], .int .i32 a0] rfl (by (try simp only [List.map_toArray, List.map_cons, List.map_nil]); first | done | rfl | (simp only [List.length_drop, List.length_take]; rfl)) ?_; (with_reducible refine (thistleref03_names.calls ((rd_T65 t179 x5_1).f0) ((rd_T65 t179 x5_1).f1) ((rd_T65 t179 x5_1).f2) ((rd_T65 t179 x5_1).f3) ((rd_T65 t179 x5_1).f4) a0 false _ A12.out).mono ?_); rintro e w36 ⟨rfl, hb⟩; refine ⟨_, rfl, ?_⟩; have n0_ := Aside0.mk (Kd.R_below (XShort.rr HO_3.out) hb); have n1_ := Aside0.mk (Kd.R_below (XShort.rr HO_4.out) hb); have n2_ := Aside0.mk (blk_below (g := gb183) (o := .cells #[.int .i32 ((rd_T65 t179 x5_1).f0), .int .i32 ((rd_T65 t179 x5_1).f1), .int .i32 ((rd_T65 t179 x5_1).f2), .int .i32 ((rd_T65 t179 x5_1).f3), .int .i32 ((rd_T65 t179 x5_1).f4)] 65 (0, 0)) (by (with_reducible repeat (first | refine blk_drewN ?_ _ | refine blk_drew ?_ | refine blk_alloc ?_ _)); exact BK183.out) hb); have n3_ := Aside0.mk (below_step (by repeat (first | (with_reducible first | exact HB.out | apply below_alloc | apply pw_below_drewN | apply below_drew1 | refine below_set ?_ GE183.out) | exact HB.out)) hb); clear HO_3; clear HO_4; clear BK183; clear HB; have HO_3 := n0_; have HO_4 := n1_; have BK183 := n2_; have HB := n3_; clear n0_ n1_ n2_ n3_; (try clear hb); (try clear hb2); (try clear hk); (try clear hi); have hcz37_0 : w36.cell? ⟨gb183, 0, none⟩ = some (.int .i32 ((rd_T65 t179 x5_1).f0)) := (blk_cell BK183.out 0).trans rfl; have hcz37_1 : w36.cell? ⟨gb183, 1, none⟩ = some (.int .i32 ((rd_T65 t179 x5_1).f1)) := (blk_cell BK183.out 1).trans rfl; have hcz37_2 : w36.cell? ⟨gb183, 2, none⟩ = some (.int .i32 ((rd_T65 t179 x5_1).f2)) := (blk_cell BK183.out 2).trans rfl; have hcz37_3 : w36.cell? ⟨gb183, 3, none⟩ = some (.int .i32 ((rd_T65 t179 x5_1).f3)) := (blk_cell BK183.out 3).trans rfl; have hcz37_4 : w36.cell? ⟨gb183, 4, none⟩ = some (.int .i32 ((rd_T65 t179 x5_1).f4)) := (blk_cell BK183.out 4).trans rfl; have hfz37_0 := blk_frozen BK183.out 0; have hfz37_1 := blk_frozen BK183.out 1; have hfz37_2 := blk_frozen BK183.out 2; have hfz37_3 := blk_frozen BK183.out 3; have hfz37_4 := blk_frozen BK183.out 4) | ((with_reducible refine gate_callee (f := 40) rfl ?_); refine goesL_ (some 39) rfl rfl Tryd.func40 (by kernel_rfl) rfl #[.agg #[.int .i32 ((rd_T65 t179 x5_1).f0), .int .i32 ((rd_T65 t179 x5_1).f1), .int .i32 ((rd_T65 t179 x5_1).f2), .int .i32 ((rd_T65 t179 x5_1).f3), .int .i32 ((rd_T65 t179 x5_1).f4)], .int .i32 (wrap32 (a0 - ((rd_T65 t179 x5_1).f3)))] rfl (by (try simp only [List.map_toArray, List.map_cons, List.map_nil]); first | done | rfl | (simp only [List.length_drop, List.length_take]; rfl)) ?_; (with_reducible refine (thistleref03_names.calls ((rd_T65 t179 x5_1).f0) ((rd_T65 t179 x5_1).f1) ((rd_T65 t179 x5_1).f2) ((rd_T65 t179 x5_1).f3) ((rd_T65 t179 x5_1).f4) (wrap32 (a0 - ((rd_T65 t179 x5_1).f3))) true _ A32.out).mono ?_); rintro e w38 ⟨rfl, hb⟩; refine ⟨_, rfl, ?_⟩; have n0_ := Aside0.mk (Kd.R_below (XShort.rr HO_3.out) hb); have n1_ := Aside0.mk (Kd.R_below (XShort.rr HO_4.out) hb); have n2_ := Aside0.mk (blk_below (g := gb183) (o := .cells #[.int .i32 ((rd_T65 t179 x5_1).f0), .int .i32 ((rd_T65 t179 x5_1).f1), .int .i32 ((rd_T65 t179 x5_1).f2), .int .i32 ((rd_T65 t179 x5_1).f3), .int .i32 ((rd_T65 t179 x5_1).f4)] 65 (0, 0)) (by (with_reducible repeat (first | refine blk_drewN ?_ _ | refine blk_drew ?_ | refine blk_alloc ?_ _)); exact BK183.out) hb); have n3_ := Aside0.mk (below_step (by repeat (first | (with_reducible first | exact HB.out | apply below_alloc | apply pw_below_drewN | apply below_drew1 | refine below_set ?_ GE183.out) | exact HB.out)) hb); clear HO_3; clear HO_4; clear BK183; clear HB; have HO_3 := n0_; have HO_4 := n1_; have BK183 := n2_; have HB := n3_; clear n0_ n1_ n2_ n3_; (try clear hb); (try clear hb2); (try clear hk); (try clear hi); have hcz39_0 : w38.cell? ⟨gb183, 0, none⟩ = some (.int .i32 ((rd_T65 t179 x5_1).f0)) := (blk_cell BK183.out 0).trans rfl; have hcz39_1 : w38.cell? ⟨gb183, 1, none⟩ = some (.int .i32 ((rd_T65 t179 x5_1).f1)) := (blk_cell BK183.out 1).trans rfl; have hcz39_2 : w38.cell? ⟨gb183, 2, none⟩ = some (.int .i32 ((rd_T65 t179 x5_1).f2)) := (blk_cell BK183.out 2).trans rfl; have hcz39_3 : w38.cell? ⟨gb183, 3, none⟩ = some (.int .i32 ((rd_T65 t179 x5_1).f3)) := (blk_cell BK183.out 3).trans rfl; have hcz39_4 : w38.cell? ⟨gb183, 4, none⟩ = some (.int .i32 ((rd_T65 t179 x5_1).f4)) := (blk_cell BK183.out 4).trans rfl; have hfz39_0 := blk_frozen BK183.out 0; have hfz39_1 := blk_frozen BK183.out 1; have hfz39_2 := blk_frozen BK183.out 2; have hfz39_3 := blk_frozen BK183.out 3; have hfz39_4 := blk_frozen BK183.out 4) | ((with_reducible refine gate_builtin (b := .append) (xs := #[.tmp 40, .tmp 45]) rfl ?_); at_builtin; refine Kd.R_append (Kd.int .i32) (w0 := w) w.heap.size rfl (.tmp 40) (.tmp 45) 32 21 (.int .i32 0) 4 rfl Tryd.underlying32 info21 rfl (by decide) (by omega) u3 x3_1 (wrap32 (a0 - ((rd_T65 t179 x5_1).f3))) [.int .i32 (wrap32 (a0 - ((rd_T65 t179 x5_1).f3)))] (fun _ => True) (fun _ => False) rfl rfl ?aP (fun _ hk => hk.elim) ?aF ?aO ?aB ?aS ?aL ?_; (case aP => exact rfl); (case aB => exact (by repeat (first | (with_reducible first | exact HB.out | apply below_alloc | apply pw_below_drewN | apply below_drew1 | refine below_set ?_ GE183.out) | exact HB.out))); (case aF => exact (fun _ _ => trivial)); (case aO => exact (XShort.rr HO_3.out)); (case aS => exact (below_size (by repeat (first | (with_reducible first | exact HB.out | apply below_alloc | apply pw_below_drewN | apply below_drew1 | refine below_set ?_ GE183.out) | exact HB.out)))); (case aL => have := LMc34.out; omega); intro v194 w40 ho hb hg hat; rw [← Ny193.out] at ho; have n0_ := Aside0.mk (Kd.R_over' (XShort.rr HO_4.out) (Kd.R_typed (XShort.rr HO_3.out)) (by decide) hg); have n1_ := Aside0.mk (blk_grown (g := gb183) (o := .cells #[.int .i32 ((rd_T65 t179 x5_1).f0), .int .i32 ((rd_T65 t179 x5_1).f1), .int .i32 ((rd_T65 t179 x5_1).f2), .int .i32 ((rd_T65 t179 x5_1).f3), .int .i32 ((rd_T65 t179 x5_1).f4)] 65 (0, 0)) (by (with_reducible repeat (first | refine blk_drewN ?_ _ | refine blk_drew ?_ | refine blk_alloc ?_ _)); exact BK183.out) hg (Kd.R_ne HO_3.out BK183.out (by decide))); have n2_ := Aside0.mk (hb); have n3_ := Aside0.mk (ho); clear HO_4; clear BK183; clear HB; clear HO_3; have HO_4 := n0_; have BK183 := n1_; have HB := n2_; have HO195 := n3_; clear n0_ n1_ n2_ n3_; clear ho hb hg hat))
           go_roundg kj5
           case measure => have := HK1.out; have := HJ5.out; omega
           case rel => exact ⟨(y193), (wrap64 (x5_1 + 1)), XShort.eqs, H', ⟨by have := HK1.out; have := HJ5.out; omega⟩, ⟨by (with_reducible repeat (first | apply Kd.R_alloc | apply Kd.R_drewN | apply Kd.R_drew)); exact HO195.out⟩, ⟨by (with_reducible repeat (first | apply Kd.R_alloc | apply Kd.R_drewN | apply Kd.R_drew)); exact Kd.R_mono HO_4.out (fun _ hk => trivial)⟩, ⟨by repeat (first | (with_reducible first | exact HB.out | apply below_alloc | apply pw_below_drewN | apply below_drew1 | refine below_set ?_ GE183.out) | exact HB.out)⟩⟩
          ·rw [if_neg c34] at H
           exact absurd H (by simp)
         ·replace c33 := Bool.eq_false_iff.mpr c33
          subst c33
          have H1 : (thistleref03_partners.l0 kj5 a0 x3_1 t179 (wrap64 (x5_1 + 1))) = some r := by rw [if_neg (show ¬ (false = true) by decide)] at H; exact H
          clear H
          have H := H1
          clear H1
          have H' := Aside0.mk H
          clear H
          have hcz41_0 : wc.cell? ⟨gb183, 0, none⟩ = some (.int .i32 ((rd_T65 t179 x5_1).f0)) := (blk_cell BK183.out 0).trans rfl
          have hcz41_1 : wc.cell? ⟨gb183, 1, none⟩ = some (.int .i32 ((rd_T65 t179 x5_1).f1)) := (blk_cell BK183.out 1).trans rfl
          have hcz41_2 : wc.cell? ⟨gb183, 2, none⟩ = some (.int .i32 ((rd_T65 t179 x5_1).f2)) := (blk_cell BK183.out 2).trans rfl
          have hcz41_3 : wc.cell? ⟨gb183, 3, none⟩ = some (.int .i32 ((rd_T65 t179 x5_1).f3)) := (blk_cell BK183.out 3).trans rfl
          have hcz41_4 : wc.cell? ⟨gb183, 4, none⟩ = some (.int .i32 ((rd_T65 t179 x5_1).f4)) := (blk_cell BK183.out 4).trans rfl
          have hfz41_0 := blk_frozen BK183.out 0
          have hfz41_1 := blk_frozen BK183.out 1
          have hfz41_2 := blk_frozen BK183.out 2
          have hfz41_3 := blk_frozen BK183.out 3
          have hfz41_4 := blk_frozen BK183.out 4
          go_wp2_with (first | ((with_reducible refine gate_callee (f := 40) rfl ?_); refine goesL_ (some 26) rfl rfl Tryd.func40 (by kernel_rfl) rfl #[.agg #[.int .i32 ((rd_T65 t179 x5_1).f0), .int .i32 ((rd_T65 t179 x5_1).f1), .int .i32 ((rd_T65 t179 x5_1).f2), .int .i32 ((rd_T65 t179 x5_1).f3), .int .i32 ((rd_T65 t179 x5_1).f4)], .int .i32 a0] rfl (by (try simp only [List.map_toArray, List.map_cons, List.map_nil]); first | done | rfl | (simp only [List.length_drop, List.length_take]; rfl)) ?_; (with_reducible refine (thistleref03_names.calls ((rd_T65 t179 x5_1).f0) ((rd_T65 t179 x5_1).f1) ((rd_T65 t179 x5_1).f2) ((rd_T65 t179 x5_1).f3) ((rd_T65 t179 x5_1).f4) a0 false _ A12.out).mono ?_); rintro e w42 ⟨rfl, hb⟩; refine ⟨_, rfl, ?_⟩; have n0_ := Aside0.mk (Kd.R_below (XShort.rr HO_3.out) hb); have n1_ := Aside0.mk (Kd.R_below (XShort.rr HO_4.out) hb); have n2_ := Aside0.mk (blk_below (g := gb183) (o := .cells #[.int .i32 ((rd_T65 t179 x5_1).f0), .int .i32 ((rd_T65 t179 x5_1).f1), .int .i32 ((rd_T65 t179 x5_1).f2), .int .i32 ((rd_T65 t179 x5_1).f3), .int .i32 ((rd_T65 t179 x5_1).f4)] 65 (0, 0)) (by (with_reducible repeat (first | refine blk_drewN ?_ _ | refine blk_drew ?_ | refine blk_alloc ?_ _)); exact BK183.out) hb); have n3_ := Aside0.mk (below_step (by repeat (first | (with_reducible first | exact HB.out | apply below_alloc | apply pw_below_drewN | apply below_drew1 | refine below_set ?_ GE183.out) | exact HB.out)) hb); clear HO_3; clear HO_4; clear BK183; clear HB; have HO_3 := n0_; have HO_4 := n1_; have BK183 := n2_; have HB := n3_; clear n0_ n1_ n2_ n3_; (try clear hb); (try clear hb2); (try clear hk); (try clear hi); have hcz43_0 : w42.cell? ⟨gb183, 0, none⟩ = some (.int .i32 ((rd_T65 t179 x5_1).f0)) := (blk_cell BK183.out 0).trans rfl; have hcz43_1 : w42.cell? ⟨gb183, 1, none⟩ = some (.int .i32 ((rd_T65 t179 x5_1).f1)) := (blk_cell BK183.out 1).trans rfl; have hcz43_2 : w42.cell? ⟨gb183, 2, none⟩ = some (.int .i32 ((rd_T65 t179 x5_1).f2)) := (blk_cell BK183.out 2).trans rfl; have hcz43_3 : w42.cell? ⟨gb183, 3, none⟩ = some (.int .i32 ((rd_T65 t179 x5_1).f3)) := (blk_cell BK183.out 3).trans rfl; have hcz43_4 : w42.cell? ⟨gb183, 4, none⟩ = some (.int .i32 ((rd_T65 t179 x5_1).f4)) := (blk_cell BK183.out 4).trans rfl; have hfz43_0 := blk_frozen BK183.out 0; have hfz43_1 := blk_frozen BK183.out 1; have hfz43_2 := blk_frozen BK183.out 2; have hfz43_3 := blk_frozen BK183.out 3; have hfz43_4 := blk_frozen BK183.out 4) | ((with_reducible refine gate_callee (f := 40) rfl ?_); refine goesL_ (some 39) rfl rfl Tryd.func40 (by kernel_rfl) rfl #[.agg #[.int .i32 ((rd_T65 t179 x5_1).f0), .int .i32 ((rd_T65 t179 x5_1).f1), .int .i32 ((rd_T65 t179 x5_1).f2), .int .i32 ((rd_T65 t179 x5_1).f3), .int .i32 ((rd_T65 t179 x5_1).f4)], .int .i32 (wrap32 (a0 - ((rd_T65 t179 x5_1).f3)))] rfl (by (try simp only [List.map_toArray, List.map_cons, List.map_nil]); first | done | rfl | (simp only [List.length_drop, List.length_take]; rfl)) ?_; (with_reducible refine (thistleref03_names.calls ((rd_T65 t179 x5_1).f0) ((rd_T65 t179 x5_1).f1) ((rd_T65 t179 x5_1).f2) ((rd_T65 t179 x5_1).f3) ((rd_T65 t179 x5_1).f4) (wrap32 (a0 - ((rd_T65 t179 x5_1).f3))) false _ A32.out).mono ?_); rintro e w44 ⟨rfl, hb⟩; refine ⟨_, rfl, ?_⟩; have n0_ := Aside0.mk (Kd.R_below (XShort.rr HO_3.out) hb); have n1_ := Aside0.mk (Kd.R_below (XShort.rr HO_4.out) hb); have n2_ := Aside0.mk (blk_below (g := gb183) (o := .cells #[.int .i32 ((rd_T65 t179 x5_1).f0), .int .i32 ((rd_T65 t179 x5_1).f1), .int .i32 ((rd_T65 t179 x5_1).f2), .int .i32 ((rd_T65 t179 x5_1).f3), .int .i32 ((rd_T65 t179 x5_1).f4)] 65 (0, 0)) (by (with_reducible repeat (first | refine blk_drewN ?_ _ | refine blk_drew ?_ | refine blk_alloc ?_ _)); exact BK183.out) hb); have n3_ := Aside0.mk (below_step (by repeat (first | (with_reducible first | exact HB.out | apply below_alloc | apply pw_below_drewN | apply below_drew1 | refine below_set ?_ GE183.out) | exact HB.out)) hb); clear HO_3; clear HO_4; clear BK183; clear HB; have HO_3 := n0_; have HO_4 := n1_; have BK183 := n2_; have HB := n3_; clear n0_ n1_ n2_ n3_; (try clear hb); (try clear hb2); (try clear hk); (try clear hi)))
          go_roundg kj5
          case measure => have := HK1.out; have := HJ5.out; omega
          case rel => exact ⟨(x3_1), (wrap64 (x5_1 + 1)), XShort.eqs, H', ⟨by have := HK1.out; have := HJ5.out; omega⟩, ⟨by (with_reducible repeat (first | apply Kd.R_alloc | apply Kd.R_drewN | apply Kd.R_drew)); exact HO_3.out⟩, ⟨by (with_reducible repeat (first | apply Kd.R_alloc | apply Kd.R_drewN | apply Kd.R_drew)); exact Kd.R_mono HO_4.out (fun _ hk => trivial)⟩, ⟨by repeat (first | (with_reducible first | exact HB.out | apply below_alloc | apply pw_below_drewN | apply below_drew1 | refine below_set ?_ GE183.out) | exact HB.out)⟩⟩
    ·rw [if_neg c5] at H
     exact absurd H (by simp)
   ·rw [if_neg c4] at H
    have c4b0 : decide (x5_1 < (t179.length : Int)) = false := decide_eq_false c4
    clear c4
    obtain rfl := Option.some.inj H
    obtain ⟨Ao45, co45, eo45⟩ := Kd.R_slice HO_4.out
    subst eo45
    go_wp2
    go_ret
    exact ⟨_, by first | rfl | (simp [errW_none, errW_some] <;> rfl) | (simp [*, errW_none, errW_some] <;> rfl), by (with_reducible repeat (first | apply Kd.R_alloc | apply Kd.R_drewN | apply Kd.R_drew)); exact HO_3.out, XShort.bel⟩

end Go.Proofs.YtcpjflgiimjfmaaDoor.XF
