/- Contracts and lemmas for the statement, put together by a program of this session (wip/tools/pack.py). -/
import Derived.Test.YtcfecoalljfoaaaDoorQS1
import Derived.Test.YtcfecoalljfoaaaDoorProg
import Derived.Below
import Derived.Deep.Draws
import Derived.Deep.AppendLies
import Derived.Maps.AppendAt
import Derived.OwnWalk
import Derived.Laws.BytesArg
import Derived.Laws.MakeOwn
import Derived.Laws.OwnMore
import Derived.Deep.OwnRows
import Derived.Tactics
import Derived.Lib.ConvBytes
import Derived.Laws.Slices
import Derived.WalkKit
import Derived.KernelRfl
import Derived.RowKit3
import Derived.Deep.LoopGhost
import Derived.Deep.QuietTactic
import Derived.BigQuiet
import Derived.WideLaws
import Derived.Deep.DeepCutAuto
import Derived.Deep.CutBlock
import Derived.Deep.RegionHeld3
import Derived.Laws.Rows
import Derived.Lib.AppendStr
import Derived.ArgAppend
import Derived.Laws.IdiomCopy
import Derived.RowKit
import Derived.MapKept
import Derived.Carry
import Derived.Laws.StructEq
import Derived.Laws.RangeAny
import Derived.OrdersHeld
import Derived.Laws.BitsLemmas
import Derived.Deep.RegionHeld
import Derived.Laws.Strings
import Derived.WalkSpells
import Derived.Shelf.Small.Bits
import Derived.Shelf.Strconv.Itoa0
import Derived.Shelf.Unicode.Decode
import Derived.Shelf.Unicode.DecodeSlow
import Derived.Shelf.Unicode.DecodeAny
import Derived.Shelf.SlSortCmp.WholeK
import Derived.Sort.OwnSorted
import GoSem.PinnedTables
namespace Go.Proofs.YtcfecoalljfoaaaDoor.XS
open Go.Proofs.YtcfecoalljfoaaaDoor.XShort (o i)
open Go.RowKit Go.Proofs.YtcfecoalljfoaaaDoorW.PrintWords Go.Proofs.YtcfecoalljfoaaaDoorW.PrintLast Go.Proofs.YtcfecoalljfoaaaDoorW.PrintMore
attribute [local go_sem] max2_int min2_int max_two min_two max_three min_three max_four min_four   -- for this text's walks alone
set_option linter.unusedVariables false
set_option linter.unusedSimpArgs false

/-! ### thistleref02_pieces: function 21 -/
mutual
def thistleref02_pieces.l0 : Nat → List (List (S30)) → List Int → List (S61) → Int → Option ((List (S61)))
 | 0, _, _, _, _ => none
 | k + 1, x0, x3, x4, x5 => if x5 < (x4.length : Int) then (if 0 ≤ x5 then (if x3.length < 17592186044416 then ((some (x3 ++ [(rd_T61 x4 x5).f0] : List Int)).bind fun y178 => (if y178.length < 17592186044416 then (thistleref02_pieces.l0 k x0 (y178 ++ [wrap64 (((rd_T61 x4 x5).f1) + 1)]) x4 (wrap64 (x5 + 1))) else (none))) else (none)) else (none)) else (thistleref02_pieces.l1 k x0 x3 0)
def thistleref02_pieces.l1 : Nat → List (List (S30)) → List Int → Int → Option ((List (S61)))
 | 0, _, _, _ => none
 | k + 1, x0, x3, x6 => if x6 < (x0.length : Int) then (thistleref02_pieces.l2 k x0 x3 x6 0) else ((thistleref02_sorted.f k x3).bind fun t196 => (thistleref02_pieces.l3 k t196 ([] : List (S61)) 0))
def thistleref02_pieces.l2 : Nat → List (List (S30)) → List Int → Int → Int → Option ((List (S61)))
 | 0, _, _, _, _ => none
 | k + 1, x0, x3, x6, x7 => if 0 ≤ x6 then (if x6 < (x0.length : Int) then (if x7 < ((rd_L6 x0 x6).length : Int) then (if 0 ≤ x7 then (if x3.length < 17592186044416 then ((some (x3 ++ [wrap64 ((rd_T30 (rd_L6 x0 x6) x7).f0)] : List Int)).bind fun y188 => (if y188.length < 17592186044416 then (thistleref02_pieces.l2 k x0 (y188 ++ [wrap64 ((wrap64 ((rd_T30 (rd_L6 x0 x6) x7).f1)) + 1)]) x6 (wrap64 (x7 + 1))) else (none))) else (none)) else (none)) else (thistleref02_pieces.l1 k x0 x3 (wrap64 (x6 + 1)))) else (none)) else (none)
def thistleref02_pieces.l3 : Nat → List Int → List (S61) → Int → Option ((List (S61)))
 | 0, _, _, _ => none
 | k + 1, x3, x8, x9 => if (wrap64 (x9 + 1)) < (x3.length : Int) then (if 0 ≤ x9 then (if x9 < (x3.length : Int) then (if (rd x3 x9) ≥ 0 then (if (rd x3 x9) ≤ 1114367 then ((thistleref02_block.f k (wrap32 (rd x3 x9))).bind fun t202 => (if t202 ≥ 0 then (if 0 ≤ (wrap64 (x9 + 1)) then (if x8.length < 8796093022208 then (thistleref02_pieces.l3 k x3 (x8 ++ [(⟨rd x3 x9, wrap64 ((rd x3 (wrap64 (x9 + 1))) - 1)⟩ : S61)]) (wrap64 (x9 + 1))) else (none)) else (none)) else (thistleref02_pieces.l3 k x3 x8 (wrap64 (x9 + 1))))) else (thistleref02_pieces.l3 k x3 x8 (wrap64 (x9 + 1)))) else (thistleref02_pieces.l3 k x3 x8 (wrap64 (x9 + 1)))) else (none)) else (none)) else (some x8)
end
def thistleref02_pieces.f (k : Nat) (l0 : List (List (S30))) : Option ((List (S61))) := (thistleref02_blocks.f).bind fun t174 => (thistleref02_pieces.l0 k l0 ([] : List Int) t174 0)
def thistleref02_pieces.T22 : Bool × List (List Nat × List Nat) := (true, [([], []), ([], []), ([], []), ([1, 2], [1, 2]), ([3], [3]), ([], []), ([], []), ([6], [6]), ([5, 7], [5, 7]), ([8], [8]), ([9], [9]), ([4, 10], [4, 10]), ([11], [11]), ([0, 12], [0, 12]), ([13, 13, 0, 1, 2, 3, 4, 5, 6, 7, 8, 9, 10, 11, 12, 13], [0, 13])])
def thistleref02_pieces.B22 : List Nat := [0, 0, 0, 6, 14, 0, 0, 64, 224, 480, 992, 2046, 4094, 8191, 16383]
theorem thistleref02_pieces.tab22 : rtab .any (opsOf Tryd.f21 22) = thistleref02_pieces.T22 := by kernel_rfl
theorem thistleref02_pieces.bits22 : waitsOk thistleref02_pieces.T22.2 thistleref02_pieces.B22 = true := by kernel_rfl
set_option maxHeartbeats 8000000 in
set_option maxRecDepth 100000 in
theorem thistleref02_pieces.calls (k : Nat) (A0 : Option Addr) (c0 : Nat) (l0 : List (List (S30))) (r : List (S61)) (w : World) (hr0 : Kd.C (Kd.slice 30 k30) w A0 l0.length l0) (hc0 : l0.length ≤ c0) (h : thistleref02_pieces.f k l0 = some r) :
  Calls Tryd.prog 21 #[.slice A0 l0.length c0] w fun e w' => ∃ v0_ : Value, e = .returned (v0_) ∧ Kd.R k61 61 w' w.heap.size (fun _ => True) v0_ r ∧ Below w.heap.size w w' := by
 have hu61 := Tryd.underlying61
 have HR0 := Aside0.mk hr0
 have HC0 := Aside0.mk hc0
 clear hr0 hc0
 have HB := Aside0.mk (Below.refl w.heap.size w)
 have H : ((thistleref02_blocks.f).bind fun t174 => (thistleref02_pieces.l0 k l0 ([] : List Int) t174 0)) = some r := h
 clear h
 replace H := Option.bind_eq_some_iff.mp H
 obtain ⟨t174, A20, H⟩ := H
 replace H : (thistleref02_pieces.l0 k l0 ([] : List Int) t174 0) = some r := H
 have A2 := Aside0.mk A20
 clear A20
 have H' := Aside0.mk H
 clear H
 go_enter Tryd.func21, Tryd.ntmps21
 go_wp2_with (first | ((with_reducible refine gate_callee (f := 36) rfl ?_); refine goesL_ (some 10) rfl rfl Tryd.func36 (by kernel_rfl) rfl #[] rfl (by (try simp only [List.map_toArray, List.map_cons, List.map_nil]); first | done | rfl | (simp only [List.length_drop, List.length_take]; rfl)) ?_; (with_reducible refine (thistleref02_blocks.calls  t174 _ A2.out).mono ?_); rintro e w3 ⟨v175, rfl, ho0, hb⟩; refine ⟨_, rfl, ?_⟩; have n0_ := Aside0.mk (Kd.R_lower ho0 (below_size XShort.bel)); have n1_ := Aside0.mk (below_step XShort.bel hb); clear HB; have HO176 := n0_; have HB := n1_; clear n0_ n1_; (try clear hb); (try clear hb2); (try clear hk); (try clear hi); (try clear ho0)))
 go_loopg [3, 5] k (fun kq v3 v5 w' => ∃ (x3_1 : List Int) (x5_1 : Int), v5 = .int .i64 x5_1 ∧ Aside0 (thistleref02_pieces.l0 kq l0 x3_1 t174 x5_1 = some r) ∧ Aside0 (kq ≤ k) ∧ Aside0 (Kd.R (Kd.int .i64) 3 w' w.heap.size (fun _ => True) v3 x3_1) ∧ Aside0 (Kd.R k61 61 w' w.heap.size (fun _ => True) v175 t174) ∧ Aside0 (Below w.heap.size w w'))
 case atStart => exact ⟨(([] : List Int)), (0), XShort.eqs, H', ⟨Nat.le_refl _⟩, ⟨by first | exact Kd.R_nil _ _ _ _ _ | exact Kd.N_nil _ _ _ _ _ | exact Kd.V_nil _ _ _ _ _ | exact Kd.Q_nil _ _ _ _ _ | exact Kd.S_nil _ _ _ _ _⟩, ⟨by (with_reducible repeat (first | apply Kd.R_alloc | apply Kd.R_drewN | apply Kd.R_drew)); exact HO176.out⟩, ⟨XShort.bel⟩⟩
 case round =>
  clear H'
  try clear c2
  try clear p2
  try clear c3
  obtain ⟨x3_1, x5_1, rfl, HA, HK1, HO_3, HO_4, HB⟩ := hrel
  cases gk with
  | zero => exact absurd HA.out (by simp [thistleref02_pieces.l0])
  | succ k1 =>
   have H := HA.out
   clear HA
   simp only [thistleref02_pieces.l0] at H
   by_cases c4 : x5_1 < (t174.length : Int)
   ·rw [if_pos c4] at H
    have c4b0 : decide (x5_1 < (t174.length : Int)) = true := decide_eq_true c4
    clear c4
    by_cases c5 : 0 ≤ x5_1
    ·rw [if_pos c5] at H
     have c5b0 : decide (0 ≤ x5_1) = true := decide_eq_true c5
     clear c5
     by_cases c6 : x3_1.length < 17592186044416
     ·rw [if_pos c6] at H
      have LMc6 := Aside0.mk c6
      clear c6
      obtain ⟨y178, hy178⟩ : ∃ y_ : List Int, y_ = (x3_1 ++ [(rd_T61 t174 x5_1).f0]) := ⟨_, rfl⟩
      replace H : (if y178.length < 17592186044416 then (thistleref02_pieces.l0 k1 l0 (y178 ++ [wrap64 (((rd_T61 t174 x5_1).f1) + 1)]) t174 (wrap64 (x5_1 + 1))) else (none)) = some r := by first | (rw [hy178]; with_reducible exact H) | (have H2_ := (Option.bind_some _ _).symm.trans H; rw [hy178]; with_reducible exact H2_) | (have H2_ := (Option.bind_some _ _).symm.trans H; with_reducible exact H2_) | with_reducible exact H | (rw [hy178]; exact H) | exact H
      have Ny178 := Aside0.mk hy178
      clear hy178
      by_cases c7 : y178.length < 17592186044416
      ·rw [if_pos c7] at H
       have LMc7 := Aside0.mk c7
       clear c7
       obtain ⟨y182, hy182⟩ : ∃ y_ : List Int, y_ = (y178 ++ [wrap64 (((rd_T61 t174 x5_1).f1) + 1)]) := ⟨_, rfl⟩
       replace H : (thistleref02_pieces.l0 k1 l0 y182 t174 (wrap64 (x5_1 + 1))) = some r := by first | (rw [hy182]; with_reducible exact H) | (have H2_ := (Option.bind_some _ _).symm.trans H; rw [hy182]; with_reducible exact H2_) | (have H2_ := (Option.bind_some _ _).symm.trans H; with_reducible exact H2_) | with_reducible exact H | (rw [hy182]; exact H) | exact H
       have Ny182 := Aside0.mk hy182
       clear hy182
       have H' := Aside0.mk H
       clear H
       obtain ⟨Ao8, co8, eo8⟩ := Kd.R_slice HO_4.out
       subst eo8
       have p177 : 0 ≤ (x5_1 : Int) := of_decide_eq_true XShort.asm
       have q177 : x5_1 < (t174.length : Int) := of_decide_eq_true XShort.asm
       obtain ⟨ad177, e177, hx177_0, hx177_1⟩ := at_T61 (Kd.R_reads' HO_4.out).2.2 x5_1 p177 q177
       cases e177
       replace p177 := eq_true p177
       replace q177 := eq_true q177
       go_wp2_with (first | ((with_reducible refine gate_builtin (b := .append) (xs := #[.tmp 17, .tmp 23]) rfl ?_); at_builtin; refine Kd.R_append (Kd.int .i64) (w0 := w) w.heap.size rfl (.tmp 17) (.tmp 23) 77 3 (.int .i64 0) 8 rfl Tryd.underlying77 info3 rfl (by decide) (by omega) u3 x3_1 ((rd_T61 t174 x5_1).f0) [.int .i64 ((rd_T61 t174 x5_1).f0)] (fun _ => True) (fun _ => False) rfl rfl ?aP (fun _ hk => hk.elim) ?aF ?aO ?aB ?aS ?aL ?_; (case aP => exact rfl); (case aB => exact XShort.bel); (case aF => exact (fun _ _ => trivial)); (case aO => exact (XShort.rr HO_3.out)); (case aS => exact (below_size XShort.bel)); (case aL => have := LMc6.out; omega); intro v179 w9 ho hb hg hat; rw [← Ny178.out] at ho; have n0_ := Aside0.mk (Kd.R_over' (XShort.rr HO_4.out) (Kd.R_typed (XShort.rr HO_3.out)) (by decide) hg); have n1_ := Aside0.mk (hb); have n2_ := Aside0.mk (ho); clear HO_4; clear HB; clear HO_3; have HO_4 := n0_; have HB := n1_; have HO180 := n2_; clear n0_ n1_ n2_; clear ho hb hg hat; have p181 : 0 ≤ (x5_1 : Int) := of_decide_eq_true XShort.asm; have q181 : x5_1 < (t174.length : Int) := of_decide_eq_true XShort.asm; obtain ⟨ad181, e181, hx181_0, hx181_1⟩ := at_T61 (Kd.R_reads' HO_4.out).2.2 x5_1 p181 q181; obtain rfl : ad177 = ad181 := (by injection e181); replace p181 := eq_true p181; replace q181 := eq_true q181) | ((with_reducible refine gate_builtin (b := .append) (xs := #[.tmp 25, .tmp 32]) rfl ?_); at_builtin; refine Kd.R_append (Kd.int .i64) (w0 := w) w.heap.size rfl (.tmp 25) (.tmp 32) 77 3 (.int .i64 0) 8 rfl Tryd.underlying77 info3 rfl (by decide) (by omega) v179 y178 (wrap64 (((rd_T61 t174 x5_1).f1) + 1)) [.int .i64 (wrap64 (((rd_T61 t174 x5_1).f1) + 1))] (fun _ => True) (fun _ => False) rfl rfl ?aP (fun _ hk => hk.elim) ?aF ?aO ?aB ?aS ?aL ?_; (case aP => exact rfl); (case aB => exact XShort.bel); (case aF => exact (fun _ _ => trivial)); (case aO => exact (XShort.rr HO180.out)); (case aS => exact (below_size XShort.bel)); (case aL => have := LMc7.out; omega); intro v183 w10 ho hb hg hat; rw [← Ny182.out] at ho; have n0_ := Aside0.mk (Kd.R_over' (XShort.rr HO_4.out) (Kd.R_typed (XShort.rr HO180.out)) (by decide) hg); have n1_ := Aside0.mk (hb); have n2_ := Aside0.mk (ho); clear HO_4; clear HB; clear HO180; have HO_4 := n0_; have HB := n1_; have HO184 := n2_; clear n0_ n1_ n2_; clear ho hb hg hat))
       go_roundg k1
       case measure => have := HK1.out; omega
       case rel => exact ⟨(y182), (wrap64 (x5_1 + 1)), XShort.eqs, H', ⟨by have := HK1.out; omega⟩, ⟨by (with_reducible repeat (first | apply Kd.R_alloc | apply Kd.R_drewN | apply Kd.R_drew)); exact HO184.out⟩, ⟨by (with_reducible repeat (first | apply Kd.R_alloc | apply Kd.R_drewN | apply Kd.R_drew)); exact HO_4.out⟩, ⟨XShort.bel⟩⟩
      ·rw [if_neg c7] at H
       exact absurd H (by simp)
     ·rw [if_neg c6] at H
      exact absurd H (by simp)
    ·rw [if_neg c5] at H
     exact absurd H (by simp)
   ·rw [if_neg c4] at H
    have c4b0 : decide (x5_1 < (t174.length : Int)) = false := decide_eq_false c4
    clear c4
    have H' := Aside0.mk H
    clear H
    obtain ⟨Ao11, co11, eo11⟩ := Kd.R_slice HO_4.out
    subst eo11
    go_wp2
    go_loopg [3, 6] k1 (fun kq v3 v6 w' => ∃ (x3_2 : List Int) (x6_2 : Int), v6 = .int .i64 x6_2 ∧ Aside0 (thistleref02_pieces.l1 kq l0 x3_2 x6_2 = some r) ∧ Aside0 (kq ≤ k1) ∧ Aside0 (Kd.R (Kd.int .i64) 3 w' w.heap.size (fun _ => True) v3 x3_2) ∧ Aside0 (Below w.heap.size w w'))
    case atStart => exact ⟨(x3_1), (0), XShort.eqs, H', ⟨Nat.le_refl _⟩, ⟨by (with_reducible repeat (first | apply Kd.R_alloc | apply Kd.R_drewN | apply Kd.R_drew)); exact HO_3.out⟩, ⟨XShort.bel⟩⟩
    case round =>
     clear H'
     try clear p1
     try clear q1
     try clear hx1
     try clear c2
     try clear p2
     try clear c3
     try clear c4
     try clear c4b0
     try clear c5
     try clear c5b0
     try clear c6
     try clear p6
     try clear c7
     try clear hx177_0
     try clear hx177_1
     try clear hx181_0
     try clear hx181_1
     try clear p177
     try clear p181
     try clear p2
     try clear q177
     try clear q181
     obtain ⟨x3_2, x6_2, rfl, HA, HK2, HO_3, HB⟩ := hrel
     cases gk with
     | zero => exact absurd HA.out (by simp [thistleref02_pieces.l1])
     | succ k2 =>
      have H := HA.out
      clear HA
      simp only [thistleref02_pieces.l1] at H
      by_cases c12 : x6_2 < (l0.length : Int)
      ·rw [if_pos c12] at H
       have c12b0 : decide (x6_2 < (l0.length : Int)) = true := decide_eq_true c12
       clear c12
       have H' := Aside0.mk H
       clear H
       go_wp2
       go_loopg [3, 7] k2 (fun kq v3 v7 w' => ∃ (x3_3 : List Int) (x7_3 : Int), v7 = .int .i64 x7_3 ∧ Aside0 (thistleref02_pieces.l2 kq l0 x3_3 x6_2 x7_3 = some r) ∧ Aside0 (kq ≤ k2) ∧ Aside0 (Kd.R (Kd.int .i64) 3 w' w.heap.size (fun _ => True) v3 x3_3) ∧ Aside0 (Below w.heap.size w w'))
       case atStart => exact ⟨(x3_2), (0), XShort.eqs, H', ⟨Nat.le_refl _⟩, ⟨by (with_reducible repeat (first | apply Kd.R_alloc | apply Kd.R_drewN | apply Kd.R_drew)); exact HO_3.out⟩, ⟨XShort.bel⟩⟩
       case round =>
        clear H'
        try clear c1
        try clear p1
        try clear q1
        try clear hx1
        try clear c2
        try clear p2
        try clear c3
        try clear c4
        try clear c4b0
        try clear c5
        try clear c5b0
        try clear c6
        try clear p6
        try clear c7
        try clear c12
        try clear c12b0
        try clear hx177_0
        try clear hx177_1
        try clear hx181_0
        try clear hx181_1
        try clear p1
        try clear p177
        try clear p181
        try clear p2
        try clear p6
        try clear q1
        try clear q177
        try clear q181
        obtain ⟨x3_3, x7_3, rfl, HA, HK3, HO_3, HB⟩ := hrel
        cases gk with
        | zero => exact absurd HA.out (by simp [thistleref02_pieces.l2])
        | succ k3 =>
         have H := HA.out
         clear HA
         simp only [thistleref02_pieces.l2] at H
         by_cases c13 : 0 ≤ x6_2
         ·rw [if_pos c13] at H
          have c13b0 : decide (0 ≤ x6_2) = true := decide_eq_true c13
          clear c13
          by_cases c14 : x6_2 < (l0.length : Int)
          ·rw [if_pos c14] at H
           have c14b0 : decide (x6_2 < (l0.length : Int)) = true := decide_eq_true c14
           clear c14
           by_cases c15 : x7_3 < ((rd_L6 l0 x6_2).length : Int)
           ·rw [if_pos c15] at H
            have c15b0 : decide (x7_3 < ((rd_L6 l0 x6_2).length : Int)) = true := decide_eq_true c15
            clear c15
            by_cases c16 : 0 ≤ x7_3
            ·rw [if_pos c16] at H
             have c16b0 : decide (0 ≤ x7_3) = true := decide_eq_true c16
             clear c16
             by_cases c17 : x3_3.length < 17592186044416
             ·rw [if_pos c17] at H
              have LMc17 := Aside0.mk c17
              clear c17
              obtain ⟨y188, hy188⟩ : ∃ y_ : List Int, y_ = (x3_3 ++ [wrap64 ((rd_T30 (rd_L6 l0 x6_2) x7_3).f0)]) := ⟨_, rfl⟩
              replace H : (if y188.length < 17592186044416 then (thistleref02_pieces.l2 k3 l0 (y188 ++ [wrap64 ((wrap64 ((rd_T30 (rd_L6 l0 x6_2) x7_3).f1)) + 1)]) x6_2 (wrap64 (x7_3 + 1))) else (none)) = some r := by first | (rw [hy188]; with_reducible exact H) | (have H2_ := (Option.bind_some _ _).symm.trans H; rw [hy188]; with_reducible exact H2_) | (have H2_ := (Option.bind_some _ _).symm.trans H; with_reducible exact H2_) | with_reducible exact H | (rw [hy188]; exact H) | exact H
              have Ny188 := Aside0.mk hy188
              clear hy188
              by_cases c18 : y188.length < 17592186044416
              ·rw [if_pos c18] at H
               have LMc18 := Aside0.mk c18
               clear c18
               obtain ⟨y193, hy193⟩ : ∃ y_ : List Int, y_ = (y188 ++ [wrap64 ((wrap64 ((rd_T30 (rd_L6 l0 x6_2) x7_3).f1)) + 1)]) := ⟨_, rfl⟩
               replace H : (thistleref02_pieces.l2 k3 l0 y193 x6_2 (wrap64 (x7_3 + 1))) = some r := by first | (rw [hy193]; with_reducible exact H) | (have H2_ := (Option.bind_some _ _).symm.trans H; rw [hy193]; with_reducible exact H2_) | (have H2_ := (Option.bind_some _ _).symm.trans H; with_reducible exact H2_) | with_reducible exact H | (rw [hy193]; exact H) | exact H
               have Ny193 := Aside0.mk hy193
               clear hy193
               have H' := Aside0.mk H
               clear H
               have p185 : 0 ≤ (x6_2 : Int) := of_decide_eq_true XShort.asm
               have q185 : x6_2 < (l0.length : Int) := of_decide_eq_true XShort.asm
               obtain ⟨ad185, A185_0, c185_0, e185, hx185_0, hl185_0, hi185_0⟩ := at_L6 HR0.out x6_2 p185 q185
               cases e185
               replace hx185_0 := (HB.out.cell (World.block_lt_of_cell? w _ hx185_0)).trans hx185_0
               have HR185_0 := Aside0.mk hi185_0
               have HC185_0 := Aside0.mk hl185_0
               clear hi185_0 hl185_0
               replace p185 := eq_true p185
               replace q185 := eq_true q185
               have p186 : 0 ≤ (x6_2 : Int) := of_decide_eq_true XShort.asm
               have q186 : x6_2 < (l0.length : Int) := of_decide_eq_true XShort.asm
               obtain ⟨ad186, A186_0, c186_0, e186, hx186_0, hl186_0, hi186_0⟩ := at_L6 HR0.out x6_2 p186 q186
               obtain rfl : ad185 = ad186 := (by injection e186)
               replace hx186_0 := (HB.out.cell (World.block_lt_of_cell? w _ hx186_0)).trans hx186_0
               have HR186_0 := Aside0.mk hi186_0
               have HC186_0 := Aside0.mk hl186_0
               clear hi186_0 hl186_0
               replace p186 := eq_true p186
               replace q186 := eq_true q186
               have ea_ := Option.some.inj (hx185_0.symm.trans hx186_0)
               injection ea_ with ea_ en_ ec_
               subst ea_
               subst ec_
               clear en_
               have p187 : 0 ≤ (x7_3 : Int) := of_decide_eq_true XShort.asm
               have q187 : x7_3 < ((rd_L6 l0 x6_2).length : Int) := of_decide_eq_true XShort.asm
               obtain ⟨ad187, e187, hx187_0, hx187_1⟩ := at_T30 HR186_0.out x7_3 p187 q187
               cases e187
               replace hx187_0 := (HB.out.cell (World.block_lt_of_cell? w _ hx187_0)).trans hx187_0
               replace hx187_1 := (HB.out.cell (World.block_lt_of_cell? w _ hx187_1)).trans hx187_1
               replace p187 := eq_true p187
               replace q187 := eq_true q187
               go_wp2_with (first | ((with_reducible refine gate_builtin (b := .append) (xs := #[.tmp 49, .tmp 59]) rfl ?_); at_builtin; refine Kd.R_append (Kd.int .i64) (w0 := w) w.heap.size rfl (.tmp 49) (.tmp 59) 77 3 (.int .i64 0) 8 rfl Tryd.underlying77 info3 rfl (by decide) (by omega) u3 x3_3 (wrap64 ((rd_T30 (rd_L6 l0 x6_2) x7_3).f0)) [.int .i64 (wrap64 ((rd_T30 (rd_L6 l0 x6_2) x7_3).f0))] (fun _ => True) (fun _ => False) rfl rfl ?aP (fun _ hk => hk.elim) ?aF ?aO ?aB ?aS ?aL ?_; (case aP => exact rfl); (case aB => exact XShort.bel); (case aF => exact (fun _ _ => trivial)); (case aO => exact (XShort.rr HO_3.out)); (case aS => exact (below_size XShort.bel)); (case aL => have := LMc17.out; omega); intro v189 w19 ho hb hg hat; rw [← Ny188.out] at ho; have n0_ := Aside0.mk (hb); have n1_ := Aside0.mk (ho); clear HB; clear HO_3; have HB := n0_; have HO190 := n1_; clear n0_ n1_; clear ho hb hg hat; have p191 : 0 ≤ (x6_2 : Int) := of_decide_eq_true XShort.asm; have q191 : x6_2 < (l0.length : Int) := of_decide_eq_true XShort.asm; obtain ⟨ad191, A191_0, c191_0, e191, hx191_0, hl191_0, hi191_0⟩ := at_L6 HR0.out x6_2 p191 q191; obtain rfl : ad185 = ad191 := (by injection e191); replace hx191_0 := (HB.out.cell (World.block_lt_of_cell? w _ hx191_0)).trans hx191_0; have HR191_0 := Aside0.mk hi191_0; have HC191_0 := Aside0.mk hl191_0; clear hi191_0 hl191_0; replace p191 := eq_true p191; replace q191 := eq_true q191; have p192 : 0 ≤ (x7_3 : Int) := of_decide_eq_true XShort.asm; have q192 : x7_3 < ((rd_L6 l0 x6_2).length : Int) := of_decide_eq_true XShort.asm; obtain ⟨ad192, e192, hx192_0, hx192_1⟩ := at_T30 HR191_0.out x7_3 p192 q192; cases e192; replace hx192_0 := (HB.out.cell (World.block_lt_of_cell? w _ hx192_0)).trans hx192_0; replace hx192_1 := (HB.out.cell (World.block_lt_of_cell? w _ hx192_1)).trans hx192_1; replace p192 := eq_true p192; replace q192 := eq_true q192) | ((with_reducible refine gate_builtin (b := .append) (xs := #[.tmp 61, .tmp 72]) rfl ?_); at_builtin; refine Kd.R_append (Kd.int .i64) (w0 := w) w.heap.size rfl (.tmp 61) (.tmp 72) 77 3 (.int .i64 0) 8 rfl Tryd.underlying77 info3 rfl (by decide) (by omega) v189 y188 (wrap64 ((wrap64 ((rd_T30 (rd_L6 l0 x6_2) x7_3).f1)) + 1)) [.int .i64 (wrap64 ((wrap64 ((rd_T30 (rd_L6 l0 x6_2) x7_3).f1)) + 1))] (fun _ => True) (fun _ => False) rfl rfl ?aP (fun _ hk => hk.elim) ?aF ?aO ?aB ?aS ?aL ?_; (case aP => exact rfl); (case aB => exact XShort.bel); (case aF => exact (fun _ _ => trivial)); (case aO => exact (XShort.rr HO190.out)); (case aS => exact (below_size XShort.bel)); (case aL => have := LMc18.out; omega); intro v194 w20 ho hb hg hat; rw [← Ny193.out] at ho; have n0_ := Aside0.mk (hb); have n1_ := Aside0.mk (ho); clear HB; clear HO190; have HB := n0_; have HO195 := n1_; clear n0_ n1_; clear ho hb hg hat))
               go_roundg k3
               case measure => have := HK1.out; have := HK2.out; have := HK3.out; omega
               case rel => exact ⟨(y193), (wrap64 (x7_3 + 1)), XShort.eqs, H', ⟨by have := HK1.out; have := HK2.out; have := HK3.out; omega⟩, ⟨by (with_reducible repeat (first | apply Kd.R_alloc | apply Kd.R_drewN | apply Kd.R_drew)); exact HO195.out⟩, ⟨XShort.bel⟩⟩
              ·rw [if_neg c18] at H
               exact absurd H (by simp)
             ·rw [if_neg c17] at H
              exact absurd H (by simp)
            ·rw [if_neg c16] at H
             exact absurd H (by simp)
           ·rw [if_neg c15] at H
            have c15b0 : decide (x7_3 < ((rd_L6 l0 x6_2).length : Int)) = false := decide_eq_false c15
            clear c15
            have H' := Aside0.mk H
            clear H
            have p185 : 0 ≤ (x6_2 : Int) := of_decide_eq_true XShort.asm
            have q185 : x6_2 < (l0.length : Int) := of_decide_eq_true XShort.asm
            obtain ⟨ad185, A185_0, c185_0, e185, hx185_0, hl185_0, hi185_0⟩ := at_L6 HR0.out x6_2 p185 q185
            cases e185
            replace hx185_0 := (HB.out.cell (World.block_lt_of_cell? w _ hx185_0)).trans hx185_0
            have HR185_0 := Aside0.mk hi185_0
            have HC185_0 := Aside0.mk hl185_0
            clear hi185_0 hl185_0
            replace p185 := eq_true p185
            replace q185 := eq_true q185
            go_wp2
            go_roundg k3
            case measure => have := HK1.out; have := HK2.out; have := HK3.out; omega
            case rel => exact ⟨(x3_3), (wrap64 (x6_2 + 1)), XShort.eqs, H', ⟨by have := HK1.out; have := HK2.out; have := HK3.out; omega⟩, ⟨by (with_reducible repeat (first | apply Kd.R_alloc | apply Kd.R_drewN | apply Kd.R_drew)); exact HO_3.out⟩, ⟨XShort.bel⟩⟩
          ·rw [if_neg c14] at H
           exact absurd H (by simp)
         ·rw [if_neg c13] at H
          exact absurd H (by simp)
      ·rw [if_neg c12] at H
       have c12b0 : decide (x6_2 < (l0.length : Int)) = false := decide_eq_false c12
       clear c12
       replace H := Option.bind_eq_some_iff.mp H
       obtain ⟨t196, A210, H⟩ := H
       replace H : (thistleref02_pieces.l3 k2 t196 ([] : List (S61)) 0) = some r := H
       have A21 := Aside0.mk A210
       clear A210
       have H' := Aside0.mk H
       clear H
       obtain ⟨Ao22, co22, eo22⟩ := Kd.R_slice HO_3.out
       subst eo22
       go_wp2_with (first | ((with_reducible refine gate_callee (f := 37) rfl ?_); refine goesL_ (some 75) rfl rfl Tryd.func37 (by kernel_rfl) rfl #[.slice Ao22 x3_2.length co22] rfl (by (try simp only [List.map_toArray, List.map_cons, List.map_nil]); first | done | rfl | (simp only [List.length_drop, List.length_take]; rfl)) ?_; (with_reducible refine (thistleref02_sorted.calls k2 _ _ x3_2 t196 _ ?side1 ?side2 A21.out).mono ?_); (case side1 => repeat (first | exact (Kd.R_reads' HO_3.out).2.2 | (with_reducible refine Kd.C_alloc ?_ _) | (with_reducible refine Kd.C_drewN ?_ _) | (with_reducible refine Kd.C_drew ?_))); (case side2 => exact (Kd.R_reads' HO_3.out).2.1); rintro e w23 ⟨v197, rfl, ho0, hb⟩; refine ⟨_, rfl, ?_⟩; have n0_ := Aside0.mk (Kd.R_elder' (XShort.rr HO_3.out) (Kd.R_base ho0) hb); have n1_ := Aside0.mk (Kd.R_lower (Kd.R_new' ho0 (Kd.R_lt (XShort.rr HO_3.out))) (below_size XShort.bel)); have n2_ := Aside0.mk (below_step XShort.bel hb); clear HO_3; clear HB; have HO_3 := n0_; have HO198 := n1_; have HB := n2_; clear n0_ n1_ n2_; (try clear hb); (try clear hb2); (try clear hk); (try clear hi); (try clear ho0)))
       go_loopg [8, 9] k2 (fun kq v8 v9 w' => ∃ (x8_3 : List (S61)) (x9_3 : Int), v9 = .int .i64 x9_3 ∧ Aside0 (thistleref02_pieces.l3 kq t196 x8_3 x9_3 = some r) ∧ Aside0 (kq ≤ k2) ∧ Aside0 (Kd.R (Kd.int .i64) 3 w' w.heap.size (fun _ => True) v197 t196) ∧ Aside0 (Kd.R k61 61 w' w.heap.size (fun _ => True) v8 x8_3) ∧ Aside0 (Below w.heap.size w w'))
       case atStart => exact ⟨(([] : List (S61))), (0), XShort.eqs, H', ⟨Nat.le_refl _⟩, ⟨by (with_reducible repeat (first | apply Kd.R_alloc | apply Kd.R_drewN | apply Kd.R_drew)); exact Kd.R_mono HO198.out (fun _ hk => trivial)⟩, ⟨by first | exact Kd.R_nil _ _ _ _ _ | exact Kd.N_nil _ _ _ _ _ | exact Kd.V_nil _ _ _ _ _ | exact Kd.Q_nil _ _ _ _ _ | exact Kd.S_nil _ _ _ _ _⟩, ⟨XShort.bel⟩⟩
       case round =>
        clear H'
        try clear c1
        try clear p1
        try clear q1
        try clear hx1
        try clear c2
        try clear p2
        try clear c3
        try clear c4
        try clear c4b0
        try clear c5
        try clear c5b0
        try clear c6
        try clear p6
        try clear c7
        try clear c12
        try clear c12b0
        try clear c13
        try clear c13b0
        try clear c14
        try clear c14b0
        try clear c15
        try clear c15b0
        try clear c16
        try clear c16b0
        try clear c17
        try clear p17
        try clear q17
        try clear hx17
        try clear c18
        try clear p18
        try clear q18
        try clear hx18
        try clear c19
        try clear p19
        try clear q19
        try clear hx19
        try clear c21
        try clear hx177_0
        try clear hx177_1
        try clear hx181_0
        try clear hx181_1
        try clear hx185_0
        try clear hx186_0
        try clear hx187_0
        try clear hx187_1
        try clear hx191_0
        try clear hx192_0
        try clear hx192_1
        try clear p1
        try clear p177
        try clear p181
        try clear p185
        try clear p186
        try clear p187
        try clear p191
        try clear p192
        try clear p2
        try clear p6
        try clear q1
        try clear q177
        try clear q181
        try clear q185
        try clear q186
        try clear q187
        try clear q191
        try clear q192
        obtain ⟨x8_3, x9_3, rfl, HA, HK3, HO_3, HO_8, HB⟩ := hrel
        cases gk with
        | zero => exact absurd HA.out (by simp [thistleref02_pieces.l3])
        | succ k3 =>
         have H := HA.out
         clear HA
         simp only [thistleref02_pieces.l3] at H
         by_cases c24 : (wrap64 (x9_3 + 1)) < (t196.length : Int)
         ·rw [if_pos c24] at H
          have c24b0 : decide ((wrap64 (x9_3 + 1)) < (t196.length : Int)) = true := decide_eq_true c24
          clear c24
          by_cases c25 : 0 ≤ x9_3
          ·rw [if_pos c25] at H
           have c25b0 : decide (0 ≤ x9_3) = true := decide_eq_true c25
           clear c25
           by_cases c26 : x9_3 < (t196.length : Int)
           ·rw [if_pos c26] at H
            have c26b0 : decide (x9_3 < (t196.length : Int)) = true := decide_eq_true c26
            clear c26
            by_cases c27 : (rd t196 x9_3) ≥ 0
            ·rw [if_pos c27] at H
             have c27b0 : decide (0 ≤ (rd t196 x9_3)) = true := decide_eq_true c27
             clear c27
             by_cases c28 : (rd t196 x9_3) ≤ 1114367
             ·rw [if_pos c28] at H
              have c28b0 : decide ((rd t196 x9_3) ≤ 1114367) = true := decide_eq_true c28
              clear c28
              replace H := Option.bind_eq_some_iff.mp H
              obtain ⟨t202, A290, H⟩ := H
              replace H : (if t202 ≥ 0 then (if 0 ≤ (wrap64 (x9_3 + 1)) then (if x8_3.length < 8796093022208 then (thistleref02_pieces.l3 k3 t196 (x8_3 ++ [(⟨rd t196 x9_3, wrap64 ((rd t196 (wrap64 (x9_3 + 1))) - 1)⟩ : S61)]) (wrap64 (x9_3 + 1))) else (none)) else (none)) else (thistleref02_pieces.l3 k3 t196 x8_3 (wrap64 (x9_3 + 1)))) = some r := H
              have A29 := Aside0.mk A290
              clear A290
              by_cases c30 : t202 ≥ 0
              ·rw [if_pos c30] at H
               have c30b0 : decide (0 ≤ t202) = true := decide_eq_true c30
               clear c30
               obtain ⟨ji31, hji31⟩ : ∃ j_ : Int, (wrap64 (x9_3 + 1)) = j_ := ⟨_, rfl⟩
               replace H : (if 0 ≤ (ji31) then (if x8_3.length < 8796093022208 then (thistleref02_pieces.l3 k3 t196 (x8_3 ++ [(⟨rd t196 x9_3, wrap64 ((rd t196 (ji31)) - 1)⟩ : S61)]) ji31) else (none)) else (none)) = some r := by first | (rw [hji31] at H; exact H) | (simp only [hji31] at H ⊢; exact H)
               (try rw [hji31] at c24b0)
               (try rw [hji31] at A29)
               have hji31w : (IntKind.i64.wrap (x9_3 + 1)) = ji31 := (i64_w _).trans hji31
               by_cases c32 : 0 ≤ (ji31)
               ·rw [if_pos c32] at H
                have c32b0 : decide (0 ≤ (ji31)) = true := decide_eq_true c32
                clear c32
                by_cases c33 : x8_3.length < 8796093022208
                ·rw [if_pos c33] at H
                 have LMc33 := Aside0.mk c33
                 clear c33
                 obtain ⟨y205, hy205⟩ : ∃ y_ : List (S61), y_ = (x8_3 ++ [(⟨rd t196 x9_3, wrap64 ((rd t196 (ji31)) - 1)⟩ : S61)]) := ⟨_, rfl⟩
                 replace H : (thistleref02_pieces.l3 k3 t196 y205 ji31) = some r := by first | (rw [hy205]; with_reducible exact H) | (have H2_ := (Option.bind_some _ _).symm.trans H; rw [hy205]; with_reducible exact H2_) | (have H2_ := (Option.bind_some _ _).symm.trans H; with_reducible exact H2_) | with_reducible exact H | (rw [hy205]; exact H) | exact H
                 have Ny205 := Aside0.mk hy205
                 clear hy205
                 have H' := Aside0.mk H
                 clear H
                 obtain ⟨Ao34, co34, eo34⟩ := Kd.R_slice HO_3.out
                 subst eo34
                 have p199 : 0 ≤ (x9_3 : Int) := of_decide_eq_true XShort.asm
                 have q199 : x9_3 < (t196.length : Int) := of_decide_eq_true XShort.asm
                 obtain ⟨ad199, e199, hx199_0⟩ := Kd.at_int (Kd.R_reads' HO_3.out).2.2 x9_3 p199 q199
                 cases e199
                 replace p199 := eq_true p199
                 replace q199 := eq_true q199
                 have p200 : 0 ≤ (x9_3 : Int) := of_decide_eq_true XShort.asm
                 have q200 : x9_3 < (t196.length : Int) := of_decide_eq_true XShort.asm
                 obtain ⟨ad200, e200, hx200_0⟩ := Kd.at_int (Kd.R_reads' HO_3.out).2.2 x9_3 p200 q200
                 obtain rfl : ad199 = ad200 := (by injection e200)
                 replace p200 := eq_true p200
                 replace q200 := eq_true q200
                 have p201 : 0 ≤ (x9_3 : Int) := of_decide_eq_true XShort.asm
                 have q201 : x9_3 < (t196.length : Int) := of_decide_eq_true XShort.asm
                 obtain ⟨ad201, e201, hx201_0⟩ := Kd.at_int (Kd.R_reads' HO_3.out).2.2 x9_3 p201 q201
                 obtain rfl : ad199 = ad201 := (by injection e201)
                 replace p201 := eq_true p201
                 replace q201 := eq_true q201
                 try go_wp2_with (first | (go_at_call 38; (with_reducible refine (thistleref02_block.calls k3 (wrap32 (rd t196 x9_3)) t202 _ A29.out).mono ?_); rintro e w35 ⟨rfl, hb⟩; have n0_ := Aside0.mk (Kd.R_below (XShort.rr HO_3.out) hb); have n1_ := Aside0.mk (Kd.R_below (XShort.rr HO_8.out) hb); have n2_ := Aside0.mk (below_step XShort.bel hb); clear HO_3; clear HO_8; clear HB; have HO_3 := n0_; have HO_8 := n1_; have HB := n2_; clear n0_ n1_ n2_; (try clear hb); (try clear hb2); (try clear hk); (try clear hi)))
                 have n0_ := Aside0.mk (Kd.R_drew HO_3.out)
                 have n1_ := Aside0.mk (Kd.R_drew HO_8.out)
                 have n2_ := Aside0.mk (below_drew1 HB.out)
                 clear HO_3
                 clear HO_8
                 clear HB
                 have HO_3 := n0_
                 have HO_8 := n1_
                 have HB := n2_
                 clear n0_ n1_ n2_
                 have p203 : 0 ≤ (x9_3 : Int) := of_decide_eq_true XShort.asm
                 have q203 : x9_3 < (t196.length : Int) := of_decide_eq_true XShort.asm
                 obtain ⟨ad203, e203, hx203_0⟩ := Kd.at_int (Kd.R_reads' HO_3.out).2.2 x9_3 p203 q203
                 obtain rfl : ad199 = ad203 := (by injection e203)
                 replace p203 := eq_true p203
                 replace q203 := eq_true q203
                 have p204 : 0 ≤ ((ji31) : Int) := of_decide_eq_true XShort.asm
                 have q204 : (ji31) < (t196.length : Int) := of_decide_eq_true XShort.asm
                 obtain ⟨ad204, e204, hx204_0⟩ := Kd.at_int (Kd.R_reads' HO_3.out).2.2 (ji31) p204 q204
                 obtain rfl : ad199 = ad204 := (by injection e204)
                 replace p204 := eq_true p204
                 replace q204 := eq_true q204
                 refine start_ (n := 15) (S := fun w' => w'.cell? (ad199.add (x9_3).toNat) = some (.int .i64 (rd t196 x9_3)) ∧ w'.cell? (ad199.add ((ji31)).toNat) = some (.int .i64 (rd t196 (ji31)))) (ds := [12, 13]) #[i,i,i,i,i,i,i,i,i,i,i,i,i,i,i] (by kernel_rfl) rfl rfl ⟨hx203_0, hx204_0⟩ (fun hHeld => ?_); refine with_tabW thistleref02_pieces.tab22 thistleref02_pieces.bits22 (fun HT_ HW_ => ?_)
                 generalize w35.drew = w36 at HO_3 HO_8 HB hx203_0 hx204_0 hHeld ⊢
                 refine pure_ (i := 0) (N := some 104) (v := ?_) (a' := ?_) #[o,i,i,i,i,i,i,i,i,i,i,i,i,i,i] rfl rfl (any_of HT_.out (by kernel_rfl)) (fun _ _ _ h => h) (Or.inl ⟨by rfl, ?_⟩) ?_ ?_
                 rotate_left
                 ·intro w'
                  go_simp
                  with_reducible rfl
                 rotate_left
                 ·exact XShort.put
                 refine pure_ (i := 1) (N := some 105) (v := ?_) (a' := ?_) #[o,o,i,i,i,i,i,i,i,i,i,i,i,i,i] rfl rfl (any_of HT_.out (by kernel_rfl)) (fun _ _ _ h => h) (Or.inl ⟨by rfl, ?_⟩) ?_ ?_
                 rotate_left
                 ·intro w'
                  go_simp
                  with_reducible rfl
                 rotate_left
                 ·exact XShort.put
                 refine pure_ (i := 2) (N := some 106) (v := ?_) (a' := ?_) #[o,o,o,i,i,i,i,i,i,i,i,i,i,i,i] rfl rfl (any_of HT_.out (by kernel_rfl)) (fun _ _ _ h => h) (Or.inl ⟨by rfl, ?_⟩) ?_ ?_
                 rotate_left
                 ·intro w'
                  go_simp
                  with_reducible rfl
                 rotate_left
                 ·exact XShort.put
                 refine pure_ (i := 3) (N := some 107) (v := ?_) (a' := ?_) #[o,o,o,o,i,i,i,i,i,i,i,i,i,i,i] rfl rfl (any_of HT_.out (by kernel_rfl)) (fun _ _ _ h => h) (Or.inl ⟨by rfl, ?_⟩) ?_ ?_
                 rotate_left
                 ·intro w'
                  go_simp
                  with_reducible rfl
                 rotate_left
                 ·exact XShort.put
                 refine pure_ (i := 5) (N := some 109) (v := ?_) (a' := ?_) #[o,o,o,o,i,o,i,i,i,i,i,i,i,i,i] rfl rfl (any_of HT_.out (by kernel_rfl)) (fun _ _ _ h => h) (Or.inl ⟨by rfl, ?_⟩) ?_ ?_
                 rotate_left
                 ·intro w'
                  go_simp
                  with_reducible rfl
                 rotate_left
                 ·exact XShort.put
                 refine pure_ (i := 6) (N := some 110) (v := ?_) (a' := ?_) #[o,o,o,o,i,o,o,i,i,i,i,i,i,i,i] rfl rfl (any_of HT_.out (by kernel_rfl)) (fun _ _ _ h => h) (Or.inl ⟨by rfl, ?_⟩) ?_ ?_
                 rotate_left
                 ·intro w'
                  go_simp
                  with_reducible rfl
                 rotate_left
                 ·exact XShort.put
                 refine pure_ (i := 7) (N := some 111) (v := ?_) (a' := ?_) #[o,o,o,o,i,o,o,o,i,i,i,i,i,i,i] rfl rfl (any_of HT_.out (by kernel_rfl)) (fun _ _ _ h => h) (Or.inl ⟨by rfl, ?_⟩) ?_ ?_
                 rotate_left
                 ·intro w'
                  go_simp
                  with_reducible rfl
                 rotate_left
                 ·exact XShort.put
                 refine pure_ (i := 8) (N := some 112) (v := ?_) (a' := ?_) #[o,o,o,o,i,o,o,o,o,i,i,i,i,i,i] rfl rfl (any_of HT_.out (by kernel_rfl)) (fun _ _ _ h => h) (Or.inl ⟨by rfl, ?_⟩) ?_ ?_
                 rotate_left
                 ·intro w'
                  go_simp
                  with_reducible rfl
                 rotate_left
                 ·exact XShort.put
                 refine take_ (i := 4) (N := some 108) (v := ?_) (a' := ?_) #[o,o,o,o,o,o,o,o,o,i,i,i,i,i,i] rfl rfl (take_ofW HT_.out HW_.out (by kernel_rfl)) (fun _ _ _ h => h) (Or.inl ⟨by rfl, ?_⟩) hHeld ?_ ?_
                 rotate_left
                 ·rintro w' ⟨s0, s1⟩
                  go_simp
                  with_reducible rfl
                 rotate_left
                 ·exact XShort.put
                 refine take_ (i := 9) (N := some 113) (v := ?_) (a' := ?_) #[o,o,o,o,o,o,o,o,o,o,i,i,i,i,i] rfl rfl (take_ofW HT_.out HW_.out (by kernel_rfl)) (fun _ _ _ h => h) (Or.inl ⟨by rfl, ?_⟩) hHeld ?_ ?_
                 rotate_left
                 ·rintro w' ⟨s0, s1⟩
                  go_simp
                  with_reducible rfl
                 rotate_left
                 ·exact XShort.put
                 refine pure_ (i := 10) (N := some 114) (v := ?_) (a' := ?_) #[o,o,o,o,o,o,o,o,o,o,o,i,i,i,i] rfl rfl (any_of HT_.out (by kernel_rfl)) (fun _ _ _ h => h) (Or.inl ⟨by rfl, ?_⟩) ?_ ?_
                 rotate_left
                 ·intro w'
                  go_simp
                  with_reducible rfl
                 rotate_left
                 ·exact XShort.put
                 refine pure_ (i := 11) (N := some 115) (v := ?_) (a' := ?_) #[o,o,o,o,o,o,o,o,o,o,o,o,i,i,i] rfl rfl (any_of HT_.out (by kernel_rfl)) (fun _ _ _ h => h) (Or.inl ⟨by rfl, ?_⟩) ?_ ?_
                 rotate_left
                 ·intro w'
                  go_simp
                  with_reducible rfl
                 rotate_left
                 ·exact XShort.put
                 refine last_ (i := 12) (N := some 116) #[o,o,o,o,o,o,o,o,o,o,o,o,o,i,i] rfl rfl (one_of HT_.out (by kernel_rfl)) (by decide) (fun K hK => ?_)
                 refine value_ (w1 := ?_) (v := ?_) (by rfl) rfl ?_ ?_
                 rotate_left 2
                 ·go_simp
                  constructor
                  ·rfl
                  ·rfl
                 refine hK.out _ _ ?_
                 clear hK K
                 refine norm_ (a' := ?_) ?_ ?_
                 rotate_left
                 ·show Act.put _ (some 116) _ = _
                  simp only [Act.put, List.setIfInBounds_toArray, List.set_cons_zero, List.set_cons_succ, i64_w, i32_w]
                  rfl
                 refine last_ (i := 13) (N := some 117) #[o,o,o,o,o,o,o,o,o,o,o,o,o,o,i] rfl rfl (one_of HT_.out (by kernel_rfl)) (by decide) (fun K hK => ?_)
                 refine Kd.R_append_step k61 (w0 := w) w.heap.size (by rfl) (.tmp 104) (.tmp 116) 55 61 (.agg #[(.int .i64 0), (.int .i64 0)]) 16 rfl Tryd.underlying55 info61 rfl (by decide) (by omega) u8 x8_3 (⟨rd t196 x9_3, wrap64 ((rd t196 (ji31)) - 1)⟩ : S61) [.int .i64 (rd t196 x9_3), .int .i64 (wrap64 ((rd t196 (ji31)) - 1))] (fun _ => True) (fun _ => False) rfl rfl ?aP (fun _ hk => hk.elim) ?aF ?aO ?aB ?aS ?aL ?_
                 (case aP => exact k61_mkM _ _ _ (⟨rd t196 x9_3, wrap64 ((rd t196 (ji31)) - 1)⟩ : S61))
                 (case aB => exact XShort.bel)
                 (case aF => exact (fun _ _ => trivial))
                 (case aO => exact (XShort.rr HO_8.out))
                 (case aS => exact (below_size XShort.bel))
                 (case aL => have := LMc33.out; omega)
                 intro v206 w37 ho hb hg hat
                 rw [← Ny205.out] at ho
                 have n0_ := Aside0.mk (Kd.R_over' (XShort.rr HO_3.out) (Kd.R_typed (XShort.rr HO_8.out)) (by decide) hg)
                 have n1_ := Aside0.mk (hb)
                 have n2_ := Aside0.mk (ho)
                 clear HO_3
                 clear HB
                 clear HO_8
                 have HO_3 := n0_
                 have HB := n1_
                 have HO207 := n2_
                 clear n0_ n1_ n2_
                 clear ho hb hg hat
                 refine hK.out _ _ ?_
                 clear hK K
                 refine norm_ (a' := ?_) ?_ ?_
                 rotate_left
                 ·show Act.put _ (some 117) _ = _
                  simp only [Act.put, List.setIfInBounds_toArray, List.set_cons_zero, List.set_cons_succ, i64_w, i32_w]
                  rfl
                 refine pure_ (i := 14) (N := some 8) (v := ?_) (a' := ?_) #[o,o,o,o,o,o,o,o,o,o,o,o,o,o,o] rfl rfl (any_of HT_.out (by kernel_rfl)) (fun _ _ _ h => h) (Or.inl ⟨by rfl, ?_⟩) ?_ ?_
                 rotate_left
                 ·intro w'
                  go_simp
                  with_reducible rfl
                 rotate_left
                 ·exact XShort.put
                 refine done_ (done_of HT_.out (by kernel_rfl)) ?_
                 try go_wp2
                 go_roundg k3
                 case measure => have := HK1.out; have := HK2.out; have := HK3.out; omega
                 case rel => exact ⟨(y205), (ji31), (by first | rfl | (simp; done) | (simp only [← hji31] <;> (first | rfl | simp)) | (simp [*]; done)), H', ⟨by have := HK1.out; have := HK2.out; have := HK3.out; omega⟩, ⟨by (with_reducible repeat (first | apply Kd.R_alloc | apply Kd.R_drewN | apply Kd.R_drew)); exact HO_3.out⟩, ⟨by (with_reducible repeat (first | apply Kd.R_alloc | apply Kd.R_drewN | apply Kd.R_drew)); exact HO207.out⟩, ⟨XShort.bel⟩⟩
                ·rw [if_neg c33] at H
                 exact absurd H (by simp)
               ·rw [if_neg c32] at H
                exact absurd H (by simp)
              ·rw [if_neg c30] at H
               have c30b0 : decide (0 ≤ t202) = false := decide_eq_false c30
               clear c30
               have H' := Aside0.mk H
               clear H
               obtain ⟨Ao38, co38, eo38⟩ := Kd.R_slice HO_3.out
               subst eo38
               have p199 : 0 ≤ (x9_3 : Int) := of_decide_eq_true XShort.asm
               have q199 : x9_3 < (t196.length : Int) := of_decide_eq_true XShort.asm
               obtain ⟨ad199, e199, hx199_0⟩ := Kd.at_int (Kd.R_reads' HO_3.out).2.2 x9_3 p199 q199
               cases e199
               replace p199 := eq_true p199
               replace q199 := eq_true q199
               have p200 : 0 ≤ (x9_3 : Int) := of_decide_eq_true XShort.asm
               have q200 : x9_3 < (t196.length : Int) := of_decide_eq_true XShort.asm
               obtain ⟨ad200, e200, hx200_0⟩ := Kd.at_int (Kd.R_reads' HO_3.out).2.2 x9_3 p200 q200
               obtain rfl : ad199 = ad200 := (by injection e200)
               replace p200 := eq_true p200
               replace q200 := eq_true q200
               have p201 : 0 ≤ (x9_3 : Int) := of_decide_eq_true XShort.asm
               have q201 : x9_3 < (t196.length : Int) := of_decide_eq_true XShort.asm
               obtain ⟨ad201, e201, hx201_0⟩ := Kd.at_int (Kd.R_reads' HO_3.out).2.2 x9_3 p201 q201
               obtain rfl : ad199 = ad201 := (by injection e201)
               replace p201 := eq_true p201
               replace q201 := eq_true q201
               go_wp2_with (first | (go_at_call 38; (with_reducible refine (thistleref02_block.calls k3 (wrap32 (rd t196 x9_3)) t202 _ A29.out).mono ?_); rintro e w39 ⟨rfl, hb⟩; have n0_ := Aside0.mk (Kd.R_below (XShort.rr HO_3.out) hb); have n1_ := Aside0.mk (Kd.R_below (XShort.rr HO_8.out) hb); have n2_ := Aside0.mk (below_step XShort.bel hb); clear HO_3; clear HO_8; clear HB; have HO_3 := n0_; have HO_8 := n1_; have HB := n2_; clear n0_ n1_ n2_; (try clear hb); (try clear hb2); (try clear hk); (try clear hi)))
               go_roundg k3
               case measure => have := HK1.out; have := HK2.out; have := HK3.out; omega
               case rel => exact ⟨(x8_3), (wrap64 (x9_3 + 1)), XShort.eqs, H', ⟨by have := HK1.out; have := HK2.out; have := HK3.out; omega⟩, ⟨by (with_reducible repeat (first | apply Kd.R_alloc | apply Kd.R_drewN | apply Kd.R_drew)); exact HO_3.out⟩, ⟨by (with_reducible repeat (first | apply Kd.R_alloc | apply Kd.R_drewN | apply Kd.R_drew)); exact HO_8.out⟩, ⟨XShort.bel⟩⟩
             ·rw [if_neg c28] at H
              have c28b0 : decide ((rd t196 x9_3) ≤ 1114367) = false := decide_eq_false c28
              clear c28
              have H' := Aside0.mk H
              clear H
              obtain ⟨Ao40, co40, eo40⟩ := Kd.R_slice HO_3.out
              subst eo40
              have p199 : 0 ≤ (x9_3 : Int) := of_decide_eq_true XShort.asm
              have q199 : x9_3 < (t196.length : Int) := of_decide_eq_true XShort.asm
              obtain ⟨ad199, e199, hx199_0⟩ := Kd.at_int (Kd.R_reads' HO_3.out).2.2 x9_3 p199 q199
              cases e199
              replace p199 := eq_true p199
              replace q199 := eq_true q199
              have p200 : 0 ≤ (x9_3 : Int) := of_decide_eq_true XShort.asm
              have q200 : x9_3 < (t196.length : Int) := of_decide_eq_true XShort.asm
              obtain ⟨ad200, e200, hx200_0⟩ := Kd.at_int (Kd.R_reads' HO_3.out).2.2 x9_3 p200 q200
              obtain rfl : ad199 = ad200 := (by injection e200)
              replace p200 := eq_true p200
              replace q200 := eq_true q200
              go_wp2
              go_roundg k3
              case measure => have := HK1.out; have := HK2.out; have := HK3.out; omega
              case rel => exact ⟨(x8_3), (wrap64 (x9_3 + 1)), XShort.eqs, H', ⟨by have := HK1.out; have := HK2.out; have := HK3.out; omega⟩, ⟨by (with_reducible repeat (first | apply Kd.R_alloc | apply Kd.R_drewN | apply Kd.R_drew)); exact HO_3.out⟩, ⟨by (with_reducible repeat (first | apply Kd.R_alloc | apply Kd.R_drewN | apply Kd.R_drew)); exact HO_8.out⟩, ⟨XShort.bel⟩⟩
            ·rw [if_neg c27] at H
             have c27b0 : decide (0 ≤ (rd t196 x9_3)) = false := decide_eq_false c27
             clear c27
             have H' := Aside0.mk H
             clear H
             obtain ⟨Ao41, co41, eo41⟩ := Kd.R_slice HO_3.out
             subst eo41
             have p199 : 0 ≤ (x9_3 : Int) := of_decide_eq_true XShort.asm
             have q199 : x9_3 < (t196.length : Int) := of_decide_eq_true XShort.asm
             obtain ⟨ad199, e199, hx199_0⟩ := Kd.at_int (Kd.R_reads' HO_3.out).2.2 x9_3 p199 q199
             cases e199
             replace p199 := eq_true p199
             replace q199 := eq_true q199
             go_wp2
             go_roundg k3
             case measure => have := HK1.out; have := HK2.out; have := HK3.out; omega
             case rel => exact ⟨(x8_3), (wrap64 (x9_3 + 1)), XShort.eqs, H', ⟨by have := HK1.out; have := HK2.out; have := HK3.out; omega⟩, ⟨by (with_reducible repeat (first | apply Kd.R_alloc | apply Kd.R_drewN | apply Kd.R_drew)); exact HO_3.out⟩, ⟨by (with_reducible repeat (first | apply Kd.R_alloc | apply Kd.R_drewN | apply Kd.R_drew)); exact HO_8.out⟩, ⟨XShort.bel⟩⟩
           ·rw [if_neg c26] at H
            exact absurd H (by simp)
          ·rw [if_neg c25] at H
           exact absurd H (by simp)
         ·rw [if_neg c24] at H
          have c24b0 : decide ((wrap64 (x9_3 + 1)) < (t196.length : Int)) = false := decide_eq_false c24
          clear c24
          obtain rfl := Option.some.inj H
          obtain ⟨Ao42, co42, eo42⟩ := Kd.R_slice HO_3.out
          subst eo42
          go_wp2
          go_ret
          exact ⟨_, by first | rfl | (simp [errW_none, errW_some] <;> rfl) | (simp [*, errW_none, errW_some] <;> rfl), by (with_reducible repeat (first | apply Kd.R_alloc | apply Kd.R_drewN | apply Kd.R_drew)); exact HO_8.out, XShort.bel⟩

end Go.Proofs.YtcfecoalljfoaaaDoor.XS
namespace Go.Proofs.YtcfecoalljfoaaaDoor.XS
open Go.Proofs.YtcfecoalljfoaaaDoor.XShort (o i)
open Go.RowKit Go.Proofs.YtcfecoalljfoaaaDoorW.PrintWords Go.Proofs.YtcfecoalljfoaaaDoorW.PrintLast Go.Proofs.YtcfecoalljfoaaaDoorW.PrintMore
attribute [local go_sem] max2_int min2_int max_two min_two max_three min_three max_four min_four   -- for this text's walks alone
set_option linter.unusedVariables false
set_option linter.unusedSimpArgs false

/-! ### thistleref02_inside: function 22 -/
mutual
def thistleref02_inside.l0 : Nat → List (S30) → List (S61) → List Int → List Int → Int → Option (List Bool)
 | 0, _, _, _, _, _ => none
 | k + 1, x0, x1, x5, x6, x7 => if x7 < (x0.length : Int) then (if 0 ≤ x7 then (if x5.length < 17592186044416 then (if x6.length < 17592186044416 then (thistleref02_inside.l0 k x0 x1 (x5 ++ [wrap64 ((rd_T30 x0 x7).f0)]) (x6 ++ [wrap64 ((rd_T30 x0 x7).f1)]) (wrap64 (x7 + 1))) else (none)) else (none)) else (none)) else ((thistleref02_merged.f k x5).bind fun t216 => ((thistleref02_merged.f k x6).bind fun t219 => (if 0 ≤ (x1.length : Int) then (if ((x1.length : Int) : Int).toNat ≤ 281474976710656 then (thistleref02_inside.l1 k x1 t216 t219 (List.replicate ((x1.length : Int) : Int).toNat false) 0 0 0) else (none)) else (none))))
def thistleref02_inside.l1 : Nat → List (S61) → List Int → List Int → List Bool → Int → Int → Int → Option (List Bool)
 | 0, _, _, _, _, _, _, _ => none
 | k + 1, x1, x5, x6, x8, x9, x10, x11 => if x11 < (x1.length : Int) then (thistleref02_inside.l2 k x1 x5 x6 x8 x9 x10 x11) else (some x8)
def thistleref02_inside.j3 : Nat → List (S61) → List Int → List Int → List Bool → Int → Int → Int → Option (List Bool)
 | 0, _, _, _, _, _, _, _ => none
 | k + 1, x1, x5, x6, x8, x9, x10, x11 => thistleref02_inside.l3 k x1 x5 x6 x8 x9 x10 x11
def thistleref02_inside.l3 : Nat → List (S61) → List Int → List Int → List Bool → Int → Int → Int → Option (List Bool)
 | 0, _, _, _, _, _, _, _ => none
 | k + 1, x1, x5, x6, x8, x9, x10, x11 => if x10 < (x6.length : Int) then (if 0 ≤ x10 then (if 0 ≤ x11 then (if x11 < (x1.length : Int) then (if (rd x6 x10) < ((rd_T61 x1 x11).f0) then (thistleref02_inside.l3 k x1 x5 x6 x8 x9 (wrap64 (x10 + 1)) x11) else (if x11 < (x8.length : Int) then (thistleref02_inside.l1 k x1 x5 x6 (x8.set (x11 : Int).toNat (decide (x9 > x10))) x9 x10 (wrap64 (x11 + 1))) else (none))) else (none)) else (none)) else (none)) else (if 0 ≤ x11 then (if x11 < (x8.length : Int) then (thistleref02_inside.l1 k x1 x5 x6 (x8.set (x11 : Int).toNat (decide (x9 > x10))) x9 x10 (wrap64 (x11 + 1))) else (none)) else (none))
def thistleref02_inside.l2 : Nat → List (S61) → List Int → List Int → List Bool → Int → Int → Int → Option (List Bool)
 | 0, _, _, _, _, _, _, _ => none
 | k + 1, x1, x5, x6, x8, x9, x10, x11 => if x9 < (x5.length : Int) then (if 0 ≤ x9 then (if 0 ≤ x11 then (if x11 < (x1.length : Int) then (if (rd x5 x9) ≤ ((rd_T61 x1 x11).f0) then (thistleref02_inside.l2 k x1 x5 x6 x8 (wrap64 (x9 + 1)) x10 x11) else (thistleref02_inside.j3 k x1 x5 x6 x8 x9 x10 x11)) else (none)) else (none)) else (none)) else (thistleref02_inside.j3 k x1 x5 x6 x8 x9 x10 x11)
end
def thistleref02_inside.f (k : Nat) (l0 : List (S30)) (l1 : List (S61)) : Option (List Bool) := thistleref02_inside.l0 k l0 l1 ([] : List Int) ([] : List Int) 0
set_option maxHeartbeats 8000000 in
set_option maxRecDepth 100000 in
theorem thistleref02_inside.calls (k : Nat) (A0 : Option Addr) (c0 : Nat) (l0 : List (S30)) (A1 : Option Addr) (c1 : Nat) (l1 : List (S61)) (r : List Bool) (w : World) (hr0 : Kd.C k30 w A0 l0.length l0) (hc0 : l0.length ≤ c0) (hr1 : Kd.C k61 w A1 l1.length l1) (hc1 : l1.length ≤ c1) (h : thistleref02_inside.f k l0 l1 = some r) :
  Calls Tryd.prog 22 #[.slice A0 l0.length c0, .slice A1 l1.length c1] w fun e w' => ∃ v0_ : Value, e = .returned (v0_) ∧ Kd.R Kd.bool 4 w' w.heap.size (fun _ => True) v0_ r ∧ Below w.heap.size w w' := by
 have HR0 := Aside0.mk hr0
 have HC0 := Aside0.mk hc0
 clear hr0 hc0
 have HR1 := Aside0.mk hr1
 have HC1 := Aside0.mk hc1
 clear hr1 hc1
 have HB := Aside0.mk (Below.refl w.heap.size w)
 have H : (thistleref02_inside.l0 k l0 l1 ([] : List Int) ([] : List Int) 0) = some r := h
 clear h
 have H' := Aside0.mk H
 clear H
 go_enter Tryd.func22, Tryd.ntmps22
 go_wp2
 repeat (go_quiet (fail); try go_wp2)
 go_loopg [5, 6, 7] k (fun kq v5 v6 v7 w' => ∃ (x5_1 : List Int) (x6_1 : List Int) (x7_1 : Int), v7 = .int .i64 x7_1 ∧ Aside0 (thistleref02_inside.l0 kq l0 l1 x5_1 x6_1 x7_1 = some r) ∧ Aside0 (kq ≤ k) ∧ Aside0 (Kd.R (Kd.int .i64) 3 w' w.heap.size (fun k_ => some k_ ≠ (v6 : Value).ownBlock) v5 x5_1) ∧ Aside0 (Kd.R (Kd.int .i64) 3 w' w.heap.size (fun k_ => some k_ ≠ (v5 : Value).ownBlock) v6 x6_1) ∧ Aside0 (Below w.heap.size w w'))
 case atStart => exact ⟨(([] : List Int)), (([] : List Int)), (0), XShort.eqs, H', ⟨Nat.le_refl _⟩, ⟨by first | exact Kd.R_nil _ _ _ _ _ | exact Kd.N_nil _ _ _ _ _ | exact Kd.V_nil _ _ _ _ _ | exact Kd.Q_nil _ _ _ _ _ | exact Kd.S_nil _ _ _ _ _⟩, ⟨by first | exact Kd.R_nil _ _ _ _ _ | exact Kd.N_nil _ _ _ _ _ | exact Kd.V_nil _ _ _ _ _ | exact Kd.Q_nil _ _ _ _ _ | exact Kd.S_nil _ _ _ _ _⟩, ⟨XShort.bel⟩⟩
 case round =>
  clear H'
  try clear c1
  try clear c2
  try clear p2
  obtain ⟨x5_1, x6_1, x7_1, rfl, HA, HK1, HO_5, HO_6, HB⟩ := hrel
  cases gk with
  | zero => exact absurd HA.out (by simp [thistleref02_inside.l0])
  | succ k1 =>
   have H := HA.out
   clear HA
   simp only [thistleref02_inside.l0] at H
   by_cases c3 : x7_1 < (l0.length : Int)
   ·rw [if_pos c3] at H
    have c3b0 : decide (x7_1 < (l0.length : Int)) = true := decide_eq_true c3
    clear c3
    by_cases c4 : 0 ≤ x7_1
    ·rw [if_pos c4] at H
     have c4b0 : decide (0 ≤ x7_1) = true := decide_eq_true c4
     clear c4
     by_cases c5 : x5_1.length < 17592186044416
     ·rw [if_pos c5] at H
      have LMc5 := Aside0.mk c5
      clear c5
      obtain ⟨y209, hy209⟩ : ∃ y_ : List Int, y_ = (x5_1 ++ [wrap64 ((rd_T30 l0 x7_1).f0)]) := ⟨_, rfl⟩
      replace H : (if x6_1.length < 17592186044416 then (thistleref02_inside.l0 k1 l0 l1 y209 (x6_1 ++ [wrap64 ((rd_T30 l0 x7_1).f1)]) (wrap64 (x7_1 + 1))) else (none)) = some r := by first | (rw [hy209]; with_reducible exact H) | (have H2_ := (Option.bind_some _ _).symm.trans H; rw [hy209]; with_reducible exact H2_) | (have H2_ := (Option.bind_some _ _).symm.trans H; with_reducible exact H2_) | with_reducible exact H | (rw [hy209]; exact H) | exact H
      have Ny209 := Aside0.mk hy209
      clear hy209
      by_cases c6 : x6_1.length < 17592186044416
      ·rw [if_pos c6] at H
       have LMc6 := Aside0.mk c6
       clear c6
       obtain ⟨y213, hy213⟩ : ∃ y_ : List Int, y_ = (x6_1 ++ [wrap64 ((rd_T30 l0 x7_1).f1)]) := ⟨_, rfl⟩
       replace H : (thistleref02_inside.l0 k1 l0 l1 y209 y213 (wrap64 (x7_1 + 1))) = some r := by first | (rw [hy213]; with_reducible exact H) | (have H2_ := (Option.bind_some _ _).symm.trans H; rw [hy213]; with_reducible exact H2_) | (have H2_ := (Option.bind_some _ _).symm.trans H; with_reducible exact H2_) | with_reducible exact H | (rw [hy213]; exact H) | exact H
       have Ny213 := Aside0.mk hy213
       clear hy213
       have H' := Aside0.mk H
       clear H
       have p208 : 0 ≤ (x7_1 : Int) := of_decide_eq_true XShort.asm
       have q208 : x7_1 < (l0.length : Int) := of_decide_eq_true XShort.asm
       obtain ⟨ad208, e208, hx208_0, hx208_1⟩ := at_T30 HR0.out x7_1 p208 q208
       cases e208
       replace hx208_0 := (HB.out.cell (World.block_lt_of_cell? w _ hx208_0)).trans hx208_0
       replace hx208_1 := (HB.out.cell (World.block_lt_of_cell? w _ hx208_1)).trans hx208_1
       replace p208 := eq_true p208
       replace q208 := eq_true q208
       go_wp2_with (first | ((with_reducible refine gate_builtin (b := .append) (xs := #[.tmp 18, .tmp 25]) rfl ?_); at_builtin; refine Kd.R_append (Kd.int .i64) (w0 := w) w.heap.size rfl (.tmp 18) (.tmp 25) 77 3 (.int .i64 0) 8 rfl Tryd.underlying77 info3 rfl (by decide) (by omega) u5 x5_1 (wrap64 ((rd_T30 l0 x7_1).f0)) [.int .i64 (wrap64 ((rd_T30 l0 x7_1).f0))] (fun k_ => some k_ ≠ (u6 : Value).ownBlock) (fun _ => False) rfl rfl ?aP (fun _ hk => hk.elim) ?aF ?aO ?aB ?aS ?aL ?_; (case aP => exact rfl); (case aB => exact XShort.bel); (case aF => exact (fun k_ hk => Kd.fresh' (Kd.R_lt (XShort.rr HO_6.out)) k_ hk)); (case aO => exact (XShort.rr HO_5.out)); (case aS => exact (below_size XShort.bel)); (case aL => have := LMc5.out; omega); intro v210 w7 ho hb hg hat; rw [← Ny209.out] at ho; have n0_ := Aside0.mk (Kd.R_after (ok := (fun _ => True)) (by (with_reducible repeat (first | apply Kd.R_alloc | apply Kd.R_drewN | apply Kd.R_drew)); exact Kd.R_mono HO_6.out (fun _ hk => ⟨trivial, hk⟩)) hg hat); have n1_ := Aside0.mk (hb); have n2_ := Aside0.mk (ho); clear HO_6; clear HB; clear HO_5; have HO_6 := n0_; have HB := n1_; have HO211 := n2_; clear n0_ n1_ n2_; clear ho hb hg hat; have p212 : 0 ≤ (x7_1 : Int) := of_decide_eq_true XShort.asm; have q212 : x7_1 < (l0.length : Int) := of_decide_eq_true XShort.asm; obtain ⟨ad212, e212, hx212_0, hx212_1⟩ := at_T30 HR0.out x7_1 p212 q212; obtain rfl : ad208 = ad212 := (by injection e212); replace hx212_0 := (HB.out.cell (World.block_lt_of_cell? w _ hx212_0)).trans hx212_0; replace hx212_1 := (HB.out.cell (World.block_lt_of_cell? w _ hx212_1)).trans hx212_1; replace p212 := eq_true p212; replace q212 := eq_true q212) | ((with_reducible refine gate_builtin (b := .append) (xs := #[.tmp 27, .tmp 34]) rfl ?_); at_builtin; refine Kd.R_append (Kd.int .i64) (w0 := w) w.heap.size rfl (.tmp 27) (.tmp 34) 77 3 (.int .i64 0) 8 rfl Tryd.underlying77 info3 rfl (by decide) (by omega) u6 x6_1 (wrap64 ((rd_T30 l0 x7_1).f1)) [.int .i64 (wrap64 ((rd_T30 l0 x7_1).f1))] (fun k_ => some k_ ≠ (v210 : Value).ownBlock) (fun _ => False) rfl rfl ?aP (fun _ hk => hk.elim) ?aF ?aO ?aB ?aS ?aL ?_; (case aP => exact rfl); (case aB => exact XShort.bel); (case aF => exact (fun k_ hk => Kd.fresh' (Kd.R_lt (XShort.rr HO211.out)) k_ hk)); (case aO => exact (by (with_reducible repeat (first | apply Kd.R_alloc | apply Kd.R_drewN | apply Kd.R_drew)); exact Kd.R_mono HO_6.out (fun _ hk => hk.2))); (case aS => exact (below_size XShort.bel)); (case aL => have := LMc6.out; omega); intro v214 w8 ho hb hg hat; rw [← Ny213.out] at ho; have n0_ := Aside0.mk (Kd.R_after (ok := (fun _ => True)) (by (with_reducible repeat (first | apply Kd.R_alloc | apply Kd.R_drewN | apply Kd.R_drew)); exact Kd.R_mono HO211.out (fun _ hk => ⟨trivial, hk⟩)) hg hat); have n1_ := Aside0.mk (hb); have n2_ := Aside0.mk (ho); clear HO211; clear HB; clear HO_6; have HO211 := n0_; have HB := n1_; have HO215 := n2_; clear n0_ n1_ n2_; clear ho hb hg hat))
       repeat (go_quiet (first | ((with_reducible refine gate_builtin (b := .append) (xs := #[.tmp 18, .tmp 25]) rfl ?_); at_builtin; refine Kd.R_append (Kd.int .i64) (w0 := w) w.heap.size rfl (.tmp 18) (.tmp 25) 77 3 (.int .i64 0) 8 rfl Tryd.underlying77 info3 rfl (by decide) (by omega) u5 x5_1 (wrap64 ((rd_T30 l0 x7_1).f0)) [.int .i64 (wrap64 ((rd_T30 l0 x7_1).f0))] (fun k_ => some k_ ≠ (u6 : Value).ownBlock) (fun _ => False) rfl rfl ?aP (fun _ hk => hk.elim) ?aF ?aO ?aB ?aS ?aL ?_; (case aP => exact rfl); (case aB => exact XShort.bel); (case aF => exact (fun k_ hk => Kd.fresh' (Kd.R_lt (XShort.rr HO_6.out)) k_ hk)); (case aO => exact (XShort.rr HO_5.out)); (case aS => exact (below_size XShort.bel)); (case aL => have := LMc5.out; omega); intro v210 w7 ho hb hg hat; rw [← Ny209.out] at ho; have n0_ := Aside0.mk (Kd.R_after (ok := (fun _ => True)) (by (with_reducible repeat (first | apply Kd.R_alloc | apply Kd.R_drewN | apply Kd.R_drew)); exact Kd.R_mono HO_6.out (fun _ hk => ⟨trivial, hk⟩)) hg hat); have n1_ := Aside0.mk (hb); have n2_ := Aside0.mk (ho); clear HO_6; clear HB; clear HO_5; have HO_6 := n0_; have HB := n1_; have HO211 := n2_; clear n0_ n1_ n2_; clear ho hb hg hat; have p212 : 0 ≤ (x7_1 : Int) := of_decide_eq_true XShort.asm; have q212 : x7_1 < (l0.length : Int) := of_decide_eq_true XShort.asm; obtain ⟨ad212, e212, hx212_0, hx212_1⟩ := at_T30 HR0.out x7_1 p212 q212; obtain rfl : ad208 = ad212 := (by injection e212); replace hx212_0 := (HB.out.cell (World.block_lt_of_cell? w _ hx212_0)).trans hx212_0; replace hx212_1 := (HB.out.cell (World.block_lt_of_cell? w _ hx212_1)).trans hx212_1; replace p212 := eq_true p212; replace q212 := eq_true q212) | ((with_reducible refine gate_builtin (b := .append) (xs := #[.tmp 27, .tmp 34]) rfl ?_); at_builtin; refine Kd.R_append (Kd.int .i64) (w0 := w) w.heap.size rfl (.tmp 27) (.tmp 34) 77 3 (.int .i64 0) 8 rfl Tryd.underlying77 info3 rfl (by decide) (by omega) u6 x6_1 (wrap64 ((rd_T30 l0 x7_1).f1)) [.int .i64 (wrap64 ((rd_T30 l0 x7_1).f1))] (fun k_ => some k_ ≠ (v210 : Value).ownBlock) (fun _ => False) rfl rfl ?aP (fun _ hk => hk.elim) ?aF ?aO ?aB ?aS ?aL ?_; (case aP => exact rfl); (case aB => exact XShort.bel); (case aF => exact (fun k_ hk => Kd.fresh' (Kd.R_lt (XShort.rr HO211.out)) k_ hk)); (case aO => exact (by (with_reducible repeat (first | apply Kd.R_alloc | apply Kd.R_drewN | apply Kd.R_drew)); exact Kd.R_mono HO_6.out (fun _ hk => hk.2))); (case aS => exact (below_size XShort.bel)); (case aL => have := LMc6.out; omega); intro v214 w8 ho hb hg hat; rw [← Ny213.out] at ho; have n0_ := Aside0.mk (Kd.R_after (ok := (fun _ => True)) (by (with_reducible repeat (first | apply Kd.R_alloc | apply Kd.R_drewN | apply Kd.R_drew)); exact Kd.R_mono HO211.out (fun _ hk => ⟨trivial, hk⟩)) hg hat); have n1_ := Aside0.mk (hb); have n2_ := Aside0.mk (ho); clear HO211; clear HB; clear HO_6; have HO211 := n0_; have HB := n1_; have HO215 := n2_; clear n0_ n1_ n2_; clear ho hb hg hat)); try go_wp2_with (first | ((with_reducible refine gate_builtin (b := .append) (xs := #[.tmp 18, .tmp 25]) rfl ?_); at_builtin; refine Kd.R_append (Kd.int .i64) (w0 := w) w.heap.size rfl (.tmp 18) (.tmp 25) 77 3 (.int .i64 0) 8 rfl Tryd.underlying77 info3 rfl (by decide) (by omega) u5 x5_1 (wrap64 ((rd_T30 l0 x7_1).f0)) [.int .i64 (wrap64 ((rd_T30 l0 x7_1).f0))] (fun k_ => some k_ ≠ (u6 : Value).ownBlock) (fun _ => False) rfl rfl ?aP (fun _ hk => hk.elim) ?aF ?aO ?aB ?aS ?aL ?_; (case aP => exact rfl); (case aB => exact XShort.bel); (case aF => exact (fun k_ hk => Kd.fresh' (Kd.R_lt (XShort.rr HO_6.out)) k_ hk)); (case aO => exact (XShort.rr HO_5.out)); (case aS => exact (below_size XShort.bel)); (case aL => have := LMc5.out; omega); intro v210 w7 ho hb hg hat; rw [← Ny209.out] at ho; have n0_ := Aside0.mk (Kd.R_after (ok := (fun _ => True)) (by (with_reducible repeat (first | apply Kd.R_alloc | apply Kd.R_drewN | apply Kd.R_drew)); exact Kd.R_mono HO_6.out (fun _ hk => ⟨trivial, hk⟩)) hg hat); have n1_ := Aside0.mk (hb); have n2_ := Aside0.mk (ho); clear HO_6; clear HB; clear HO_5; have HO_6 := n0_; have HB := n1_; have HO211 := n2_; clear n0_ n1_ n2_; clear ho hb hg hat; have p212 : 0 ≤ (x7_1 : Int) := of_decide_eq_true XShort.asm; have q212 : x7_1 < (l0.length : Int) := of_decide_eq_true XShort.asm; obtain ⟨ad212, e212, hx212_0, hx212_1⟩ := at_T30 HR0.out x7_1 p212 q212; obtain rfl : ad208 = ad212 := (by injection e212); replace hx212_0 := (HB.out.cell (World.block_lt_of_cell? w _ hx212_0)).trans hx212_0; replace hx212_1 := (HB.out.cell (World.block_lt_of_cell? w _ hx212_1)).trans hx212_1; replace p212 := eq_true p212; replace q212 := eq_true q212) | ((with_reducible refine gate_builtin (b := .append) (xs := #[.tmp 27, .tmp 34]) rfl ?_); at_builtin; refine Kd.R_append (Kd.int .i64) (w0 := w) w.heap.size rfl (.tmp 27) (.tmp 34) 77 3 (.int .i64 0) 8 rfl Tryd.underlying77 info3 rfl (by decide) (by omega) u6 x6_1 (wrap64 ((rd_T30 l0 x7_1).f1)) [.int .i64 (wrap64 ((rd_T30 l0 x7_1).f1))] (fun k_ => some k_ ≠ (v210 : Value).ownBlock) (fun _ => False) rfl rfl ?aP (fun _ hk => hk.elim) ?aF ?aO ?aB ?aS ?aL ?_; (case aP => exact rfl); (case aB => exact XShort.bel); (case aF => exact (fun k_ hk => Kd.fresh' (Kd.R_lt (XShort.rr HO211.out)) k_ hk)); (case aO => exact (by (with_reducible repeat (first | apply Kd.R_alloc | apply Kd.R_drewN | apply Kd.R_drew)); exact Kd.R_mono HO_6.out (fun _ hk => hk.2))); (case aS => exact (below_size XShort.bel)); (case aL => have := LMc6.out; omega); intro v214 w8 ho hb hg hat; rw [← Ny213.out] at ho; have n0_ := Aside0.mk (Kd.R_after (ok := (fun _ => True)) (by (with_reducible repeat (first | apply Kd.R_alloc | apply Kd.R_drewN | apply Kd.R_drew)); exact Kd.R_mono HO211.out (fun _ hk => ⟨trivial, hk⟩)) hg hat); have n1_ := Aside0.mk (hb); have n2_ := Aside0.mk (ho); clear HO211; clear HB; clear HO_6; have HO211 := n0_; have HB := n1_; have HO215 := n2_; clear n0_ n1_ n2_; clear ho hb hg hat)))
       go_roundg k1
       case measure => have := HK1.out; omega
       case rel => exact ⟨(y209), (y213), (wrap64 (x7_1 + 1)), XShort.eqs, H', ⟨by have := HK1.out; omega⟩, ⟨by (with_reducible repeat (first | apply Kd.R_alloc | apply Kd.R_drewN | apply Kd.R_drew)); exact Kd.R_mono HO211.out (fun _ hk => hk.2)⟩, ⟨by (with_reducible repeat (first | apply Kd.R_alloc | apply Kd.R_drewN | apply Kd.R_drew)); exact HO215.out⟩, ⟨XShort.bel⟩⟩
      ·rw [if_neg c6] at H
       exact absurd H (by simp)
     ·rw [if_neg c5] at H
      exact absurd H (by simp)
    ·rw [if_neg c4] at H
     exact absurd H (by simp)
   ·rw [if_neg c3] at H
    have c3b0 : decide (x7_1 < (l0.length : Int)) = false := decide_eq_false c3
    clear c3
    replace H := Option.bind_eq_some_iff.mp H
    obtain ⟨t216, A90, H⟩ := H
    replace H : ((thistleref02_merged.f k1 x6_1).bind fun t219 => (if 0 ≤ (l1.length : Int) then (if ((l1.length : Int) : Int).toNat ≤ 281474976710656 then (thistleref02_inside.l1 k1 l1 t216 t219 (List.replicate ((l1.length : Int) : Int).toNat false) 0 0 0) else (none)) else (none))) = some r := H
    have A9 := Aside0.mk A90
    clear A90
    replace H := Option.bind_eq_some_iff.mp H
    obtain ⟨t219, A100, H⟩ := H
    replace H : (if 0 ≤ (l1.length : Int) then (if ((l1.length : Int) : Int).toNat ≤ 281474976710656 then (thistleref02_inside.l1 k1 l1 t216 t219 (List.replicate ((l1.length : Int) : Int).toNat false) 0 0 0) else (none)) else (none)) = some r := H
    have A10 := Aside0.mk A100
    clear A100
    by_cases c11 : 0 ≤ (l1.length : Int)
    ·rw [if_pos c11] at H
     have c11b0 := eq_true c11
     have c11b1 : decide (0 ≤ (l1.length : Int)) = true := decide_eq_true c11
     clear c11
     by_cases c12 : ((l1.length : Int) : Int).toNat ≤ 281474976710656
     ·rw [if_pos c12] at H
      have c12b0 := eq_true c12
      have c12b1 : decide (((l1.length : Int) : Int).toNat ≤ 281474976710656) = true := decide_eq_true c12
      clear c12
      obtain ⟨y222, hy222⟩ : ∃ y_ : List Bool, y_ = (List.replicate ((l1.length : Int) : Int).toNat false) := ⟨_, rfl⟩
      replace H : (thistleref02_inside.l1 k1 l1 t216 t219 y222 0 0 0) = some r := by first | (rw [hy222]; with_reducible exact H) | (have H2_ := (Option.bind_some _ _).symm.trans H; rw [hy222]; with_reducible exact H2_) | (have H2_ := (Option.bind_some _ _).symm.trans H; with_reducible exact H2_) | with_reducible exact H | (rw [hy222]; exact H) | exact H
      have Ny222 := Aside0.mk hy222
      clear hy222
      have H' := Aside0.mk H
      clear H
      obtain ⟨Ao13, co13, eo13⟩ := Kd.R_slice HO_5.out
      subst eo13
      go_wp2_with (first | (go_at_call 39; (with_reducible refine (thistleref02_merged.calls k1 (fun k_ => some k_ = (.slice Ao13 x5_1.length co13 : Value).ownBlock) _ _ x5_1 t216 _ ?side1 A9.out).mono ?_); (case side1 => exact Kd.R_V (Kd.R_tight rfl (HO_5.out))); rintro e w14 ⟨v217, rfl, ho0, hb⟩; have n0_ := Aside0.mk (Kd.R_below (XShort.rr HO_5.out) hb); have n1_ := Aside0.mk (Kd.R_below (XShort.rr HO_6.out) hb); have n2_ := Aside0.mk (Kd.V_lower (Kd.V_mono (ok' := fun k_ => some k_ ≠ (u6 : Value).ownBlock) ho0 (fun k_ hk_ => Or.elim hk_ (fun hs_ => ((HO_5.out).1 k_ hs_.symm)) (fun hn_ => (Kd.fresh' (Kd.R_lt (XShort.rr HO_6.out)) k_ hn_)))) (below_size XShort.bel)); have n3_ := Aside0.mk (below_step XShort.bel hb); clear HO_5; clear HO_6; clear HB; have HO_5 := n0_; have HO_6 := n1_; have HO218 := n2_; have HB := n3_; clear n0_ n1_ n2_ n3_; (try clear hb); (try clear hb2); (try clear hk); (try clear hi); (try clear ho0); obtain ⟨Ao15, co15, eo15⟩ := Kd.R_slice HO_6.out; subst eo15) | (go_at_call 39; (with_reducible refine (thistleref02_merged.calls k1 (fun k_ => some k_ = (.slice Ao15 x6_1.length co15 : Value).ownBlock) _ _ x6_1 t219 _ ?side1 A10.out).mono ?_); (case side1 => exact Kd.R_V (Kd.R_tight rfl (HO_6.out))); rintro e w16 ⟨v220, rfl, ho0, hb⟩; have n0_ := Aside0.mk (Kd.R_below (XShort.rr HO_5.out) hb); have n1_ := Aside0.mk (Kd.R_below (XShort.rr HO_6.out) hb); have n2_ := Aside0.mk (Kd.V_below (XShort.vv HO218.out) hb); have n3_ := Aside0.mk (Kd.V_lower (Kd.V_mono (ok' := fun k_ => some k_ ≠ (.slice Ao13 x5_1.length co13 : Value).ownBlock) ho0 (fun k_ hk_ => Or.elim hk_ (fun hs_ => ((HO_6.out).1 k_ hs_.symm)) (fun hn_ => (Kd.fresh' (Kd.R_lt (XShort.rr HO_5.out)) k_ hn_)))) (below_size XShort.bel)); have n4_ := Aside0.mk (below_step XShort.bel hb); clear HO_5; clear HO_6; clear HO218; clear HB; have HO_5 := n0_; have HO_6 := n1_; have HO218 := n2_; have HO221 := n3_; have HB := n4_; clear n0_ n1_ n2_ n3_ n4_; (try clear hb); (try clear hb2); (try clear hk); (try clear hi); (try clear ho0)) | ((with_reducible refine gate_dst (N := 42) rfl ?_); refine Kd.R_make Kd.bool _ 4 rfl (N := 42) rfl 57 _ _ rfl (l1.length : Int) rfl rfl Tryd.underlying57 (.bool false) 1 info4 rfl (by decide) (by omega) false (ok := fun _ => True) (okp := fun _ => True) rfl (fun _ hk => hk) trivial (of_decide_eq_true XShort.asm) (Nat.le_trans (Nat.mul_le_mul_right _ (of_decide_eq_true XShort.asm : (l1.length : Int).toNat ≤ 281474976710656)) (by omega)) (Below.refl _ _) (Nat.le_refl _) ?_; intro v223 w17 ho18 hb hg_ hnew_; clear hg_ hnew_; (first | rw [← Ny222.out] at ho18 | (simp only [Int.reduceToNat] at ho18; rw [← Ny222.out] at ho18)); have n0_ := Aside0.mk (Kd.R_below (XShort.rr HO_5.out) hb); have n1_ := Aside0.mk (Kd.R_below (XShort.rr HO_6.out) hb); have n2_ := Aside0.mk (Kd.V_elder' (XShort.vv HO218.out) (Kd.R_base ho18) hb); have n3_ := Aside0.mk (Kd.V_elder' (XShort.vv HO221.out) (Kd.R_base ho18) hb); have n4_ := Aside0.mk (Kd.R_lower ho18 (below_size XShort.bel)); have n5_ := Aside0.mk (below_step XShort.bel hb); clear HO_5; clear HO_6; clear HO218; clear HO221; clear HB; have HO_5 := n0_; have HO_6 := n1_; have HO218 := n2_; have HO221 := n3_; have HO224 := n4_; have HB := n5_; clear n0_ n1_ n2_ n3_ n4_ n5_; clear hb ho18))
      repeat (go_quiet (first | (go_at_call 39; (with_reducible refine (thistleref02_merged.calls k1 (fun k_ => some k_ = (.slice Ao13 x5_1.length co13 : Value).ownBlock) _ _ x5_1 t216 _ ?side1 A9.out).mono ?_); (case side1 => exact Kd.R_V (Kd.R_tight rfl (HO_5.out))); rintro e w14 ⟨v217, rfl, ho0, hb⟩; have n0_ := Aside0.mk (Kd.R_below (XShort.rr HO_5.out) hb); have n1_ := Aside0.mk (Kd.R_below (XShort.rr HO_6.out) hb); have n2_ := Aside0.mk (Kd.V_lower (Kd.V_mono (ok' := fun k_ => some k_ ≠ (u6 : Value).ownBlock) ho0 (fun k_ hk_ => Or.elim hk_ (fun hs_ => ((HO_5.out).1 k_ hs_.symm)) (fun hn_ => (Kd.fresh' (Kd.R_lt (XShort.rr HO_6.out)) k_ hn_)))) (below_size XShort.bel)); have n3_ := Aside0.mk (below_step XShort.bel hb); clear HO_5; clear HO_6; clear HB; have HO_5 := n0_; have HO_6 := n1_; have HO218 := n2_; have HB := n3_; clear n0_ n1_ n2_ n3_; (try clear hb); (try clear hb2); (try clear hk); (try clear hi); (try clear ho0); obtain ⟨Ao15, co15, eo15⟩ := Kd.R_slice HO_6.out; subst eo15) | (go_at_call 39; (with_reducible refine (thistleref02_merged.calls k1 (fun k_ => some k_ = (.slice Ao15 x6_1.length co15 : Value).ownBlock) _ _ x6_1 t219 _ ?side1 A10.out).mono ?_); (case side1 => exact Kd.R_V (Kd.R_tight rfl (HO_6.out))); rintro e w16 ⟨v220, rfl, ho0, hb⟩; have n0_ := Aside0.mk (Kd.R_below (XShort.rr HO_5.out) hb); have n1_ := Aside0.mk (Kd.R_below (XShort.rr HO_6.out) hb); have n2_ := Aside0.mk (Kd.V_below (XShort.vv HO218.out) hb); have n3_ := Aside0.mk (Kd.V_lower (Kd.V_mono (ok' := fun k_ => some k_ ≠ (.slice Ao13 x5_1.length co13 : Value).ownBlock) ho0 (fun k_ hk_ => Or.elim hk_ (fun hs_ => ((HO_6.out).1 k_ hs_.symm)) (fun hn_ => (Kd.fresh' (Kd.R_lt (XShort.rr HO_5.out)) k_ hn_)))) (below_size XShort.bel)); have n4_ := Aside0.mk (below_step XShort.bel hb); clear HO_5; clear HO_6; clear HO218; clear HB; have HO_5 := n0_; have HO_6 := n1_; have HO218 := n2_; have HO221 := n3_; have HB := n4_; clear n0_ n1_ n2_ n3_ n4_; (try clear hb); (try clear hb2); (try clear hk); (try clear hi); (try clear ho0)) | ((with_reducible refine gate_dst (N := 42) rfl ?_); refine Kd.R_make Kd.bool _ 4 rfl (N := 42) rfl 57 _ _ rfl (l1.length : Int) rfl rfl Tryd.underlying57 (.bool false) 1 info4 rfl (by decide) (by omega) false (ok := fun _ => True) (okp := fun _ => True) rfl (fun _ hk => hk) trivial (of_decide_eq_true XShort.asm) (Nat.le_trans (Nat.mul_le_mul_right _ (of_decide_eq_true XShort.asm : (l1.length : Int).toNat ≤ 281474976710656)) (by omega)) (Below.refl _ _) (Nat.le_refl _) ?_; intro v223 w17 ho18 hb hg_ hnew_; clear hg_ hnew_; (first | rw [← Ny222.out] at ho18 | (simp only [Int.reduceToNat] at ho18; rw [← Ny222.out] at ho18)); have n0_ := Aside0.mk (Kd.R_below (XShort.rr HO_5.out) hb); have n1_ := Aside0.mk (Kd.R_below (XShort.rr HO_6.out) hb); have n2_ := Aside0.mk (Kd.V_elder' (XShort.vv HO218.out) (Kd.R_base ho18) hb); have n3_ := Aside0.mk (Kd.V_elder' (XShort.vv HO221.out) (Kd.R_base ho18) hb); have n4_ := Aside0.mk (Kd.R_lower ho18 (below_size XShort.bel)); have n5_ := Aside0.mk (below_step XShort.bel hb); clear HO_5; clear HO_6; clear HO218; clear HO221; clear HB; have HO_5 := n0_; have HO_6 := n1_; have HO218 := n2_; have HO221 := n3_; have HO224 := n4_; have HB := n5_; clear n0_ n1_ n2_ n3_ n4_ n5_; clear hb ho18)); try go_wp2_with (first | (go_at_call 39; (with_reducible refine (thistleref02_merged.calls k1 (fun k_ => some k_ = (.slice Ao13 x5_1.length co13 : Value).ownBlock) _ _ x5_1 t216 _ ?side1 A9.out).mono ?_); (case side1 => exact Kd.R_V (Kd.R_tight rfl (HO_5.out))); rintro e w14 ⟨v217, rfl, ho0, hb⟩; have n0_ := Aside0.mk (Kd.R_below (XShort.rr HO_5.out) hb); have n1_ := Aside0.mk (Kd.R_below (XShort.rr HO_6.out) hb); have n2_ := Aside0.mk (Kd.V_lower (Kd.V_mono (ok' := fun k_ => some k_ ≠ (u6 : Value).ownBlock) ho0 (fun k_ hk_ => Or.elim hk_ (fun hs_ => ((HO_5.out).1 k_ hs_.symm)) (fun hn_ => (Kd.fresh' (Kd.R_lt (XShort.rr HO_6.out)) k_ hn_)))) (below_size XShort.bel)); have n3_ := Aside0.mk (below_step XShort.bel hb); clear HO_5; clear HO_6; clear HB; have HO_5 := n0_; have HO_6 := n1_; have HO218 := n2_; have HB := n3_; clear n0_ n1_ n2_ n3_; (try clear hb); (try clear hb2); (try clear hk); (try clear hi); (try clear ho0); obtain ⟨Ao15, co15, eo15⟩ := Kd.R_slice HO_6.out; subst eo15) | (go_at_call 39; (with_reducible refine (thistleref02_merged.calls k1 (fun k_ => some k_ = (.slice Ao15 x6_1.length co15 : Value).ownBlock) _ _ x6_1 t219 _ ?side1 A10.out).mono ?_); (case side1 => exact Kd.R_V (Kd.R_tight rfl (HO_6.out))); rintro e w16 ⟨v220, rfl, ho0, hb⟩; have n0_ := Aside0.mk (Kd.R_below (XShort.rr HO_5.out) hb); have n1_ := Aside0.mk (Kd.R_below (XShort.rr HO_6.out) hb); have n2_ := Aside0.mk (Kd.V_below (XShort.vv HO218.out) hb); have n3_ := Aside0.mk (Kd.V_lower (Kd.V_mono (ok' := fun k_ => some k_ ≠ (.slice Ao13 x5_1.length co13 : Value).ownBlock) ho0 (fun k_ hk_ => Or.elim hk_ (fun hs_ => ((HO_6.out).1 k_ hs_.symm)) (fun hn_ => (Kd.fresh' (Kd.R_lt (XShort.rr HO_5.out)) k_ hn_)))) (below_size XShort.bel)); have n4_ := Aside0.mk (below_step XShort.bel hb); clear HO_5; clear HO_6; clear HO218; clear HB; have HO_5 := n0_; have HO_6 := n1_; have HO218 := n2_; have HO221 := n3_; have HB := n4_; clear n0_ n1_ n2_ n3_ n4_; (try clear hb); (try clear hb2); (try clear hk); (try clear hi); (try clear ho0)) | ((with_reducible refine gate_dst (N := 42) rfl ?_); refine Kd.R_make Kd.bool _ 4 rfl (N := 42) rfl 57 _ _ rfl (l1.length : Int) rfl rfl Tryd.underlying57 (.bool false) 1 info4 rfl (by decide) (by omega) false (ok := fun _ => True) (okp := fun _ => True) rfl (fun _ hk => hk) trivial (of_decide_eq_true XShort.asm) (Nat.le_trans (Nat.mul_le_mul_right _ (of_decide_eq_true XShort.asm : (l1.length : Int).toNat ≤ 281474976710656)) (by omega)) (Below.refl _ _) (Nat.le_refl _) ?_; intro v223 w17 ho18 hb hg_ hnew_; clear hg_ hnew_; (first | rw [← Ny222.out] at ho18 | (simp only [Int.reduceToNat] at ho18; rw [← Ny222.out] at ho18)); have n0_ := Aside0.mk (Kd.R_below (XShort.rr HO_5.out) hb); have n1_ := Aside0.mk (Kd.R_below (XShort.rr HO_6.out) hb); have n2_ := Aside0.mk (Kd.V_elder' (XShort.vv HO218.out) (Kd.R_base ho18) hb); have n3_ := Aside0.mk (Kd.V_elder' (XShort.vv HO221.out) (Kd.R_base ho18) hb); have n4_ := Aside0.mk (Kd.R_lower ho18 (below_size XShort.bel)); have n5_ := Aside0.mk (below_step XShort.bel hb); clear HO_5; clear HO_6; clear HO218; clear HO221; clear HB; have HO_5 := n0_; have HO_6 := n1_; have HO218 := n2_; have HO221 := n3_; have HO224 := n4_; have HB := n5_; clear n0_ n1_ n2_ n3_ n4_ n5_; clear hb ho18)))
      go_loopg [9, 10, 11] k1 (fun kq v9 v10 v11 w' => ∃ (x8_2 : List Bool) (x9_2 : Int) (x10_2 : Int) (x11_2 : Int), v9 = .int .i64 x9_2 ∧ v10 = .int .i64 x10_2 ∧ v11 = .int .i64 x11_2 ∧ Aside0 (thistleref02_inside.l1 kq l1 t216 t219 x8_2 x9_2 x10_2 x11_2 = some r) ∧ Aside0 (kq ≤ k1) ∧ Aside0 (Kd.V (Kd.int .i64) 3 w' w.heap.size (fun k_ => some k_ ≠ (v223 : Value).ownBlock) v217 t216) ∧ Aside0 (Kd.V (Kd.int .i64) 3 w' w.heap.size (fun k_ => some k_ ≠ (v223 : Value).ownBlock) v220 t219) ∧ Aside0 (Kd.R Kd.bool 4 w' w.heap.size (fun _ => True) v223 x8_2) ∧ Aside0 (Below w.heap.size w w'))
      case atStart => exact ⟨(y222), (0), (0), (0), XShort.eqs, XShort.eqs, XShort.eqs, H', ⟨Nat.le_refl _⟩, ⟨by (with_reducible repeat (first | apply Kd.V_alloc | apply Kd.V_drewN | apply Kd.V_drew)); exact Kd.V_mono HO218.out (fun _ hk => hk.2)⟩, ⟨by (with_reducible repeat (first | apply Kd.V_alloc | apply Kd.V_drewN | apply Kd.V_drew)); exact Kd.V_mono HO221.out (fun _ hk => hk.2)⟩, ⟨by (with_reducible repeat (first | apply Kd.R_alloc | apply Kd.R_drewN | apply Kd.R_drew)); exact HO224.out⟩, ⟨XShort.bel⟩⟩
      case round =>
       clear H'
       try clear c1
       try clear c2
       try clear p2
       try clear q2
       try clear hx2
       try clear c3
       try clear c3b0
       try clear c4
       try clear c4b0
       try clear c5
       try clear c6
       try clear p6
       try clear c11
       try clear c11b0
       try clear c11b1
       try clear c12
       try clear c12b0
       try clear c12b1
       try clear hx208_0
       try clear hx208_1
       try clear hx212_0
       try clear hx212_1
       try clear p2
       try clear p208
       try clear p212
       try clear q208
       try clear q212
       obtain ⟨x8_2, x9_2, x10_2, x11_2, rfl, rfl, rfl, HA, HK2, HO_5, HO_6, HO_8, HB⟩ := hrel
       cases gk with
       | zero => exact absurd HA.out (by simp [thistleref02_inside.l1])
       | succ k2 =>
        have H := HA.out
        clear HA
        simp only [thistleref02_inside.l1] at H
        by_cases c19 : x11_2 < (l1.length : Int)
        ·rw [if_pos c19] at H
         have c19b0 : decide (x11_2 < (l1.length : Int)) = true := decide_eq_true c19
         clear c19
         have HC20 := Aside0.mk H
         clear H
         go_upto_block 4 with (fail)
         repeat (go_quiet (fail); go_upto_block 4 with (fail))
         go_cut [9] (fun v9 wc => ∃ (kq : Nat) (x9_19 : Int), v9 = .int .i64 x9_19 ∧ Aside0 (thistleref02_inside.j3 kq l1 t216 t219 x8_2 x9_19 x10_2 x11_2 = some r) ∧ Aside0 (kq ≤ k2) ∧ Aside0 (Kd.V (Kd.int .i64) 3 wc w.heap.size (fun k_ => some k_ ≠ (v223 : Value).ownBlock) v217 t216) ∧ Aside0 (Kd.V (Kd.int .i64) 3 wc w.heap.size (fun k_ => some k_ ≠ (v223 : Value).ownBlock) v220 t219) ∧ Aside0 (Kd.R Kd.bool 4 wc w.heap.size (fun _ => True) v223 x8_2) ∧ Aside0 (Below w.heap.size w wc))
         case first =>
          have H := HC20.out
          clear HC20
          have H' := Aside0.mk H
          clear H
          go_wp2
          repeat (go_quiet (fail); try go_wp2)
          go_loopg [9] k2 (fun kq v9 w' => ∃ (x9_3 : Int), v9 = .int .i64 x9_3 ∧ Aside0 (thistleref02_inside.l2 kq l1 t216 t219 x8_2 x9_3 x10_2 x11_2 = some r) ∧ Aside0 (kq ≤ k2) ∧ Aside0 (Kd.V (Kd.int .i64) 3 w' w.heap.size (fun k_ => some k_ ≠ (v223 : Value).ownBlock) v217 t216) ∧ Aside0 (Kd.V (Kd.int .i64) 3 w' w.heap.size (fun k_ => some k_ ≠ (v223 : Value).ownBlock) v220 t219) ∧ Aside0 (Kd.R Kd.bool 4 w' w.heap.size (fun _ => True) v223 x8_2) ∧ Aside0 (Below w.heap.size w w'))
          case atStart => exact ⟨(x9_2), XShort.eqs, H', ⟨Nat.le_refl _⟩, ⟨by (with_reducible repeat (first | apply Kd.V_alloc | apply Kd.V_drewN | apply Kd.V_drew)); exact HO_5.out⟩, ⟨by (with_reducible repeat (first | apply Kd.V_alloc | apply Kd.V_drewN | apply Kd.V_drew)); exact HO_6.out⟩, ⟨by (with_reducible repeat (first | apply Kd.R_alloc | apply Kd.R_drewN | apply Kd.R_drew)); exact HO_8.out⟩, ⟨XShort.bel⟩⟩
          case round =>
           clear H'
           try clear c1
           try clear c2
           try clear p2
           try clear q2
           try clear hx2
           try clear c3
           try clear c3b0
           try clear c4
           try clear c4b0
           try clear c5
           try clear c6
           try clear p6
           try clear c11
           try clear c11b0
           try clear c11b1
           try clear c12
           try clear c12b0
           try clear c12b1
           try clear c19
           try clear c19b0
           try clear p20
           try clear q20
           try clear hx20
           try clear hx208_0
           try clear hx208_1
           try clear hx212_0
           try clear hx212_1
           try clear p2
           try clear p208
           try clear p212
           try clear p6
           try clear q2
           try clear q208
           try clear q212
           obtain ⟨x9_3, rfl, HA, HK3, HO_5, HO_6, HO_8, HB⟩ := hrel
           cases gk with
           | zero => exact absurd HA.out (by simp [thistleref02_inside.l2])
           | succ k3 =>
            have H := HA.out
            clear HA
            simp only [thistleref02_inside.l2] at H
            by_cases c21 : x9_3 < (t216.length : Int)
            ·rw [if_pos c21] at H
             have c21b0 : decide (x9_3 < (t216.length : Int)) = true := decide_eq_true c21
             clear c21
             (first | rw [c21b0] | (simp only [i64_w, i32_w]; rw [c21b0]) | skip)
             by_cases c22 : 0 ≤ x9_3
             ·rw [if_pos c22] at H
              have c22b0 : decide (0 ≤ x9_3) = true := decide_eq_true c22
              clear c22
              by_cases c23 : 0 ≤ x11_2
              ·rw [if_pos c23] at H
               have c23b0 : decide (0 ≤ x11_2) = true := decide_eq_true c23
               clear c23
               by_cases c24 : x11_2 < (l1.length : Int)
               ·rw [if_pos c24] at H
                have c24b0 : decide (x11_2 < (l1.length : Int)) = true := decide_eq_true c24
                clear c24
                by_cases c25 : (rd t216 x9_3) ≤ ((rd_T61 l1 x11_2).f0)
                ·rw [if_pos c25] at H
                 have c25b0 : decide ((rd t216 x9_3) ≤ ((rd_T61 l1 x11_2).f0)) = true := decide_eq_true c25
                 clear c25
                 have H' := Aside0.mk H
                 clear H
                 obtain ⟨Ao26, co26, eo26⟩ := Kd.V_slice HO_5.out
                 subst eo26
                 have p225 : 0 ≤ (x9_3 : Int) := of_decide_eq_true XShort.asm
                 have q225 : x9_3 < (t216.length : Int) := of_decide_eq_true XShort.asm
                 obtain ⟨ad225, e225, hx225_0⟩ := Kd.at_int (Kd.V_reads' HO_5.out).2.2 x9_3 p225 q225
                 cases e225
                 replace p225 := eq_true p225
                 replace q225 := eq_true q225
                 have p226 : 0 ≤ (x11_2 : Int) := of_decide_eq_true XShort.asm
                 have q226 : x11_2 < (l1.length : Int) := of_decide_eq_true XShort.asm
                 obtain ⟨ad226, e226, hx226_0, hx226_1⟩ := at_T61 HR1.out x11_2 p226 q226
                 cases e226
                 replace hx226_0 := (HB.out.cell (World.block_lt_of_cell? w _ hx226_0)).trans hx226_0
                 replace hx226_1 := (HB.out.cell (World.block_lt_of_cell? w _ hx226_1)).trans hx226_1
                 replace p226 := eq_true p226
                 replace q226 := eq_true q226
                 go_wp2
                 repeat (go_quiet (fail); try go_wp2)
                 go_roundg k3
                 case measure => have := HK1.out; have := HK2.out; have := HK3.out; omega
                 case rel => exact ⟨(wrap64 (x9_3 + 1)), XShort.eqs, H', ⟨by have := HK1.out; have := HK2.out; have := HK3.out; omega⟩, ⟨by (with_reducible repeat (first | apply Kd.V_alloc | apply Kd.V_drewN | apply Kd.V_drew)); exact HO_5.out⟩, ⟨by (with_reducible repeat (first | apply Kd.V_alloc | apply Kd.V_drewN | apply Kd.V_drew)); exact HO_6.out⟩, ⟨by (with_reducible repeat (first | apply Kd.R_alloc | apply Kd.R_drewN | apply Kd.R_drew)); exact HO_8.out⟩, ⟨XShort.bel⟩⟩
                ·rw [if_neg c25] at H
                 have c25b0 : decide ((rd t216 x9_3) ≤ ((rd_T61 l1 x11_2).f0)) = false := decide_eq_false c25
                 clear c25
                 have H' := Aside0.mk H
                 clear H
                 obtain ⟨Ao27, co27, eo27⟩ := Kd.V_slice HO_5.out
                 subst eo27
                 have p225 : 0 ≤ (x9_3 : Int) := of_decide_eq_true XShort.asm
                 have q225 : x9_3 < (t216.length : Int) := of_decide_eq_true XShort.asm
                 obtain ⟨ad225, e225, hx225_0⟩ := Kd.at_int (Kd.V_reads' HO_5.out).2.2 x9_3 p225 q225
                 cases e225
                 replace p225 := eq_true p225
                 replace q225 := eq_true q225
                 have p226 : 0 ≤ (x11_2 : Int) := of_decide_eq_true XShort.asm
                 have q226 : x11_2 < (l1.length : Int) := of_decide_eq_true XShort.asm
                 obtain ⟨ad226, e226, hx226_0, hx226_1⟩ := at_T61 HR1.out x11_2 p226 q226
                 cases e226
                 replace hx226_0 := (HB.out.cell (World.block_lt_of_cell? w _ hx226_0)).trans hx226_0
                 replace hx226_1 := (HB.out.cell (World.block_lt_of_cell? w _ hx226_1)).trans hx226_1
                 replace p226 := eq_true p226
                 replace q226 := eq_true q226
                 go_wp2
                 repeat (go_quiet (fail); try go_wp2)
                 go_meet
                 case rel => exact ⟨_, (x9_3), XShort.eqs, H', ⟨by have := HK1.out; have := HK2.out; have := HK3.out; first | omega | exact Nat.le_refl _⟩, ⟨by (with_reducible repeat (first | apply Kd.V_alloc | apply Kd.V_drewN | apply Kd.V_drew)); exact HO_5.out⟩, ⟨by (with_reducible repeat (first | apply Kd.V_alloc | apply Kd.V_drewN | apply Kd.V_drew)); exact HO_6.out⟩, ⟨by (with_reducible repeat (first | apply Kd.R_alloc | apply Kd.R_drewN | apply Kd.R_drew)); exact HO_8.out⟩, ⟨XShort.bel⟩⟩
               ·rw [if_neg c24] at H
                exact absurd H (by simp)
              ·rw [if_neg c23] at H
               exact absurd H (by simp)
             ·rw [if_neg c22] at H
              exact absurd H (by simp)
            ·rw [if_neg c21] at H
             have c21b0 : decide (x9_3 < (t216.length : Int)) = false := decide_eq_false c21
             clear c21
             (first | rw [c21b0] | (simp only [i64_w, i32_w]; rw [c21b0]) | skip)
             have H' := Aside0.mk H
             clear H
             obtain ⟨Ao28, co28, eo28⟩ := Kd.V_slice HO_5.out
             subst eo28
             go_wp2
             repeat (go_quiet (fail); try go_wp2)
             go_meet
             case rel => exact ⟨_, (x9_3), XShort.eqs, H', ⟨by have := HK1.out; have := HK2.out; have := HK3.out; first | omega | exact Nat.le_refl _⟩, ⟨by (with_reducible repeat (first | apply Kd.V_alloc | apply Kd.V_drewN | apply Kd.V_drew)); exact HO_5.out⟩, ⟨by (with_reducible repeat (first | apply Kd.V_alloc | apply Kd.V_drewN | apply Kd.V_drew)); exact HO_6.out⟩, ⟨by (with_reducible repeat (first | apply Kd.R_alloc | apply Kd.R_drewN | apply Kd.R_drew)); exact HO_8.out⟩, ⟨XShort.bel⟩⟩
         case rest =>
          clear HC20
          try clear c1
          try clear c2
          try clear p2
          try clear q2
          try clear hx2
          try clear c3
          try clear c3b0
          try clear c4
          try clear c4b0
          try clear c5
          try clear c6
          try clear p6
          try clear c11
          try clear c11b0
          try clear c11b1
          try clear c12
          try clear c12b0
          try clear c12b1
          try clear c19
          try clear c19b0
          try clear p20
          try clear q20
          try clear hx20
          try clear c21
          try clear c21b0
          try clear p21
          try clear q21
          try clear hx21
          try clear c22
          try clear c22b0
          try clear p22
          try clear q22
          try clear hx22
          try clear c23
          try clear c23b0
          try clear c24
          try clear c24b0
          try clear c25
          try clear c25b0
          try clear hx208_0
          try clear hx208_1
          try clear hx212_0
          try clear hx212_1
          try clear hx225_0
          try clear hx226_0
          try clear hx226_1
          try clear p2
          try clear p20
          try clear p208
          try clear p212
          try clear p225
          try clear p226
          try clear p6
          try clear q2
          try clear q20
          try clear q208
          try clear q212
          try clear q225
          try clear q226
          obtain ⟨kq, x9_19, rfl, HA, HJ19, HO_5, HO_6, HO_8, HB⟩ := hcut
          cases kq with
          | zero => exact absurd HA.out (by simp [thistleref02_inside.j3])
          | succ kj19 =>
           have H := HA.out
           clear HA
           simp only [thistleref02_inside.j3] at H
           have H' := Aside0.mk H
           clear H
           go_wp2
           repeat (go_quiet (fail); try go_wp2)
           go_loopg [10] kj19 (fun kq v10 w' => ∃ (x10_4 : Int), v10 = .int .i64 x10_4 ∧ Aside0 (thistleref02_inside.l3 kq l1 t216 t219 x8_2 x9_19 x10_4 x11_2 = some r) ∧ Aside0 (kq ≤ kj19) ∧ Aside0 (Kd.V (Kd.int .i64) 3 w' w.heap.size (fun k_ => some k_ ≠ (v223 : Value).ownBlock) v217 t216) ∧ Aside0 (Kd.V (Kd.int .i64) 3 w' w.heap.size (fun k_ => some k_ ≠ (v223 : Value).ownBlock) v220 t219) ∧ Aside0 (Kd.R Kd.bool 4 w' w.heap.size (fun _ => True) v223 x8_2) ∧ Aside0 (Below w.heap.size w w'))
           case atStart => exact ⟨(x10_2), XShort.eqs, H', ⟨Nat.le_refl _⟩, ⟨by (with_reducible repeat (first | apply Kd.V_alloc | apply Kd.V_drewN | apply Kd.V_drew)); exact HO_5.out⟩, ⟨by (with_reducible repeat (first | apply Kd.V_alloc | apply Kd.V_drewN | apply Kd.V_drew)); exact HO_6.out⟩, ⟨by (with_reducible repeat (first | apply Kd.R_alloc | apply Kd.R_drewN | apply Kd.R_drew)); exact HO_8.out⟩, ⟨XShort.bel⟩⟩
           case round =>
            clear H'
            try clear c1
            try clear c2
            try clear p2
            try clear q2
            try clear hx2
            try clear c3
            try clear c3b0
            try clear c4
            try clear c4b0
            try clear c5
            try clear c6
            try clear p6
            try clear c11
            try clear c11b0
            try clear c11b1
            try clear c12
            try clear c12b0
            try clear c12b1
            try clear c19
            try clear c19b0
            try clear p20
            try clear q20
            try clear hx20
            try clear c21
            try clear c21b0
            try clear p21
            try clear q21
            try clear hx21
            try clear c22
            try clear c22b0
            try clear p22
            try clear q22
            try clear hx22
            try clear c23
            try clear c23b0
            try clear c24
            try clear c24b0
            try clear c25
            try clear c25b0
            try clear hx208_0
            try clear hx208_1
            try clear hx212_0
            try clear hx212_1
            try clear hx225_0
            try clear hx226_0
            try clear hx226_1
            try clear p2
            try clear p20
            try clear p208
            try clear p21
            try clear p212
            try clear p22
            try clear p225
            try clear p226
            try clear p6
            try clear q2
            try clear q20
            try clear q208
            try clear q21
            try clear q212
            try clear q22
            try clear q225
            try clear q226
            obtain ⟨x10_4, rfl, HA, HK4, HO_5, HO_6, HO_8, HB⟩ := hrel
            cases gk with
            | zero => exact absurd HA.out (by simp [thistleref02_inside.l3])
            | succ k4 =>
             have H := HA.out
             clear HA
             simp only [thistleref02_inside.l3] at H
             by_cases c29 : x10_4 < (t219.length : Int)
             ·rw [if_pos c29] at H
              have c29b0 : decide (x10_4 < (t219.length : Int)) = true := decide_eq_true c29
              clear c29
              by_cases c30 : 0 ≤ x10_4
              ·rw [if_pos c30] at H
               have c30b0 : decide (0 ≤ x10_4) = true := decide_eq_true c30
               clear c30
               by_cases c31 : 0 ≤ x11_2
               ·rw [if_pos c31] at H
                have c31b0 : decide (0 ≤ x11_2) = true := decide_eq_true c31
                clear c31
                by_cases c32 : x11_2 < (l1.length : Int)
                ·rw [if_pos c32] at H
                 have c32b0 : decide (x11_2 < (l1.length : Int)) = true := decide_eq_true c32
                 clear c32
                 by_cases c33 : (rd t219 x10_4) < ((rd_T61 l1 x11_2).f0)
                 ·rw [if_pos c33] at H
                  have c33b0 : decide ((rd t219 x10_4) < ((rd_T61 l1 x11_2).f0)) = true := decide_eq_true c33
                  clear c33
                  have H' := Aside0.mk H
                  clear H
                  obtain ⟨Ao34, co34, eo34⟩ := Kd.V_slice HO_6.out
                  subst eo34
                  have p227 : 0 ≤ (x10_4 : Int) := of_decide_eq_true XShort.asm
                  have q227 : x10_4 < (t219.length : Int) := of_decide_eq_true XShort.asm
                  obtain ⟨ad227, e227, hx227_0⟩ := Kd.at_int (Kd.V_reads' HO_6.out).2.2 x10_4 p227 q227
                  cases e227
                  replace p227 := eq_true p227
                  replace q227 := eq_true q227
                  have p228 : 0 ≤ (x11_2 : Int) := of_decide_eq_true XShort.asm
                  have q228 : x11_2 < (l1.length : Int) := of_decide_eq_true XShort.asm
                  obtain ⟨ad228, e228, hx228_0, hx228_1⟩ := at_T61 HR1.out x11_2 p228 q228
                  cases e228
                  replace hx228_0 := (HB.out.cell (World.block_lt_of_cell? w _ hx228_0)).trans hx228_0
                  replace hx228_1 := (HB.out.cell (World.block_lt_of_cell? w _ hx228_1)).trans hx228_1
                  replace p228 := eq_true p228
                  replace q228 := eq_true q228
                  go_wp2
                  repeat (go_quiet (fail); try go_wp2)
                  go_roundg k4
                  case measure => have := HK1.out; have := HK2.out; have := HJ19.out; have := HK4.out; omega
                  case rel => exact ⟨(wrap64 (x10_4 + 1)), XShort.eqs, H', ⟨by have := HK1.out; have := HK2.out; have := HJ19.out; have := HK4.out; omega⟩, ⟨by (with_reducible repeat (first | apply Kd.V_alloc | apply Kd.V_drewN | apply Kd.V_drew)); exact HO_5.out⟩, ⟨by (with_reducible repeat (first | apply Kd.V_alloc | apply Kd.V_drewN | apply Kd.V_drew)); exact HO_6.out⟩, ⟨by (with_reducible repeat (first | apply Kd.R_alloc | apply Kd.R_drewN | apply Kd.R_drew)); exact HO_8.out⟩, ⟨XShort.bel⟩⟩
                 ·rw [if_neg c33] at H
                  have c33b0 : decide ((rd t219 x10_4) < ((rd_T61 l1 x11_2).f0)) = false := decide_eq_false c33
                  clear c33
                  by_cases c35 : x11_2 < (x8_2.length : Int)
                  ·rw [if_pos c35] at H
                   have c35b0 : decide (x11_2 < (x8_2.length : Int)) = true := decide_eq_true c35
                   clear c35
                   obtain ⟨y229, hy229⟩ : ∃ y_ : List Bool, y_ = (x8_2.set (x11_2 : Int).toNat (decide (x9_19 > x10_4))) := ⟨_, rfl⟩
                   replace H : (thistleref02_inside.l1 k4 l1 t216 t219 y229 x9_19 x10_4 (wrap64 (x11_2 + 1))) = some r := by first | (rw [hy229]; with_reducible exact H) | (have H2_ := (Option.bind_some _ _).symm.trans H; rw [hy229]; with_reducible exact H2_) | (have H2_ := (Option.bind_some _ _).symm.trans H; with_reducible exact H2_) | with_reducible exact H | (rw [hy229]; exact H) | exact H
                   have Ny229 := Aside0.mk hy229
                   clear hy229
                   have H' := Aside0.mk H
                   clear H
                   obtain ⟨Ao37, co37, eo37⟩ := Kd.V_slice HO_6.out
                   subst eo37
                   have p227 : 0 ≤ (x10_4 : Int) := of_decide_eq_true XShort.asm
                   have q227 : x10_4 < (t219.length : Int) := of_decide_eq_true XShort.asm
                   obtain ⟨ad227, e227, hx227_0⟩ := Kd.at_int (Kd.V_reads' HO_6.out).2.2 x10_4 p227 q227
                   cases e227
                   replace p227 := eq_true p227
                   replace q227 := eq_true q227
                   have p228 : 0 ≤ (x11_2 : Int) := of_decide_eq_true XShort.asm
                   have q228 : x11_2 < (l1.length : Int) := of_decide_eq_true XShort.asm
                   obtain ⟨ad228, e228, hx228_0, hx228_1⟩ := at_T61 HR1.out x11_2 p228 q228
                   cases e228
                   replace hx228_0 := (HB.out.cell (World.block_lt_of_cell? w _ hx228_0)).trans hx228_0
                   replace hx228_1 := (HB.out.cell (World.block_lt_of_cell? w _ hx228_1)).trans hx228_1
                   replace p228 := eq_true p228
                   replace q228 := eq_true q228
                   have p36 : 0 ≤ (x11_2 : Int) := of_decide_eq_true XShort.asm
                   have q36 : (x11_2 : Int) < ((x8_2.length : Int) : Int) := of_decide_eq_true XShort.asm
                   obtain ⟨go36, co36, eo36, gb36, gl36, cl36, HG36⟩ := Kd.R_form HO_8.out (by omega)
                   (first | cases eo36 | (injection eo36 with ea_ en_ ec_; (first | subst ea_ | (injection ea_ with ea_; subst ea_)); subst ec_; clear en_))
                   have GB36 := Aside0.mk gb36
                   have GG36 := Aside0.mk HG36
                   clear gb36 gl36 HG36
                   obtain ⟨hx36_0, hf36_0⟩ := Kd.R_celln false HO_8.out (x11_2 : Int) p36 q36
                   replace p36 := eq_true p36
                   replace q36 := eq_true q36
                   obtain ⟨hy38_, hz38_⟩ := Kd.R_celln false HO_8.out (x11_2 : Int) (of_decide_eq_true XShort.asm) (of_decide_eq_true XShort.asm)
                   have HP38 := Kd.R_putg HO_8.out (x11_2 : Int) (decide (x9_19 > x10_4))
                   go_wp2_with (first | ((with_reducible refine gate_store (t := 4) (p := 90) rfl ?_); (try (rw [drewN_self wr]; generalize hq_ : World.drewN wr _ = wr; have n0_ := Aside0.mk (XLib.V_atd hq_ HO_5.out); have n1_ := Aside0.mk (XLib.V_atd hq_ HO_6.out); have n2_ := Aside0.mk (Kd.R_at hq_ HO_8.out); have n3_ := Aside0.mk (below_at hq_ HB.out); clear hq_ HO_5 HO_6 HO_8 HB; have HO_5 := n0_; have HO_6 := n1_; have HO_8 := n2_; have HB := n3_; clear n0_ n1_ n2_ n3_; (try (obtain ⟨hy38_, hz38_⟩ := Kd.R_celln false HO_8.out (x11_2 : Int) (of_decide_eq_true XShort.asm) (of_decide_eq_true XShort.asm))); (try (have HP38 := Kd.R_putg HO_8.out (x11_2 : Int) (decide (x9_19 > x10_4)))))); refine store_event (t := 4) (p := 90) (v := ?vo_w39) (w1 := (wr.setCell ⟨go36, (x11_2 : Int).toNat, none⟩ (.bool (decide (x9_19 > x10_4))))) ?hg ?ho ?hn ?hr ?_; (case ho => rfl); (case hg => rfl); (case hn => rfl); (case hr => first | (go_simp; done) | (go_simp; rfl)); intro w39 hw; have hg : wr.grownBy w39 (some go36) := (by rw [hw]; exact HP38.2); have hp_ : Kd.R Kd.bool 4 w39 w.heap.size (fun _ => True) (.slice (some ⟨go36, 0, none⟩) x8_2.length co36) y229 := (by rw [hw, Ny229.out]; exact HP38.1); clear HP38; have n0_ := Aside0.mk (Kd.V_afterv (v := (.slice (some ⟨go36, 0, none⟩) x8_2.length co36)) (v1 := (.slice (some ⟨go36, 0, none⟩) x8_2.length co36)) (ok := (fun _ => True)) (by (with_reducible repeat (first | apply Kd.V_alloc | apply Kd.V_drewN | apply Kd.V_drew)); exact Kd.V_mono HO_5.out (fun _ hk => ⟨trivial, hk⟩)) hg (.inl rfl)); have n1_ := Aside0.mk (Kd.V_afterv (v := (.slice (some ⟨go36, 0, none⟩) x8_2.length co36)) (v1 := (.slice (some ⟨go36, 0, none⟩) x8_2.length co36)) (ok := (fun _ => True)) (by (with_reducible repeat (first | apply Kd.V_alloc | apply Kd.V_drewN | apply Kd.V_drew)); exact Kd.V_mono HO_6.out (fun _ hk => ⟨trivial, hk⟩)) hg (.inl rfl)); have n2_ := Aside0.mk (hp_); have n3_ := Aside0.mk ((by rw [hw]; exact below_set (HB.out) GB36.out : Below w.heap.size w w39)); clear HO_5; clear HO_6; clear HO_8; clear HB; have HO_5 := n0_; have HO_6 := n1_; have HO_8 := n2_; have HB := n3_; clear n0_ n1_ n2_ n3_; clear hg hw hp_))
                   repeat (go_quiet (first | ((with_reducible refine gate_store (t := 4) (p := 90) rfl ?_); (try (rw [drewN_self wr]; generalize hq_ : World.drewN wr _ = wr; have n0_ := Aside0.mk (XLib.V_atd hq_ HO_5.out); have n1_ := Aside0.mk (XLib.V_atd hq_ HO_6.out); have n2_ := Aside0.mk (Kd.R_at hq_ HO_8.out); have n3_ := Aside0.mk (below_at hq_ HB.out); clear hq_ HO_5 HO_6 HO_8 HB; have HO_5 := n0_; have HO_6 := n1_; have HO_8 := n2_; have HB := n3_; clear n0_ n1_ n2_ n3_; (try (obtain ⟨hy38_, hz38_⟩ := Kd.R_celln false HO_8.out (x11_2 : Int) (of_decide_eq_true XShort.asm) (of_decide_eq_true XShort.asm))); (try (have HP38 := Kd.R_putg HO_8.out (x11_2 : Int) (decide (x9_19 > x10_4)))))); refine store_event (t := 4) (p := 90) (v := ?vo_w39) (w1 := (wr.setCell ⟨go36, (x11_2 : Int).toNat, none⟩ (.bool (decide (x9_19 > x10_4))))) ?hg ?ho ?hn ?hr ?_; (case ho => rfl); (case hg => rfl); (case hn => rfl); (case hr => first | (go_simp; done) | (go_simp; rfl)); intro w39 hw; have hg : wr.grownBy w39 (some go36) := (by rw [hw]; exact HP38.2); have hp_ : Kd.R Kd.bool 4 w39 w.heap.size (fun _ => True) (.slice (some ⟨go36, 0, none⟩) x8_2.length co36) y229 := (by rw [hw, Ny229.out]; exact HP38.1); clear HP38; have n0_ := Aside0.mk (Kd.V_afterv (v := (.slice (some ⟨go36, 0, none⟩) x8_2.length co36)) (v1 := (.slice (some ⟨go36, 0, none⟩) x8_2.length co36)) (ok := (fun _ => True)) (by (with_reducible repeat (first | apply Kd.V_alloc | apply Kd.V_drewN | apply Kd.V_drew)); exact Kd.V_mono HO_5.out (fun _ hk => ⟨trivial, hk⟩)) hg (.inl rfl)); have n1_ := Aside0.mk (Kd.V_afterv (v := (.slice (some ⟨go36, 0, none⟩) x8_2.length co36)) (v1 := (.slice (some ⟨go36, 0, none⟩) x8_2.length co36)) (ok := (fun _ => True)) (by (with_reducible repeat (first | apply Kd.V_alloc | apply Kd.V_drewN | apply Kd.V_drew)); exact Kd.V_mono HO_6.out (fun _ hk => ⟨trivial, hk⟩)) hg (.inl rfl)); have n2_ := Aside0.mk (hp_); have n3_ := Aside0.mk ((by rw [hw]; exact below_set (HB.out) GB36.out : Below w.heap.size w w39)); clear HO_5; clear HO_6; clear HO_8; clear HB; have HO_5 := n0_; have HO_6 := n1_; have HO_8 := n2_; have HB := n3_; clear n0_ n1_ n2_ n3_; clear hg hw hp_)); try go_wp2_with (first | ((with_reducible refine gate_store (t := 4) (p := 90) rfl ?_); (try (rw [drewN_self wr]; generalize hq_ : World.drewN wr _ = wr; have n0_ := Aside0.mk (XLib.V_atd hq_ HO_5.out); have n1_ := Aside0.mk (XLib.V_atd hq_ HO_6.out); have n2_ := Aside0.mk (Kd.R_at hq_ HO_8.out); have n3_ := Aside0.mk (below_at hq_ HB.out); clear hq_ HO_5 HO_6 HO_8 HB; have HO_5 := n0_; have HO_6 := n1_; have HO_8 := n2_; have HB := n3_; clear n0_ n1_ n2_ n3_; (try (obtain ⟨hy38_, hz38_⟩ := Kd.R_celln false HO_8.out (x11_2 : Int) (of_decide_eq_true XShort.asm) (of_decide_eq_true XShort.asm))); (try (have HP38 := Kd.R_putg HO_8.out (x11_2 : Int) (decide (x9_19 > x10_4)))))); refine store_event (t := 4) (p := 90) (v := ?vo_w39) (w1 := (wr.setCell ⟨go36, (x11_2 : Int).toNat, none⟩ (.bool (decide (x9_19 > x10_4))))) ?hg ?ho ?hn ?hr ?_; (case ho => rfl); (case hg => rfl); (case hn => rfl); (case hr => first | (go_simp; done) | (go_simp; rfl)); intro w39 hw; have hg : wr.grownBy w39 (some go36) := (by rw [hw]; exact HP38.2); have hp_ : Kd.R Kd.bool 4 w39 w.heap.size (fun _ => True) (.slice (some ⟨go36, 0, none⟩) x8_2.length co36) y229 := (by rw [hw, Ny229.out]; exact HP38.1); clear HP38; have n0_ := Aside0.mk (Kd.V_afterv (v := (.slice (some ⟨go36, 0, none⟩) x8_2.length co36)) (v1 := (.slice (some ⟨go36, 0, none⟩) x8_2.length co36)) (ok := (fun _ => True)) (by (with_reducible repeat (first | apply Kd.V_alloc | apply Kd.V_drewN | apply Kd.V_drew)); exact Kd.V_mono HO_5.out (fun _ hk => ⟨trivial, hk⟩)) hg (.inl rfl)); have n1_ := Aside0.mk (Kd.V_afterv (v := (.slice (some ⟨go36, 0, none⟩) x8_2.length co36)) (v1 := (.slice (some ⟨go36, 0, none⟩) x8_2.length co36)) (ok := (fun _ => True)) (by (with_reducible repeat (first | apply Kd.V_alloc | apply Kd.V_drewN | apply Kd.V_drew)); exact Kd.V_mono HO_6.out (fun _ hk => ⟨trivial, hk⟩)) hg (.inl rfl)); have n2_ := Aside0.mk (hp_); have n3_ := Aside0.mk ((by rw [hw]; exact below_set (HB.out) GB36.out : Below w.heap.size w w39)); clear HO_5; clear HO_6; clear HO_8; clear HB; have HO_5 := n0_; have HO_6 := n1_; have HO_8 := n2_; have HB := n3_; clear n0_ n1_ n2_ n3_; clear hg hw hp_)))
                   go_roundg k4
                   case measure => have := HK1.out; have := HK2.out; have := HJ19.out; have := HK4.out; omega
                   case rel => exact ⟨(y229), (x9_19), (x10_4), (wrap64 (x11_2 + 1)), XShort.eqs, XShort.eqs, XShort.eqs, H', ⟨by have := HK1.out; have := HK2.out; have := HJ19.out; have := HK4.out; omega⟩, ⟨by (with_reducible repeat (first | apply Kd.V_alloc | apply Kd.V_drewN | apply Kd.V_drew)); exact Kd.V_mono HO_5.out (fun _ hk => hk.2)⟩, ⟨by (with_reducible repeat (first | apply Kd.V_alloc | apply Kd.V_drewN | apply Kd.V_drew)); exact Kd.V_mono HO_6.out (fun _ hk => hk.2)⟩, ⟨by (with_reducible repeat (first | apply Kd.R_alloc | apply Kd.R_drewN | apply Kd.R_drew)); exact HO_8.out⟩, ⟨XShort.bel⟩⟩
                  ·rw [if_neg c35] at H
                   exact absurd H (by simp)
                ·rw [if_neg c32] at H
                 exact absurd H (by simp)
               ·rw [if_neg c31] at H
                exact absurd H (by simp)
              ·rw [if_neg c30] at H
               exact absurd H (by simp)
             ·rw [if_neg c29] at H
              have c29b0 : decide (x10_4 < (t219.length : Int)) = false := decide_eq_false c29
              clear c29
              by_cases c40 : 0 ≤ x11_2
              ·rw [if_pos c40] at H
               have c40b0 : decide (0 ≤ x11_2) = true := decide_eq_true c40
               clear c40
               by_cases c41 : x11_2 < (x8_2.length : Int)
               ·rw [if_pos c41] at H
                have c41b0 : decide (x11_2 < (x8_2.length : Int)) = true := decide_eq_true c41
                clear c41
                obtain ⟨y230, hy230⟩ : ∃ y_ : List Bool, y_ = (x8_2.set (x11_2 : Int).toNat (decide (x9_19 > x10_4))) := ⟨_, rfl⟩
                replace H : (thistleref02_inside.l1 k4 l1 t216 t219 y230 x9_19 x10_4 (wrap64 (x11_2 + 1))) = some r := by first | (rw [hy230]; with_reducible exact H) | (have H2_ := (Option.bind_some _ _).symm.trans H; rw [hy230]; with_reducible exact H2_) | (have H2_ := (Option.bind_some _ _).symm.trans H; with_reducible exact H2_) | with_reducible exact H | (rw [hy230]; exact H) | exact H
                have Ny230 := Aside0.mk hy230
                clear hy230
                have H' := Aside0.mk H
                clear H
                obtain ⟨Ao43, co43, eo43⟩ := Kd.V_slice HO_6.out
                subst eo43
                have p42 : 0 ≤ (x11_2 : Int) := of_decide_eq_true XShort.asm
                have q42 : (x11_2 : Int) < ((x8_2.length : Int) : Int) := of_decide_eq_true XShort.asm
                obtain ⟨go42, co42, eo42, gb42, gl42, cl42, HG42⟩ := Kd.R_form HO_8.out (by omega)
                (first | cases eo42 | (injection eo42 with ea_ en_ ec_; (first | subst ea_ | (injection ea_ with ea_; subst ea_)); subst ec_; clear en_))
                have GB42 := Aside0.mk gb42
                have GG42 := Aside0.mk HG42
                clear gb42 gl42 HG42
                obtain ⟨hx42_0, hf42_0⟩ := Kd.R_celln false HO_8.out (x11_2 : Int) p42 q42
                replace p42 := eq_true p42
                replace q42 := eq_true q42
                obtain ⟨hy44_, hz44_⟩ := Kd.R_celln false HO_8.out (x11_2 : Int) (of_decide_eq_true XShort.asm) (of_decide_eq_true XShort.asm)
                have HP44 := Kd.R_putg HO_8.out (x11_2 : Int) (decide (x9_19 > x10_4))
                go_wp2_with (first | ((with_reducible refine gate_store (t := 4) (p := 90) rfl ?_); (try (rw [drewN_self wr]; generalize hq_ : World.drewN wr _ = wr; have n0_ := Aside0.mk (XLib.V_atd hq_ HO_5.out); have n1_ := Aside0.mk (XLib.V_atd hq_ HO_6.out); have n2_ := Aside0.mk (Kd.R_at hq_ HO_8.out); have n3_ := Aside0.mk (below_at hq_ HB.out); clear hq_ HO_5 HO_6 HO_8 HB; have HO_5 := n0_; have HO_6 := n1_; have HO_8 := n2_; have HB := n3_; clear n0_ n1_ n2_ n3_; (try (obtain ⟨hy44_, hz44_⟩ := Kd.R_celln false HO_8.out (x11_2 : Int) (of_decide_eq_true XShort.asm) (of_decide_eq_true XShort.asm))); (try (have HP44 := Kd.R_putg HO_8.out (x11_2 : Int) (decide (x9_19 > x10_4)))))); refine store_event (t := 4) (p := 90) (v := ?vo_w45) (w1 := (wr.setCell ⟨go42, (x11_2 : Int).toNat, none⟩ (.bool (decide (x9_19 > x10_4))))) ?hg ?ho ?hn ?hr ?_; (case ho => rfl); (case hg => rfl); (case hn => rfl); (case hr => first | (go_simp; done) | (go_simp; rfl)); intro w45 hw; have hg : wr.grownBy w45 (some go42) := (by rw [hw]; exact HP44.2); have hp_ : Kd.R Kd.bool 4 w45 w.heap.size (fun _ => True) (.slice (some ⟨go42, 0, none⟩) x8_2.length co42) y230 := (by rw [hw, Ny230.out]; exact HP44.1); clear HP44; have n0_ := Aside0.mk (Kd.V_afterv (v := (.slice (some ⟨go42, 0, none⟩) x8_2.length co42)) (v1 := (.slice (some ⟨go42, 0, none⟩) x8_2.length co42)) (ok := (fun _ => True)) (by (with_reducible repeat (first | apply Kd.V_alloc | apply Kd.V_drewN | apply Kd.V_drew)); exact Kd.V_mono HO_5.out (fun _ hk => ⟨trivial, hk⟩)) hg (.inl rfl)); have n1_ := Aside0.mk (Kd.V_afterv (v := (.slice (some ⟨go42, 0, none⟩) x8_2.length co42)) (v1 := (.slice (some ⟨go42, 0, none⟩) x8_2.length co42)) (ok := (fun _ => True)) (by (with_reducible repeat (first | apply Kd.V_alloc | apply Kd.V_drewN | apply Kd.V_drew)); exact Kd.V_mono HO_6.out (fun _ hk => ⟨trivial, hk⟩)) hg (.inl rfl)); have n2_ := Aside0.mk (hp_); have n3_ := Aside0.mk ((by rw [hw]; exact below_set (HB.out) GB42.out : Below w.heap.size w w45)); clear HO_5; clear HO_6; clear HO_8; clear HB; have HO_5 := n0_; have HO_6 := n1_; have HO_8 := n2_; have HB := n3_; clear n0_ n1_ n2_ n3_; clear hg hw hp_))
                repeat (go_quiet (first | ((with_reducible refine gate_store (t := 4) (p := 90) rfl ?_); (try (rw [drewN_self wr]; generalize hq_ : World.drewN wr _ = wr; have n0_ := Aside0.mk (XLib.V_atd hq_ HO_5.out); have n1_ := Aside0.mk (XLib.V_atd hq_ HO_6.out); have n2_ := Aside0.mk (Kd.R_at hq_ HO_8.out); have n3_ := Aside0.mk (below_at hq_ HB.out); clear hq_ HO_5 HO_6 HO_8 HB; have HO_5 := n0_; have HO_6 := n1_; have HO_8 := n2_; have HB := n3_; clear n0_ n1_ n2_ n3_; (try (obtain ⟨hy44_, hz44_⟩ := Kd.R_celln false HO_8.out (x11_2 : Int) (of_decide_eq_true XShort.asm) (of_decide_eq_true XShort.asm))); (try (have HP44 := Kd.R_putg HO_8.out (x11_2 : Int) (decide (x9_19 > x10_4)))))); refine store_event (t := 4) (p := 90) (v := ?vo_w45) (w1 := (wr.setCell ⟨go42, (x11_2 : Int).toNat, none⟩ (.bool (decide (x9_19 > x10_4))))) ?hg ?ho ?hn ?hr ?_; (case ho => rfl); (case hg => rfl); (case hn => rfl); (case hr => first | (go_simp; done) | (go_simp; rfl)); intro w45 hw; have hg : wr.grownBy w45 (some go42) := (by rw [hw]; exact HP44.2); have hp_ : Kd.R Kd.bool 4 w45 w.heap.size (fun _ => True) (.slice (some ⟨go42, 0, none⟩) x8_2.length co42) y230 := (by rw [hw, Ny230.out]; exact HP44.1); clear HP44; have n0_ := Aside0.mk (Kd.V_afterv (v := (.slice (some ⟨go42, 0, none⟩) x8_2.length co42)) (v1 := (.slice (some ⟨go42, 0, none⟩) x8_2.length co42)) (ok := (fun _ => True)) (by (with_reducible repeat (first | apply Kd.V_alloc | apply Kd.V_drewN | apply Kd.V_drew)); exact Kd.V_mono HO_5.out (fun _ hk => ⟨trivial, hk⟩)) hg (.inl rfl)); have n1_ := Aside0.mk (Kd.V_afterv (v := (.slice (some ⟨go42, 0, none⟩) x8_2.length co42)) (v1 := (.slice (some ⟨go42, 0, none⟩) x8_2.length co42)) (ok := (fun _ => True)) (by (with_reducible repeat (first | apply Kd.V_alloc | apply Kd.V_drewN | apply Kd.V_drew)); exact Kd.V_mono HO_6.out (fun _ hk => ⟨trivial, hk⟩)) hg (.inl rfl)); have n2_ := Aside0.mk (hp_); have n3_ := Aside0.mk ((by rw [hw]; exact below_set (HB.out) GB42.out : Below w.heap.size w w45)); clear HO_5; clear HO_6; clear HO_8; clear HB; have HO_5 := n0_; have HO_6 := n1_; have HO_8 := n2_; have HB := n3_; clear n0_ n1_ n2_ n3_; clear hg hw hp_)); try go_wp2_with (first | ((with_reducible refine gate_store (t := 4) (p := 90) rfl ?_); (try (rw [drewN_self wr]; generalize hq_ : World.drewN wr _ = wr; have n0_ := Aside0.mk (XLib.V_atd hq_ HO_5.out); have n1_ := Aside0.mk (XLib.V_atd hq_ HO_6.out); have n2_ := Aside0.mk (Kd.R_at hq_ HO_8.out); have n3_ := Aside0.mk (below_at hq_ HB.out); clear hq_ HO_5 HO_6 HO_8 HB; have HO_5 := n0_; have HO_6 := n1_; have HO_8 := n2_; have HB := n3_; clear n0_ n1_ n2_ n3_; (try (obtain ⟨hy44_, hz44_⟩ := Kd.R_celln false HO_8.out (x11_2 : Int) (of_decide_eq_true XShort.asm) (of_decide_eq_true XShort.asm))); (try (have HP44 := Kd.R_putg HO_8.out (x11_2 : Int) (decide (x9_19 > x10_4)))))); refine store_event (t := 4) (p := 90) (v := ?vo_w45) (w1 := (wr.setCell ⟨go42, (x11_2 : Int).toNat, none⟩ (.bool (decide (x9_19 > x10_4))))) ?hg ?ho ?hn ?hr ?_; (case ho => rfl); (case hg => rfl); (case hn => rfl); (case hr => first | (go_simp; done) | (go_simp; rfl)); intro w45 hw; have hg : wr.grownBy w45 (some go42) := (by rw [hw]; exact HP44.2); have hp_ : Kd.R Kd.bool 4 w45 w.heap.size (fun _ => True) (.slice (some ⟨go42, 0, none⟩) x8_2.length co42) y230 := (by rw [hw, Ny230.out]; exact HP44.1); clear HP44; have n0_ := Aside0.mk (Kd.V_afterv (v := (.slice (some ⟨go42, 0, none⟩) x8_2.length co42)) (v1 := (.slice (some ⟨go42, 0, none⟩) x8_2.length co42)) (ok := (fun _ => True)) (by (with_reducible repeat (first | apply Kd.V_alloc | apply Kd.V_drewN | apply Kd.V_drew)); exact Kd.V_mono HO_5.out (fun _ hk => ⟨trivial, hk⟩)) hg (.inl rfl)); have n1_ := Aside0.mk (Kd.V_afterv (v := (.slice (some ⟨go42, 0, none⟩) x8_2.length co42)) (v1 := (.slice (some ⟨go42, 0, none⟩) x8_2.length co42)) (ok := (fun _ => True)) (by (with_reducible repeat (first | apply Kd.V_alloc | apply Kd.V_drewN | apply Kd.V_drew)); exact Kd.V_mono HO_6.out (fun _ hk => ⟨trivial, hk⟩)) hg (.inl rfl)); have n2_ := Aside0.mk (hp_); have n3_ := Aside0.mk ((by rw [hw]; exact below_set (HB.out) GB42.out : Below w.heap.size w w45)); clear HO_5; clear HO_6; clear HO_8; clear HB; have HO_5 := n0_; have HO_6 := n1_; have HO_8 := n2_; have HB := n3_; clear n0_ n1_ n2_ n3_; clear hg hw hp_)))
                go_roundg k4
                case measure => have := HK1.out; have := HK2.out; have := HJ19.out; have := HK4.out; omega
                case rel => exact ⟨(y230), (x9_19), (x10_4), (wrap64 (x11_2 + 1)), XShort.eqs, XShort.eqs, XShort.eqs, H', ⟨by have := HK1.out; have := HK2.out; have := HJ19.out; have := HK4.out; omega⟩, ⟨by (with_reducible repeat (first | apply Kd.V_alloc | apply Kd.V_drewN | apply Kd.V_drew)); exact Kd.V_mono HO_5.out (fun _ hk => hk.2)⟩, ⟨by (with_reducible repeat (first | apply Kd.V_alloc | apply Kd.V_drewN | apply Kd.V_drew)); exact Kd.V_mono HO_6.out (fun _ hk => hk.2)⟩, ⟨by (with_reducible repeat (first | apply Kd.R_alloc | apply Kd.R_drewN | apply Kd.R_drew)); exact HO_8.out⟩, ⟨XShort.bel⟩⟩
               ·rw [if_neg c41] at H
                exact absurd H (by simp)
              ·rw [if_neg c40] at H
               exact absurd H (by simp)
        ·rw [if_neg c19] at H
         have c19b0 : decide (x11_2 < (l1.length : Int)) = false := decide_eq_false c19
         clear c19
         obtain rfl := Option.some.inj H
         go_wp2
         repeat (go_quiet (fail); try go_wp2)
         go_ret
         exact ⟨_, by first | rfl | (simp [errW_none, errW_some] <;> rfl) | (simp [*, errW_none, errW_some] <;> rfl), by (with_reducible repeat (first | apply Kd.R_alloc | apply Kd.R_drewN | apply Kd.R_drew)); exact HO_8.out, XShort.bel⟩
     ·rw [if_neg c12] at H
      exact absurd H (by simp)
    ·rw [if_neg c11] at H
     exact absurd H (by simp)

/-! ### thistleref02_join: function 23 -/
def thistleref02_join.f (l0 : List (S30)) (a1_0 : Int) (a1_1 : Int) : Option ((List (S30))) := if (l0.length : Int) > 0 then (if 0 ≤ (wrap64 ((l0.length : Int) - 1)) then (if (wrap64 ((l0.length : Int) - 1)) < (l0.length : Int) then (if (wrap64 ((wrap64 ((rd_T30 l0 (wrap64 ((l0.length : Int) - 1))).f1)) + 1)) = a1_0 then (some (l0.set ((wrap64 ((l0.length : Int) - 1)) : Int).toNat (⟨(rd_T30 l0 (wrap64 ((l0.length : Int) - 1))).f0, wrap32 (a1_1)⟩ : S30))) else (if l0.length < 17592186044416 then (some (l0 ++ [(⟨wrap32 (a1_0), wrap32 (a1_1)⟩ : S30)])) else (none))) else (none)) else (none)) else (if l0.length < 17592186044416 then (some (l0 ++ [(⟨wrap32 (a1_0), wrap32 (a1_1)⟩ : S30)])) else (none))
set_option maxHeartbeats 8000000 in
set_option maxRecDepth 100000 in
theorem thistleref02_join.calls (P0_ : Nat → Prop) (u9000_ : Value) (l0 : List (S30)) (a1_0 : Int) (a1_1 : Int) (r : List (S30)) (w0 w : World) (hB : Below w0.heap.size w0 w) (ho0 : Kd.R k30 30 w w0.heap.size P0_ u9000_ l0) (h : thistleref02_join.f l0 a1_0 a1_1 = some r) :
  Calls Tryd.prog 23 #[u9000_, .agg #[.int .i64 a1_0, .int .i64 a1_1]] w fun e w' => ∃ v0_ : Value, e = .returned (v0_) ∧ Kd.R k30 30 w' w0.heap.size (fun k_ => (P0_ k_ ∨ w.heap.size ≤ k_)) v0_ r ∧ Below w0.heap.size w0 w' ∧ Kept w w' (fun k_ => P0_ k_) := by
 have hu61 := Tryd.underlying61
 have hu30 := Tryd.underlying30
 have HO0 := Aside0.mk (show Kd.R k30 30 w w0.heap.size (fun k_ => (P0_ k_ ∨ w.heap.size ≤ k_)) u9000_ l0 from Kd.R_mono ho0 (fun k_ hk => (.inl hk)))
 have HK := Aside0.mk (Kept.refl w (fun k_ => P0_ k_))
 have HW0 := Aside0.mk hB.size
 have HB := Aside0.mk hB
 clear hB
 have H : (if (l0.length : Int) > 0 then (if 0 ≤ (wrap64 ((l0.length : Int) - 1)) then (if (wrap64 ((l0.length : Int) - 1)) < (l0.length : Int) then (if (wrap64 ((wrap64 ((rd_T30 l0 (wrap64 ((l0.length : Int) - 1))).f1)) + 1)) = a1_0 then (some (l0.set ((wrap64 ((l0.length : Int) - 1)) : Int).toNat (⟨(rd_T30 l0 (wrap64 ((l0.length : Int) - 1))).f0, wrap32 (a1_1)⟩ : S30))) else (if l0.length < 17592186044416 then (some (l0 ++ [(⟨wrap32 (a1_0), wrap32 (a1_1)⟩ : S30)])) else (none))) else (none)) else (none)) else (if l0.length < 17592186044416 then (some (l0 ++ [(⟨wrap32 (a1_0), wrap32 (a1_1)⟩ : S30)])) else (none))) = some r := h
 clear h
 by_cases c3 : (l0.length : Int) > 0
 ·rw [if_pos c3] at H
  have c3b0 : decide (0 < (l0.length : Int)) = true := decide_eq_true c3
  have c3b1 : decide (0 < l0.length) = true := decide_eq_true (by omega)
  clear c3
  obtain ⟨ji4, hji4⟩ : ∃ j_ : Int, (wrap64 ((l0.length : Int) - 1)) = j_ := ⟨_, rfl⟩
  replace H : (if 0 ≤ (ji4) then (if (ji4) < (l0.length : Int) then (if (wrap64 ((wrap64 ((rd_T30 l0 (ji4)).f1)) + 1)) = a1_0 then (some (l0.set ((ji4) : Int).toNat (⟨(rd_T30 l0 (ji4)).f0, wrap32 (a1_1)⟩ : S30))) else (if l0.length < 17592186044416 then (some (l0 ++ [(⟨wrap32 (a1_0), wrap32 (a1_1)⟩ : S30)])) else (none))) else (none)) else (none)) = some r := by first | (rw [hji4] at H; exact H) | (simp only [hji4] at H ⊢; exact H)
  have hji4w : (IntKind.i64.wrap ((l0.length : Int) - 1)) = ji4 := (i64_w _).trans hji4
  by_cases c5 : 0 ≤ (ji4)
  ·rw [if_pos c5] at H
   have c5b0 : decide (0 ≤ (ji4)) = true := decide_eq_true c5
   clear c5
   by_cases c6 : (ji4) < (l0.length : Int)
   ·rw [if_pos c6] at H
    have c6b0 : decide ((ji4) < (l0.length : Int)) = true := decide_eq_true c6
    clear c6
    by_cases c7 : (wrap64 ((wrap64 ((rd_T30 l0 (ji4)).f1)) + 1)) = a1_0
    ·rw [if_pos c7] at H
     have c7b0 : ((wrap64 ((wrap64 ((rd_T30 l0 (ji4)).f1)) + 1)) == a1_0) = true := beq_iff_eq.mpr c7
     have c7b1 : ((wrap64 ((wrap64 ((rd_T30 l0 (ji4)).f1)) + 1)) != a1_0) = false := bne_eq_false_iff_eq.mpr c7
     clear c7
     obtain ⟨y233, hy233⟩ : ∃ y_ : List (S30), y_ = (l0.set ((ji4) : Int).toNat (⟨(rd_T30 l0 (ji4)).f0, wrap32 (a1_1)⟩ : S30)) := ⟨_, rfl⟩
     replace H : (some y233) = some r := by first | (rw [hy233]; with_reducible exact H) | (have H2_ := (Option.bind_some _ _).symm.trans H; rw [hy233]; with_reducible exact H2_) | (have H2_ := (Option.bind_some _ _).symm.trans H; with_reducible exact H2_) | with_reducible exact H | (rw [hy233]; exact H) | exact H
     have Ny233 := Aside0.mk hy233
     clear hy233
     obtain rfl := Option.some.inj H
     go_enter Tryd.func23, Tryd.ntmps23
     go_wp2_with (first | ((with_reducible refine gate_dst (N := 3) rfl ?_); refine box_event ?hg (N := 3) ?hd (cs := #[.int .i64 a1_0, .int .i64 a1_1]) (t := 61) ?hr ?_; (case hd => rfl); (case hg => rfl); (case hr => first | (go_simp; done) | (go_simp; rfl)); intro gb231 hg w9 hbox hb; have n0_ := Aside0.mk (Kd.R_below (XShort.rr HO0.out) hb); have n1_ := Aside0.mk (Kept.below (S := (fun k_ => P0_ k_)) (by repeat (first | (with_reducible first | exact HK.out | apply Kept.alloc | apply Kept.drewN | apply Kept.drew) | exact HK.out)) hb); have n2_ := Aside0.mk (below_step XShort.bel hb); have n3_ := Aside0.mk (hbox); have n4_ := Aside0.mk ((by rw [hg]; exact (by first | exact HK.out.1 | exact (show Kept w _ (fun k_ => P0_ k_) from by repeat (first | (with_reducible first | exact HK.out | apply Kept.alloc | apply Kept.drewN | apply Kept.drew) | exact HK.out)).1) : w.heap.size ≤ gb231)); have n5_ := Aside0.mk ((by rw [hg]; exact (below_size XShort.bel) : w0.heap.size ≤ gb231)); clear HO0; clear HK; clear HB; have HO0 := n0_; have HK := n1_; have HB := n2_; have BK231 := n3_; have GW231 := n4_; have GE231 := n5_; clear n0_ n1_ n2_ n3_ n4_ n5_; clear hb hbox hg; obtain ⟨Ao10, co10, eo10⟩ := Kd.R_slice HO0.out; subst eo10; have p232 : 0 ≤ ((ji4) : Int) := of_decide_eq_true XShort.asm; have q232 : (ji4) < (l0.length : Int) := of_decide_eq_true XShort.asm; obtain ⟨ad232, e232, hx232_0, hx232_1⟩ := at_T30 (Kd.R_reads' HO0.out).2.2 (ji4) p232 q232; cases e232; replace p232 := eq_true p232; replace q232 := eq_true q232; have hcz11_0 : w9.cell? ⟨gb231, 0, none⟩ = some (.int .i64 a1_0) := (blk_cell BK231.out 0).trans rfl; have hcz11_1 : w9.cell? ⟨gb231, 1, none⟩ = some (.int .i64 a1_1) := (blk_cell BK231.out 1).trans rfl; have hfz11_0 := blk_frozen BK231.out 0; have hfz11_1 := blk_frozen BK231.out 1; have p8 : 0 ≤ ((ji4) : Int) := of_decide_eq_true XShort.asm; have q8 : ((ji4) : Int) < ((l0.length : Int) : Int) := of_decide_eq_true XShort.asm; obtain ⟨go8, co8, eo8, gb8, gl8, cl8, HG8⟩ := Kd.R_form HO0.out (by omega); (first | cases eo8 | (injection eo8 with ea_ en_ ec_; (first | subst ea_ | (injection ea_ with ea_; subst ea_)); subst ec_; clear en_)); have GB8 := Aside0.mk gb8; have GG8 := Aside0.mk HG8; clear gb8 gl8 HG8; have HMgo8 := Aside0.mk (show (P0_ go8 ∨ w.heap.size ≤ go8) from (HO0.out.1 _ rfl)); (first | simp only [add_plain] at hx232_0 | skip); (first | simp only [add_plain] at hx232_1 | skip); obtain ⟨ce8, hcl8, hM8, hcc8, hfr8⟩ := Kd.R_elem HO0.out z30 ((ji4) : Int) p8 q8; obtain rfl := k30_openM hM8; have hx8_0 : w9.cell? ⟨go8, ((ji4) : Int).toNat * 2, none⟩ = some (.int .i32 ((rd_T30 l0 (ji4)).f0)) := hcc8 0 _ rfl; have hx8_1 : w9.cell? ⟨go8, ((ji4) : Int).toNat * 2 + 1, none⟩ = some (.int .i32 ((rd_T30 l0 (ji4)).f1)) := hcc8 1 _ rfl; have hf8_0 : w9.frozen? ⟨go8, ((ji4) : Int).toNat * 2, none⟩ = false := hfr8 0; have hf8_1 : w9.frozen? ⟨go8, ((ji4) : Int).toNat * 2 + 1, none⟩ = false := hfr8 1; clear hcl8 hcc8 hfr8 hM8; replace p8 := eq_true p8; replace q8 := eq_true q8; have HX12 := Aside0.mk (show Kd.R k30 30 w9 w0.heap.size (fun k_ => (P0_ k_ ∨ w.heap.size ≤ k_)) (.slice (some ⟨go8, 0, none⟩) l0.length co10) l0 from (XShort.rr HO0.out)); obtain ⟨ce12, hcl12, hM12, hcc12, hfr12⟩ := Kd.R_elem HX12.out z30 ((ji4) : Int) (of_decide_eq_true XShort.asm) (by have h_ : ((ji4) : Int) < ((l0.length : Int) : Int) := of_decide_eq_true XShort.asm; first | exact h_ | (have e_ := (Kd.R_reads' HO0.out).1; omega) | simpa using h_); obtain rfl := k30_openM hM12; have HP12 := Kd.R_seg HX12.out ((ji4) : Int) (of_decide_eq_true XShort.asm) (by have h_ : ((ji4) : Int) < ((l0.length : Int) : Int) := of_decide_eq_true XShort.asm; first | exact h_ | (have e_ := (Kd.R_reads' HO0.out).1; omega) | simpa using h_) (seg := [.int .i32 (wrap32 (a1_1))]) (j := 1) hcl12 hcc12 (show 2 ≤ 2 from by decide) (x' := (⟨(rd_T30 l0 (ji4)).f0, wrap32 (a1_1)⟩ : S30)) (k30_mkM _ _ _ (⟨(rd_T30 l0 (ji4)).f0, wrap32 (a1_1)⟩ : S30) ) (fun _ hk => hk); have hx12_1 := hcc12 1 _ rfl; (try simp only [show (k30).sz = 2 from rfl, Nat.mul_one, Nat.add_zero] at hx12_1); have hf12_1 := hfr12 1; (try simp only [show (k30).sz = 2 from rfl, Nat.mul_one, Nat.add_zero] at hf12_1); clear hcl12 hcc12 hfr12 hM12) | ((with_reducible refine gate_store (t := 21) (p := 30) rfl ?_); (try (rw [drewN_self w9]; generalize hq_ : World.drewN w9 _ = w9; have n0_ := Aside0.mk (Kd.R_at hq_ HO0.out); have n1_ := Aside0.mk (blk_at hq_ BK231.out); have n2_ := Aside0.mk (kept_at hq_ HK.out); have n3_ := Aside0.mk (below_at hq_ HB.out); clear hq_ HO0 BK231 HK HB; have HO0 := n0_; have BK231 := n1_; have HK := n2_; have HB := n3_; clear n0_ n1_ n2_ n3_; (try (have HX12 := Aside0.mk (show Kd.R k30 30 w9 w0.heap.size (fun k_ => (P0_ k_ ∨ w.heap.size ≤ k_)) (.slice (some ⟨go8, 0, none⟩) l0.length co10) l0 from (XShort.rr HO0.out)))); (try (obtain ⟨ce12, hcl12, hM12, hcc12, hfr12⟩ := Kd.R_elem HX12.out z30 ((ji4) : Int) (of_decide_eq_true XShort.asm) (by have h_ : ((ji4) : Int) < ((l0.length : Int) : Int) := of_decide_eq_true XShort.asm; first | exact h_ | (have e_ := (Kd.R_reads' HO0.out).1; omega) | simpa using h_))); (try (obtain rfl := k30_openM hM12)); (try (have HP12 := Kd.R_seg HX12.out ((ji4) : Int) (of_decide_eq_true XShort.asm) (by have h_ : ((ji4) : Int) < ((l0.length : Int) : Int) := of_decide_eq_true XShort.asm; first | exact h_ | (have e_ := (Kd.R_reads' HO0.out).1; omega) | simpa using h_) (seg := [.int .i32 (wrap32 (a1_1))]) (j := 1) hcl12 hcc12 (show 2 ≤ 2 from by decide) (x' := (⟨(rd_T30 l0 (ji4)).f0, wrap32 (a1_1)⟩ : S30)) (k30_mkM _ _ _ (⟨(rd_T30 l0 (ji4)).f0, wrap32 (a1_1)⟩ : S30) ) (fun _ hk => hk))); (try (have hx12_1 := hcc12 1 _ rfl)); (try (try simp only [show (k30).sz = 2 from rfl, Nat.mul_one, Nat.add_zero] at hx12_1)); (try (have hf12_1 := hfr12 1)); (try (try simp only [show (k30).sz = 2 from rfl, Nat.mul_one, Nat.add_zero] at hf12_1)); (try (clear hcl12 hcc12 hfr12 hM12)))); refine store_event (t := 21) (p := 30) (v := ?vo_w13) (w1 := (w9.setCell ⟨go8, ((ji4) : Int).toNat * 2 + 1, none⟩ (.int .i32 (wrap32 (a1_1))))) ?hg ?ho ?hn ?hr ?_; (case ho => rfl); (case hg => rfl); (case hn => rfl); (case hr => first | (go_simp; done) | (go_simp; rfl)); intro w13 hw; have hg : w9.grownBy w13 (some go8) := (by rw [hw]; exact HP12.2); have hp_ : Kd.R k30 30 w13 w0.heap.size (fun k_ => (P0_ k_ ∨ w.heap.size ≤ k_)) (.slice (some ⟨go8, 0, none⟩) l0.length co10) y233 := (by rw [hw, Ny233.out]; exact HP12.1); clear HP12; have n0_ := Aside0.mk (hp_); have n1_ := Aside0.mk (blk_grown (g := gb231) (o := .cells #[.int .i64 a1_0, .int .i64 a1_1] 61 (0, 0)) (by (with_reducible repeat (first | refine blk_drewN ?_ _ | refine blk_drew ?_ | refine blk_alloc ?_ _)); exact BK231.out) hg (Kd.R_ne HO0.out BK231.out (by decide))); have n2_ := Aside0.mk ((by rw [hw]; exact below_set (HB.out) GB8.out : Below w0.heap.size w0 w13)); have n3_ := Aside0.mk (Kept.of_grown (S := (fun k_ => P0_ k_)) hg (by repeat (first | (with_reducible first | exact HK.out | apply Kept.alloc | apply Kept.drewN | apply Kept.drew | refine Kept.setCell ?_ (.inr GW231.out) _) | exact HK.out)) (fun k_ e_ => (HO0.out.1 k_ e_))); clear HO0; clear BK231; clear HB; clear HK; have HO0 := n0_; have BK231 := n1_; have HB := n2_; have HK := n3_; clear n0_ n1_ n2_ n3_; clear hg hw hp_))
     repeat (go_quiet (first | ((with_reducible refine gate_dst (N := 3) rfl ?_); refine box_event ?hg (N := 3) ?hd (cs := #[.int .i64 a1_0, .int .i64 a1_1]) (t := 61) ?hr ?_; (case hd => rfl); (case hg => rfl); (case hr => first | (go_simp; done) | (go_simp; rfl)); intro gb231 hg w9 hbox hb; have n0_ := Aside0.mk (Kd.R_below (XShort.rr HO0.out) hb); have n1_ := Aside0.mk (Kept.below (S := (fun k_ => P0_ k_)) (by repeat (first | (with_reducible first | exact HK.out | apply Kept.alloc | apply Kept.drewN | apply Kept.drew) | exact HK.out)) hb); have n2_ := Aside0.mk (below_step XShort.bel hb); have n3_ := Aside0.mk (hbox); have n4_ := Aside0.mk ((by rw [hg]; exact (by first | exact HK.out.1 | exact (show Kept w _ (fun k_ => P0_ k_) from by repeat (first | (with_reducible first | exact HK.out | apply Kept.alloc | apply Kept.drewN | apply Kept.drew) | exact HK.out)).1) : w.heap.size ≤ gb231)); have n5_ := Aside0.mk ((by rw [hg]; exact (below_size XShort.bel) : w0.heap.size ≤ gb231)); clear HO0; clear HK; clear HB; have HO0 := n0_; have HK := n1_; have HB := n2_; have BK231 := n3_; have GW231 := n4_; have GE231 := n5_; clear n0_ n1_ n2_ n3_ n4_ n5_; clear hb hbox hg; obtain ⟨Ao10, co10, eo10⟩ := Kd.R_slice HO0.out; subst eo10; have p232 : 0 ≤ ((ji4) : Int) := of_decide_eq_true XShort.asm; have q232 : (ji4) < (l0.length : Int) := of_decide_eq_true XShort.asm; obtain ⟨ad232, e232, hx232_0, hx232_1⟩ := at_T30 (Kd.R_reads' HO0.out).2.2 (ji4) p232 q232; cases e232; replace p232 := eq_true p232; replace q232 := eq_true q232; have hcz11_0 : w9.cell? ⟨gb231, 0, none⟩ = some (.int .i64 a1_0) := (blk_cell BK231.out 0).trans rfl; have hcz11_1 : w9.cell? ⟨gb231, 1, none⟩ = some (.int .i64 a1_1) := (blk_cell BK231.out 1).trans rfl; have hfz11_0 := blk_frozen BK231.out 0; have hfz11_1 := blk_frozen BK231.out 1; have p8 : 0 ≤ ((ji4) : Int) := of_decide_eq_true XShort.asm; have q8 : ((ji4) : Int) < ((l0.length : Int) : Int) := of_decide_eq_true XShort.asm; obtain ⟨go8, co8, eo8, gb8, gl8, cl8, HG8⟩ := Kd.R_form HO0.out (by omega); (first | cases eo8 | (injection eo8 with ea_ en_ ec_; (first | subst ea_ | (injection ea_ with ea_; subst ea_)); subst ec_; clear en_)); have GB8 := Aside0.mk gb8; have GG8 := Aside0.mk HG8; clear gb8 gl8 HG8; have HMgo8 := Aside0.mk (show (P0_ go8 ∨ w.heap.size ≤ go8) from (HO0.out.1 _ rfl)); (first | simp only [add_plain] at hx232_0 | skip); (first | simp only [add_plain] at hx232_1 | skip); obtain ⟨ce8, hcl8, hM8, hcc8, hfr8⟩ := Kd.R_elem HO0.out z30 ((ji4) : Int) p8 q8; obtain rfl := k30_openM hM8; have hx8_0 : w9.cell? ⟨go8, ((ji4) : Int).toNat * 2, none⟩ = some (.int .i32 ((rd_T30 l0 (ji4)).f0)) := hcc8 0 _ rfl; have hx8_1 : w9.cell? ⟨go8, ((ji4) : Int).toNat * 2 + 1, none⟩ = some (.int .i32 ((rd_T30 l0 (ji4)).f1)) := hcc8 1 _ rfl; have hf8_0 : w9.frozen? ⟨go8, ((ji4) : Int).toNat * 2, none⟩ = false := hfr8 0; have hf8_1 : w9.frozen? ⟨go8, ((ji4) : Int).toNat * 2 + 1, none⟩ = false := hfr8 1; clear hcl8 hcc8 hfr8 hM8; replace p8 := eq_true p8; replace q8 := eq_true q8; have HX12 := Aside0.mk (show Kd.R k30 30 w9 w0.heap.size (fun k_ => (P0_ k_ ∨ w.heap.size ≤ k_)) (.slice (some ⟨go8, 0, none⟩) l0.length co10) l0 from (XShort.rr HO0.out)); obtain ⟨ce12, hcl12, hM12, hcc12, hfr12⟩ := Kd.R_elem HX12.out z30 ((ji4) : Int) (of_decide_eq_true XShort.asm) (by have h_ : ((ji4) : Int) < ((l0.length : Int) : Int) := of_decide_eq_true XShort.asm; first | exact h_ | (have e_ := (Kd.R_reads' HO0.out).1; omega) | simpa using h_); obtain rfl := k30_openM hM12; have HP12 := Kd.R_seg HX12.out ((ji4) : Int) (of_decide_eq_true XShort.asm) (by have h_ : ((ji4) : Int) < ((l0.length : Int) : Int) := of_decide_eq_true XShort.asm; first | exact h_ | (have e_ := (Kd.R_reads' HO0.out).1; omega) | simpa using h_) (seg := [.int .i32 (wrap32 (a1_1))]) (j := 1) hcl12 hcc12 (show 2 ≤ 2 from by decide) (x' := (⟨(rd_T30 l0 (ji4)).f0, wrap32 (a1_1)⟩ : S30)) (k30_mkM _ _ _ (⟨(rd_T30 l0 (ji4)).f0, wrap32 (a1_1)⟩ : S30) ) (fun _ hk => hk); have hx12_1 := hcc12 1 _ rfl; (try simp only [show (k30).sz = 2 from rfl, Nat.mul_one, Nat.add_zero] at hx12_1); have hf12_1 := hfr12 1; (try simp only [show (k30).sz = 2 from rfl, Nat.mul_one, Nat.add_zero] at hf12_1); clear hcl12 hcc12 hfr12 hM12) | ((with_reducible refine gate_store (t := 21) (p := 30) rfl ?_); (try (rw [drewN_self w9]; generalize hq_ : World.drewN w9 _ = w9; have n0_ := Aside0.mk (Kd.R_at hq_ HO0.out); have n1_ := Aside0.mk (blk_at hq_ BK231.out); have n2_ := Aside0.mk (kept_at hq_ HK.out); have n3_ := Aside0.mk (below_at hq_ HB.out); clear hq_ HO0 BK231 HK HB; have HO0 := n0_; have BK231 := n1_; have HK := n2_; have HB := n3_; clear n0_ n1_ n2_ n3_; (try (have HX12 := Aside0.mk (show Kd.R k30 30 w9 w0.heap.size (fun k_ => (P0_ k_ ∨ w.heap.size ≤ k_)) (.slice (some ⟨go8, 0, none⟩) l0.length co10) l0 from (XShort.rr HO0.out)))); (try (obtain ⟨ce12, hcl12, hM12, hcc12, hfr12⟩ := Kd.R_elem HX12.out z30 ((ji4) : Int) (of_decide_eq_true XShort.asm) (by have h_ : ((ji4) : Int) < ((l0.length : Int) : Int) := of_decide_eq_true XShort.asm; first | exact h_ | (have e_ := (Kd.R_reads' HO0.out).1; omega) | simpa using h_))); (try (obtain rfl := k30_openM hM12)); (try (have HP12 := Kd.R_seg HX12.out ((ji4) : Int) (of_decide_eq_true XShort.asm) (by have h_ : ((ji4) : Int) < ((l0.length : Int) : Int) := of_decide_eq_true XShort.asm; first | exact h_ | (have e_ := (Kd.R_reads' HO0.out).1; omega) | simpa using h_) (seg := [.int .i32 (wrap32 (a1_1))]) (j := 1) hcl12 hcc12 (show 2 ≤ 2 from by decide) (x' := (⟨(rd_T30 l0 (ji4)).f0, wrap32 (a1_1)⟩ : S30)) (k30_mkM _ _ _ (⟨(rd_T30 l0 (ji4)).f0, wrap32 (a1_1)⟩ : S30) ) (fun _ hk => hk))); (try (have hx12_1 := hcc12 1 _ rfl)); (try (try simp only [show (k30).sz = 2 from rfl, Nat.mul_one, Nat.add_zero] at hx12_1)); (try (have hf12_1 := hfr12 1)); (try (try simp only [show (k30).sz = 2 from rfl, Nat.mul_one, Nat.add_zero] at hf12_1)); (try (clear hcl12 hcc12 hfr12 hM12)))); refine store_event (t := 21) (p := 30) (v := ?vo_w13) (w1 := (w9.setCell ⟨go8, ((ji4) : Int).toNat * 2 + 1, none⟩ (.int .i32 (wrap32 (a1_1))))) ?hg ?ho ?hn ?hr ?_; (case ho => rfl); (case hg => rfl); (case hn => rfl); (case hr => first | (go_simp; done) | (go_simp; rfl)); intro w13 hw; have hg : w9.grownBy w13 (some go8) := (by rw [hw]; exact HP12.2); have hp_ : Kd.R k30 30 w13 w0.heap.size (fun k_ => (P0_ k_ ∨ w.heap.size ≤ k_)) (.slice (some ⟨go8, 0, none⟩) l0.length co10) y233 := (by rw [hw, Ny233.out]; exact HP12.1); clear HP12; have n0_ := Aside0.mk (hp_); have n1_ := Aside0.mk (blk_grown (g := gb231) (o := .cells #[.int .i64 a1_0, .int .i64 a1_1] 61 (0, 0)) (by (with_reducible repeat (first | refine blk_drewN ?_ _ | refine blk_drew ?_ | refine blk_alloc ?_ _)); exact BK231.out) hg (Kd.R_ne HO0.out BK231.out (by decide))); have n2_ := Aside0.mk ((by rw [hw]; exact below_set (HB.out) GB8.out : Below w0.heap.size w0 w13)); have n3_ := Aside0.mk (Kept.of_grown (S := (fun k_ => P0_ k_)) hg (by repeat (first | (with_reducible first | exact HK.out | apply Kept.alloc | apply Kept.drewN | apply Kept.drew | refine Kept.setCell ?_ (.inr GW231.out) _) | exact HK.out)) (fun k_ e_ => (HO0.out.1 k_ e_))); clear HO0; clear BK231; clear HB; clear HK; have HO0 := n0_; have BK231 := n1_; have HB := n2_; have HK := n3_; clear n0_ n1_ n2_ n3_; clear hg hw hp_)); try go_wp2_with (first | ((with_reducible refine gate_dst (N := 3) rfl ?_); refine box_event ?hg (N := 3) ?hd (cs := #[.int .i64 a1_0, .int .i64 a1_1]) (t := 61) ?hr ?_; (case hd => rfl); (case hg => rfl); (case hr => first | (go_simp; done) | (go_simp; rfl)); intro gb231 hg w9 hbox hb; have n0_ := Aside0.mk (Kd.R_below (XShort.rr HO0.out) hb); have n1_ := Aside0.mk (Kept.below (S := (fun k_ => P0_ k_)) (by repeat (first | (with_reducible first | exact HK.out | apply Kept.alloc | apply Kept.drewN | apply Kept.drew) | exact HK.out)) hb); have n2_ := Aside0.mk (below_step XShort.bel hb); have n3_ := Aside0.mk (hbox); have n4_ := Aside0.mk ((by rw [hg]; exact (by first | exact HK.out.1 | exact (show Kept w _ (fun k_ => P0_ k_) from by repeat (first | (with_reducible first | exact HK.out | apply Kept.alloc | apply Kept.drewN | apply Kept.drew) | exact HK.out)).1) : w.heap.size ≤ gb231)); have n5_ := Aside0.mk ((by rw [hg]; exact (below_size XShort.bel) : w0.heap.size ≤ gb231)); clear HO0; clear HK; clear HB; have HO0 := n0_; have HK := n1_; have HB := n2_; have BK231 := n3_; have GW231 := n4_; have GE231 := n5_; clear n0_ n1_ n2_ n3_ n4_ n5_; clear hb hbox hg; obtain ⟨Ao10, co10, eo10⟩ := Kd.R_slice HO0.out; subst eo10; have p232 : 0 ≤ ((ji4) : Int) := of_decide_eq_true XShort.asm; have q232 : (ji4) < (l0.length : Int) := of_decide_eq_true XShort.asm; obtain ⟨ad232, e232, hx232_0, hx232_1⟩ := at_T30 (Kd.R_reads' HO0.out).2.2 (ji4) p232 q232; cases e232; replace p232 := eq_true p232; replace q232 := eq_true q232; have hcz11_0 : w9.cell? ⟨gb231, 0, none⟩ = some (.int .i64 a1_0) := (blk_cell BK231.out 0).trans rfl; have hcz11_1 : w9.cell? ⟨gb231, 1, none⟩ = some (.int .i64 a1_1) := (blk_cell BK231.out 1).trans rfl; have hfz11_0 := blk_frozen BK231.out 0; have hfz11_1 := blk_frozen BK231.out 1; have p8 : 0 ≤ ((ji4) : Int) := of_decide_eq_true XShort.asm; have q8 : ((ji4) : Int) < ((l0.length : Int) : Int) := of_decide_eq_true XShort.asm; obtain ⟨go8, co8, eo8, gb8, gl8, cl8, HG8⟩ := Kd.R_form HO0.out (by omega); (first | cases eo8 | (injection eo8 with ea_ en_ ec_; (first | subst ea_ | (injection ea_ with ea_; subst ea_)); subst ec_; clear en_)); have GB8 := Aside0.mk gb8; have GG8 := Aside0.mk HG8; clear gb8 gl8 HG8; have HMgo8 := Aside0.mk (show (P0_ go8 ∨ w.heap.size ≤ go8) from (HO0.out.1 _ rfl)); (first | simp only [add_plain] at hx232_0 | skip); (first | simp only [add_plain] at hx232_1 | skip); obtain ⟨ce8, hcl8, hM8, hcc8, hfr8⟩ := Kd.R_elem HO0.out z30 ((ji4) : Int) p8 q8; obtain rfl := k30_openM hM8; have hx8_0 : w9.cell? ⟨go8, ((ji4) : Int).toNat * 2, none⟩ = some (.int .i32 ((rd_T30 l0 (ji4)).f0)) := hcc8 0 _ rfl; have hx8_1 : w9.cell? ⟨go8, ((ji4) : Int).toNat * 2 + 1, none⟩ = some (.int .i32 ((rd_T30 l0 (ji4)).f1)) := hcc8 1 _ rfl; have hf8_0 : w9.frozen? ⟨go8, ((ji4) : Int).toNat * 2, none⟩ = false := hfr8 0; have hf8_1 : w9.frozen? ⟨go8, ((ji4) : Int).toNat * 2 + 1, none⟩ = false := hfr8 1; clear hcl8 hcc8 hfr8 hM8; replace p8 := eq_true p8; replace q8 := eq_true q8; have HX12 := Aside0.mk (show Kd.R k30 30 w9 w0.heap.size (fun k_ => (P0_ k_ ∨ w.heap.size ≤ k_)) (.slice (some ⟨go8, 0, none⟩) l0.length co10) l0 from (XShort.rr HO0.out)); obtain ⟨ce12, hcl12, hM12, hcc12, hfr12⟩ := Kd.R_elem HX12.out z30 ((ji4) : Int) (of_decide_eq_true XShort.asm) (by have h_ : ((ji4) : Int) < ((l0.length : Int) : Int) := of_decide_eq_true XShort.asm; first | exact h_ | (have e_ := (Kd.R_reads' HO0.out).1; omega) | simpa using h_); obtain rfl := k30_openM hM12; have HP12 := Kd.R_seg HX12.out ((ji4) : Int) (of_decide_eq_true XShort.asm) (by have h_ : ((ji4) : Int) < ((l0.length : Int) : Int) := of_decide_eq_true XShort.asm; first | exact h_ | (have e_ := (Kd.R_reads' HO0.out).1; omega) | simpa using h_) (seg := [.int .i32 (wrap32 (a1_1))]) (j := 1) hcl12 hcc12 (show 2 ≤ 2 from by decide) (x' := (⟨(rd_T30 l0 (ji4)).f0, wrap32 (a1_1)⟩ : S30)) (k30_mkM _ _ _ (⟨(rd_T30 l0 (ji4)).f0, wrap32 (a1_1)⟩ : S30) ) (fun _ hk => hk); have hx12_1 := hcc12 1 _ rfl; (try simp only [show (k30).sz = 2 from rfl, Nat.mul_one, Nat.add_zero] at hx12_1); have hf12_1 := hfr12 1; (try simp only [show (k30).sz = 2 from rfl, Nat.mul_one, Nat.add_zero] at hf12_1); clear hcl12 hcc12 hfr12 hM12) | ((with_reducible refine gate_store (t := 21) (p := 30) rfl ?_); (try (rw [drewN_self w9]; generalize hq_ : World.drewN w9 _ = w9; have n0_ := Aside0.mk (Kd.R_at hq_ HO0.out); have n1_ := Aside0.mk (blk_at hq_ BK231.out); have n2_ := Aside0.mk (kept_at hq_ HK.out); have n3_ := Aside0.mk (below_at hq_ HB.out); clear hq_ HO0 BK231 HK HB; have HO0 := n0_; have BK231 := n1_; have HK := n2_; have HB := n3_; clear n0_ n1_ n2_ n3_; (try (have HX12 := Aside0.mk (show Kd.R k30 30 w9 w0.heap.size (fun k_ => (P0_ k_ ∨ w.heap.size ≤ k_)) (.slice (some ⟨go8, 0, none⟩) l0.length co10) l0 from (XShort.rr HO0.out)))); (try (obtain ⟨ce12, hcl12, hM12, hcc12, hfr12⟩ := Kd.R_elem HX12.out z30 ((ji4) : Int) (of_decide_eq_true XShort.asm) (by have h_ : ((ji4) : Int) < ((l0.length : Int) : Int) := of_decide_eq_true XShort.asm; first | exact h_ | (have e_ := (Kd.R_reads' HO0.out).1; omega) | simpa using h_))); (try (obtain rfl := k30_openM hM12)); (try (have HP12 := Kd.R_seg HX12.out ((ji4) : Int) (of_decide_eq_true XShort.asm) (by have h_ : ((ji4) : Int) < ((l0.length : Int) : Int) := of_decide_eq_true XShort.asm; first | exact h_ | (have e_ := (Kd.R_reads' HO0.out).1; omega) | simpa using h_) (seg := [.int .i32 (wrap32 (a1_1))]) (j := 1) hcl12 hcc12 (show 2 ≤ 2 from by decide) (x' := (⟨(rd_T30 l0 (ji4)).f0, wrap32 (a1_1)⟩ : S30)) (k30_mkM _ _ _ (⟨(rd_T30 l0 (ji4)).f0, wrap32 (a1_1)⟩ : S30) ) (fun _ hk => hk))); (try (have hx12_1 := hcc12 1 _ rfl)); (try (try simp only [show (k30).sz = 2 from rfl, Nat.mul_one, Nat.add_zero] at hx12_1)); (try (have hf12_1 := hfr12 1)); (try (try simp only [show (k30).sz = 2 from rfl, Nat.mul_one, Nat.add_zero] at hf12_1)); (try (clear hcl12 hcc12 hfr12 hM12)))); refine store_event (t := 21) (p := 30) (v := ?vo_w13) (w1 := (w9.setCell ⟨go8, ((ji4) : Int).toNat * 2 + 1, none⟩ (.int .i32 (wrap32 (a1_1))))) ?hg ?ho ?hn ?hr ?_; (case ho => rfl); (case hg => rfl); (case hn => rfl); (case hr => first | (go_simp; done) | (go_simp; rfl)); intro w13 hw; have hg : w9.grownBy w13 (some go8) := (by rw [hw]; exact HP12.2); have hp_ : Kd.R k30 30 w13 w0.heap.size (fun k_ => (P0_ k_ ∨ w.heap.size ≤ k_)) (.slice (some ⟨go8, 0, none⟩) l0.length co10) y233 := (by rw [hw, Ny233.out]; exact HP12.1); clear HP12; have n0_ := Aside0.mk (hp_); have n1_ := Aside0.mk (blk_grown (g := gb231) (o := .cells #[.int .i64 a1_0, .int .i64 a1_1] 61 (0, 0)) (by (with_reducible repeat (first | refine blk_drewN ?_ _ | refine blk_drew ?_ | refine blk_alloc ?_ _)); exact BK231.out) hg (Kd.R_ne HO0.out BK231.out (by decide))); have n2_ := Aside0.mk ((by rw [hw]; exact below_set (HB.out) GB8.out : Below w0.heap.size w0 w13)); have n3_ := Aside0.mk (Kept.of_grown (S := (fun k_ => P0_ k_)) hg (by repeat (first | (with_reducible first | exact HK.out | apply Kept.alloc | apply Kept.drewN | apply Kept.drew | refine Kept.setCell ?_ (.inr GW231.out) _) | exact HK.out)) (fun k_ e_ => (HO0.out.1 k_ e_))); clear HO0; clear BK231; clear HB; clear HK; have HO0 := n0_; have BK231 := n1_; have HB := n2_; have HK := n3_; clear n0_ n1_ n2_ n3_; clear hg hw hp_)))
     go_ret
     exact ⟨_, by first | rfl | (simp [errW_none, errW_some] <;> rfl) | (simp only [← hji4]; first | rfl | (simp [errW_none, errW_some] <;> rfl)) | (simp [*, errW_none, errW_some] <;> rfl), by (with_reducible repeat (first | apply Kd.R_alloc | apply Kd.R_drewN | apply Kd.R_drew)); exact HO0.out, by repeat (first | (with_reducible first | exact HB.out | apply below_alloc | apply pw_below_drewN | apply below_drew1 | refine below_set ?_ GE231.out) | exact HB.out), by repeat (first | (with_reducible first | exact HK.out | apply Kept.alloc | apply Kept.drewN | apply Kept.drew | refine Kept.setCell ?_ (.inr GW231.out) _) | exact HK.out)⟩
    ·rw [if_neg c7] at H
     have c7b0 : ((wrap64 ((wrap64 ((rd_T30 l0 (ji4)).f1)) + 1)) == a1_0) = false := beq_eq_false_iff_ne.mpr c7
     have c7b1 : ((wrap64 ((wrap64 ((rd_T30 l0 (ji4)).f1)) + 1)) != a1_0) = true := bne_iff_ne.mpr c7
     by_cases c14 : l0.length < 17592186044416
     ·rw [if_pos c14] at H
      have LMc14 := Aside0.mk c14
      clear c14
      obtain ⟨y234, hy234⟩ : ∃ y_ : List (S30), y_ = (l0 ++ [(⟨wrap32 (a1_0), wrap32 (a1_1)⟩ : S30)]) := ⟨_, rfl⟩
      replace H : (some y234) = some r := by first | (rw [hy234]; with_reducible exact H) | (have H2_ := (Option.bind_some _ _).symm.trans H; rw [hy234]; with_reducible exact H2_) | (have H2_ := (Option.bind_some _ _).symm.trans H; with_reducible exact H2_) | with_reducible exact H | (rw [hy234]; exact H) | exact H
      have Ny234 := Aside0.mk hy234
      clear hy234
      obtain rfl := Option.some.inj H
      go_enter Tryd.func23, Tryd.ntmps23
      go_wp2_with (first | ((with_reducible refine gate_dst (N := 3) rfl ?_); refine box_event ?hg (N := 3) ?hd (cs := #[.int .i64 a1_0, .int .i64 a1_1]) (t := 61) ?hr ?_; (case hd => rfl); (case hg => rfl); (case hr => first | (go_simp; done) | (go_simp; rfl)); intro gb231 hg w15 hbox hb; have n0_ := Aside0.mk (Kd.R_below (XShort.rr HO0.out) hb); have n1_ := Aside0.mk (Kept.below (S := (fun k_ => P0_ k_)) (by repeat (first | (with_reducible first | exact HK.out | apply Kept.alloc | apply Kept.drewN | apply Kept.drew) | exact HK.out)) hb); have n2_ := Aside0.mk (below_step XShort.bel hb); have n3_ := Aside0.mk (hbox); have n4_ := Aside0.mk ((by rw [hg]; exact (by first | exact HK.out.1 | exact (show Kept w _ (fun k_ => P0_ k_) from by repeat (first | (with_reducible first | exact HK.out | apply Kept.alloc | apply Kept.drewN | apply Kept.drew) | exact HK.out)).1) : w.heap.size ≤ gb231)); have n5_ := Aside0.mk ((by rw [hg]; exact (below_size XShort.bel) : w0.heap.size ≤ gb231)); clear HO0; clear HK; clear HB; have HO0 := n0_; have HK := n1_; have HB := n2_; have BK231 := n3_; have GW231 := n4_; have GE231 := n5_; clear n0_ n1_ n2_ n3_ n4_ n5_; clear hb hbox hg; obtain ⟨Ao16, co16, eo16⟩ := Kd.R_slice HO0.out; subst eo16; have p232 : 0 ≤ ((ji4) : Int) := of_decide_eq_true XShort.asm; have q232 : (ji4) < (l0.length : Int) := of_decide_eq_true XShort.asm; obtain ⟨ad232, e232, hx232_0, hx232_1⟩ := at_T30 (Kd.R_reads' HO0.out).2.2 (ji4) p232 q232; cases e232; replace p232 := eq_true p232; replace q232 := eq_true q232; have hcz17_0 : w15.cell? ⟨gb231, 0, none⟩ = some (.int .i64 a1_0) := (blk_cell BK231.out 0).trans rfl; have hcz17_1 : w15.cell? ⟨gb231, 1, none⟩ = some (.int .i64 a1_1) := (blk_cell BK231.out 1).trans rfl; have hfz17_0 := blk_frozen BK231.out 0; have hfz17_1 := blk_frozen BK231.out 1) | ((with_reducible refine gate_builtin (b := .append) (xs := #[.tmp 32, .tmp 40]) rfl ?_); at_builtin; refine Kd.R_append k30 (w0 := w0) w0.heap.size rfl (.tmp 32) (.tmp 40) 22 30 (.agg #[(.int .i32 0), (.int .i32 0)]) 8 rfl Tryd.underlying22 info30 rfl (by decide) (by omega) (.slice (some ad232) l0.length co16) l0 (⟨wrap32 (a1_0), wrap32 (a1_1)⟩ : S30) [.int .i32 (wrap32 (a1_0)), .int .i32 (wrap32 (a1_1))] (fun k_ => (P0_ k_ ∨ w.heap.size ≤ k_)) (fun _ => False) rfl rfl ?aP (fun _ hk => hk.elim) ?aF ?aO ?aB ?aS ?aL ?_; (case aP => exact k30_mkM _ _ _ (⟨wrap32 (a1_0), wrap32 (a1_1)⟩ : S30)); (case aB => exact (by repeat (first | (with_reducible first | exact HB.out | apply below_alloc | apply pw_below_drewN | apply below_drew1 | refine below_set ?_ GE231.out) | exact HB.out))); (case aF => exact (fun k_ hk => (.inr (Nat.le_trans (by first | exact HK.out.1 | exact (show Kept w _ (fun k_ => P0_ k_) from by repeat (first | (with_reducible first | exact HK.out | apply Kept.alloc | apply Kept.drewN | apply Kept.drew | refine Kept.setCell ?_ (.inr GW231.out) _) | exact HK.out)).1) hk)))); (case aO => exact (XShort.rr HO0.out)); (case aS => exact (below_size (by repeat (first | (with_reducible first | exact HB.out | apply below_alloc | apply pw_below_drewN | apply below_drew1 | refine below_set ?_ GE231.out) | exact HB.out)))); (case aL => have := LMc14.out; omega); intro v235 w18 ho hb hg hat; rw [← Ny234.out] at ho; have n0_ := Aside0.mk (blk_grown (g := gb231) (o := .cells #[.int .i64 a1_0, .int .i64 a1_1] 61 (0, 0)) (by (with_reducible repeat (first | refine blk_drewN ?_ _ | refine blk_drew ?_ | refine blk_alloc ?_ _)); exact BK231.out) hg (Kd.R_ne HO0.out BK231.out (by decide))); have n1_ := Aside0.mk (hb); have n2_ := Aside0.mk (Kept.of_grown (S := (fun k_ => P0_ k_)) hg (by repeat (first | (with_reducible first | exact HK.out | apply Kept.alloc | apply Kept.drewN | apply Kept.drew | refine Kept.setCell ?_ (.inr GW231.out) _) | exact HK.out)) (fun k_ e_ => (HO0.out.1 k_ e_))); have n3_ := Aside0.mk (ho); clear BK231; clear HB; clear HK; clear HO0; have BK231 := n0_; have HB := n1_; have HK := n2_; have HO236 := n3_; clear n0_ n1_ n2_ n3_; clear ho hb hg hat))
      repeat (go_quiet (first | ((with_reducible refine gate_dst (N := 3) rfl ?_); refine box_event ?hg (N := 3) ?hd (cs := #[.int .i64 a1_0, .int .i64 a1_1]) (t := 61) ?hr ?_; (case hd => rfl); (case hg => rfl); (case hr => first | (go_simp; done) | (go_simp; rfl)); intro gb231 hg w15 hbox hb; have n0_ := Aside0.mk (Kd.R_below (XShort.rr HO0.out) hb); have n1_ := Aside0.mk (Kept.below (S := (fun k_ => P0_ k_)) (by repeat (first | (with_reducible first | exact HK.out | apply Kept.alloc | apply Kept.drewN | apply Kept.drew) | exact HK.out)) hb); have n2_ := Aside0.mk (below_step XShort.bel hb); have n3_ := Aside0.mk (hbox); have n4_ := Aside0.mk ((by rw [hg]; exact (by first | exact HK.out.1 | exact (show Kept w _ (fun k_ => P0_ k_) from by repeat (first | (with_reducible first | exact HK.out | apply Kept.alloc | apply Kept.drewN | apply Kept.drew) | exact HK.out)).1) : w.heap.size ≤ gb231)); have n5_ := Aside0.mk ((by rw [hg]; exact (below_size XShort.bel) : w0.heap.size ≤ gb231)); clear HO0; clear HK; clear HB; have HO0 := n0_; have HK := n1_; have HB := n2_; have BK231 := n3_; have GW231 := n4_; have GE231 := n5_; clear n0_ n1_ n2_ n3_ n4_ n5_; clear hb hbox hg; obtain ⟨Ao16, co16, eo16⟩ := Kd.R_slice HO0.out; subst eo16; have p232 : 0 ≤ ((ji4) : Int) := of_decide_eq_true XShort.asm; have q232 : (ji4) < (l0.length : Int) := of_decide_eq_true XShort.asm; obtain ⟨ad232, e232, hx232_0, hx232_1⟩ := at_T30 (Kd.R_reads' HO0.out).2.2 (ji4) p232 q232; cases e232; replace p232 := eq_true p232; replace q232 := eq_true q232; have hcz17_0 : w15.cell? ⟨gb231, 0, none⟩ = some (.int .i64 a1_0) := (blk_cell BK231.out 0).trans rfl; have hcz17_1 : w15.cell? ⟨gb231, 1, none⟩ = some (.int .i64 a1_1) := (blk_cell BK231.out 1).trans rfl; have hfz17_0 := blk_frozen BK231.out 0; have hfz17_1 := blk_frozen BK231.out 1) | ((with_reducible refine gate_builtin (b := .append) (xs := #[.tmp 32, .tmp 40]) rfl ?_); at_builtin; refine Kd.R_append k30 (w0 := w0) w0.heap.size rfl (.tmp 32) (.tmp 40) 22 30 (.agg #[(.int .i32 0), (.int .i32 0)]) 8 rfl Tryd.underlying22 info30 rfl (by decide) (by omega) (.slice (some ad232) l0.length co16) l0 (⟨wrap32 (a1_0), wrap32 (a1_1)⟩ : S30) [.int .i32 (wrap32 (a1_0)), .int .i32 (wrap32 (a1_1))] (fun k_ => (P0_ k_ ∨ w.heap.size ≤ k_)) (fun _ => False) rfl rfl ?aP (fun _ hk => hk.elim) ?aF ?aO ?aB ?aS ?aL ?_; (case aP => exact k30_mkM _ _ _ (⟨wrap32 (a1_0), wrap32 (a1_1)⟩ : S30)); (case aB => exact (by repeat (first | (with_reducible first | exact HB.out | apply below_alloc | apply pw_below_drewN | apply below_drew1 | refine below_set ?_ GE231.out) | exact HB.out))); (case aF => exact (fun k_ hk => (.inr (Nat.le_trans (by first | exact HK.out.1 | exact (show Kept w _ (fun k_ => P0_ k_) from by repeat (first | (with_reducible first | exact HK.out | apply Kept.alloc | apply Kept.drewN | apply Kept.drew | refine Kept.setCell ?_ (.inr GW231.out) _) | exact HK.out)).1) hk)))); (case aO => exact (XShort.rr HO0.out)); (case aS => exact (below_size (by repeat (first | (with_reducible first | exact HB.out | apply below_alloc | apply pw_below_drewN | apply below_drew1 | refine below_set ?_ GE231.out) | exact HB.out)))); (case aL => have := LMc14.out; omega); intro v235 w18 ho hb hg hat; rw [← Ny234.out] at ho; have n0_ := Aside0.mk (blk_grown (g := gb231) (o := .cells #[.int .i64 a1_0, .int .i64 a1_1] 61 (0, 0)) (by (with_reducible repeat (first | refine blk_drewN ?_ _ | refine blk_drew ?_ | refine blk_alloc ?_ _)); exact BK231.out) hg (Kd.R_ne HO0.out BK231.out (by decide))); have n1_ := Aside0.mk (hb); have n2_ := Aside0.mk (Kept.of_grown (S := (fun k_ => P0_ k_)) hg (by repeat (first | (with_reducible first | exact HK.out | apply Kept.alloc | apply Kept.drewN | apply Kept.drew | refine Kept.setCell ?_ (.inr GW231.out) _) | exact HK.out)) (fun k_ e_ => (HO0.out.1 k_ e_))); have n3_ := Aside0.mk (ho); clear BK231; clear HB; clear HK; clear HO0; have BK231 := n0_; have HB := n1_; have HK := n2_; have HO236 := n3_; clear n0_ n1_ n2_ n3_; clear ho hb hg hat)); try go_wp2_with (first | ((with_reducible refine gate_dst (N := 3) rfl ?_); refine box_event ?hg (N := 3) ?hd (cs := #[.int .i64 a1_0, .int .i64 a1_1]) (t := 61) ?hr ?_; (case hd => rfl); (case hg => rfl); (case hr => first | (go_simp; done) | (go_simp; rfl)); intro gb231 hg w15 hbox hb; have n0_ := Aside0.mk (Kd.R_below (XShort.rr HO0.out) hb); have n1_ := Aside0.mk (Kept.below (S := (fun k_ => P0_ k_)) (by repeat (first | (with_reducible first | exact HK.out | apply Kept.alloc | apply Kept.drewN | apply Kept.drew) | exact HK.out)) hb); have n2_ := Aside0.mk (below_step XShort.bel hb); have n3_ := Aside0.mk (hbox); have n4_ := Aside0.mk ((by rw [hg]; exact (by first | exact HK.out.1 | exact (show Kept w _ (fun k_ => P0_ k_) from by repeat (first | (with_reducible first | exact HK.out | apply Kept.alloc | apply Kept.drewN | apply Kept.drew) | exact HK.out)).1) : w.heap.size ≤ gb231)); have n5_ := Aside0.mk ((by rw [hg]; exact (below_size XShort.bel) : w0.heap.size ≤ gb231)); clear HO0; clear HK; clear HB; have HO0 := n0_; have HK := n1_; have HB := n2_; have BK231 := n3_; have GW231 := n4_; have GE231 := n5_; clear n0_ n1_ n2_ n3_ n4_ n5_; clear hb hbox hg; obtain ⟨Ao16, co16, eo16⟩ := Kd.R_slice HO0.out; subst eo16; have p232 : 0 ≤ ((ji4) : Int) := of_decide_eq_true XShort.asm; have q232 : (ji4) < (l0.length : Int) := of_decide_eq_true XShort.asm; obtain ⟨ad232, e232, hx232_0, hx232_1⟩ := at_T30 (Kd.R_reads' HO0.out).2.2 (ji4) p232 q232; cases e232; replace p232 := eq_true p232; replace q232 := eq_true q232; have hcz17_0 : w15.cell? ⟨gb231, 0, none⟩ = some (.int .i64 a1_0) := (blk_cell BK231.out 0).trans rfl; have hcz17_1 : w15.cell? ⟨gb231, 1, none⟩ = some (.int .i64 a1_1) := (blk_cell BK231.out 1).trans rfl; have hfz17_0 := blk_frozen BK231.out 0; have hfz17_1 := blk_frozen BK231.out 1) | ((with_reducible refine gate_builtin (b := .append) (xs := #[.tmp 32, .tmp 40]) rfl ?_); at_builtin; refine Kd.R_append k30 (w0 := w0) w0.heap.size rfl (.tmp 32) (.tmp 40) 22 30 (.agg #[(.int .i32 0), (.int .i32 0)]) 8 rfl Tryd.underlying22 info30 rfl (by decide) (by omega) (.slice (some ad232) l0.length co16) l0 (⟨wrap32 (a1_0), wrap32 (a1_1)⟩ : S30) [.int .i32 (wrap32 (a1_0)), .int .i32 (wrap32 (a1_1))] (fun k_ => (P0_ k_ ∨ w.heap.size ≤ k_)) (fun _ => False) rfl rfl ?aP (fun _ hk => hk.elim) ?aF ?aO ?aB ?aS ?aL ?_; (case aP => exact k30_mkM _ _ _ (⟨wrap32 (a1_0), wrap32 (a1_1)⟩ : S30)); (case aB => exact (by repeat (first | (with_reducible first | exact HB.out | apply below_alloc | apply pw_below_drewN | apply below_drew1 | refine below_set ?_ GE231.out) | exact HB.out))); (case aF => exact (fun k_ hk => (.inr (Nat.le_trans (by first | exact HK.out.1 | exact (show Kept w _ (fun k_ => P0_ k_) from by repeat (first | (with_reducible first | exact HK.out | apply Kept.alloc | apply Kept.drewN | apply Kept.drew | refine Kept.setCell ?_ (.inr GW231.out) _) | exact HK.out)).1) hk)))); (case aO => exact (XShort.rr HO0.out)); (case aS => exact (below_size (by repeat (first | (with_reducible first | exact HB.out | apply below_alloc | apply pw_below_drewN | apply below_drew1 | refine below_set ?_ GE231.out) | exact HB.out)))); (case aL => have := LMc14.out; omega); intro v235 w18 ho hb hg hat; rw [← Ny234.out] at ho; have n0_ := Aside0.mk (blk_grown (g := gb231) (o := .cells #[.int .i64 a1_0, .int .i64 a1_1] 61 (0, 0)) (by (with_reducible repeat (first | refine blk_drewN ?_ _ | refine blk_drew ?_ | refine blk_alloc ?_ _)); exact BK231.out) hg (Kd.R_ne HO0.out BK231.out (by decide))); have n1_ := Aside0.mk (hb); have n2_ := Aside0.mk (Kept.of_grown (S := (fun k_ => P0_ k_)) hg (by repeat (first | (with_reducible first | exact HK.out | apply Kept.alloc | apply Kept.drewN | apply Kept.drew | refine Kept.setCell ?_ (.inr GW231.out) _) | exact HK.out)) (fun k_ e_ => (HO0.out.1 k_ e_))); have n3_ := Aside0.mk (ho); clear BK231; clear HB; clear HK; clear HO0; have BK231 := n0_; have HB := n1_; have HK := n2_; have HO236 := n3_; clear n0_ n1_ n2_ n3_; clear ho hb hg hat)))
      go_ret
      exact ⟨_, by first | rfl | (simp [errW_none, errW_some] <;> rfl) | (simp only [← hji4]; first | rfl | (simp [errW_none, errW_some] <;> rfl)) | (simp [*, errW_none, errW_some] <;> rfl), by (with_reducible repeat (first | apply Kd.R_alloc | apply Kd.R_drewN | apply Kd.R_drew)); exact HO236.out, by repeat (first | (with_reducible first | exact HB.out | apply below_alloc | apply pw_below_drewN | apply below_drew1 | refine below_set ?_ GE231.out) | exact HB.out), by repeat (first | (with_reducible first | exact HK.out | apply Kept.alloc | apply Kept.drewN | apply Kept.drew | refine Kept.setCell ?_ (.inr GW231.out) _) | exact HK.out)⟩
     ·rw [if_neg c14] at H
      exact absurd H (by simp)
   ·rw [if_neg c6] at H
    exact absurd H (by simp)
  ·rw [if_neg c5] at H
   exact absurd H (by simp)
 ·rw [if_neg c3] at H
  have c3b0 : decide (0 < (l0.length : Int)) = false := decide_eq_false c3
  have c3b1 : decide (0 < l0.length) = false := decide_eq_false (by omega)
  clear c3
  by_cases c19 : l0.length < 17592186044416
  ·rw [if_pos c19] at H
   have LMc19 := Aside0.mk c19
   clear c19
   obtain ⟨y237, hy237⟩ : ∃ y_ : List (S30), y_ = (l0 ++ [(⟨wrap32 (a1_0), wrap32 (a1_1)⟩ : S30)]) := ⟨_, rfl⟩
   replace H : (some y237) = some r := by first | (rw [hy237]; with_reducible exact H) | (have H2_ := (Option.bind_some _ _).symm.trans H; rw [hy237]; with_reducible exact H2_) | (have H2_ := (Option.bind_some _ _).symm.trans H; with_reducible exact H2_) | with_reducible exact H | (rw [hy237]; exact H) | exact H
   have Ny237 := Aside0.mk hy237
   clear hy237
   obtain rfl := Option.some.inj H
   go_enter Tryd.func23, Tryd.ntmps23
   go_wp2_with (first | ((with_reducible refine gate_dst (N := 3) rfl ?_); refine box_event ?hg (N := 3) ?hd (cs := #[.int .i64 a1_0, .int .i64 a1_1]) (t := 61) ?hr ?_; (case hd => rfl); (case hg => rfl); (case hr => first | (go_simp; done) | (go_simp; rfl)); intro gb231 hg w20 hbox hb; have n0_ := Aside0.mk (Kd.R_below (XShort.rr HO0.out) hb); have n1_ := Aside0.mk (Kept.below (S := (fun k_ => P0_ k_)) (by repeat (first | (with_reducible first | exact HK.out | apply Kept.alloc | apply Kept.drewN | apply Kept.drew) | exact HK.out)) hb); have n2_ := Aside0.mk (below_step XShort.bel hb); have n3_ := Aside0.mk (hbox); have n4_ := Aside0.mk ((by rw [hg]; exact (by first | exact HK.out.1 | exact (show Kept w _ (fun k_ => P0_ k_) from by repeat (first | (with_reducible first | exact HK.out | apply Kept.alloc | apply Kept.drewN | apply Kept.drew) | exact HK.out)).1) : w.heap.size ≤ gb231)); have n5_ := Aside0.mk ((by rw [hg]; exact (below_size XShort.bel) : w0.heap.size ≤ gb231)); clear HO0; clear HK; clear HB; have HO0 := n0_; have HK := n1_; have HB := n2_; have BK231 := n3_; have GW231 := n4_; have GE231 := n5_; clear n0_ n1_ n2_ n3_ n4_ n5_; clear hb hbox hg; obtain ⟨Ao21, co21, eo21⟩ := Kd.R_slice HO0.out; subst eo21; have hcz22_0 : w20.cell? ⟨gb231, 0, none⟩ = some (.int .i64 a1_0) := (blk_cell BK231.out 0).trans rfl; have hcz22_1 : w20.cell? ⟨gb231, 1, none⟩ = some (.int .i64 a1_1) := (blk_cell BK231.out 1).trans rfl; have hfz22_0 := blk_frozen BK231.out 0; have hfz22_1 := blk_frozen BK231.out 1) | ((with_reducible refine gate_builtin (b := .append) (xs := #[.tmp 32, .tmp 40]) rfl ?_); at_builtin; refine Kd.R_append k30 (w0 := w0) w0.heap.size rfl (.tmp 32) (.tmp 40) 22 30 (.agg #[(.int .i32 0), (.int .i32 0)]) 8 rfl Tryd.underlying22 info30 rfl (by decide) (by omega) (.slice Ao21 l0.length co21) l0 (⟨wrap32 (a1_0), wrap32 (a1_1)⟩ : S30) [.int .i32 (wrap32 (a1_0)), .int .i32 (wrap32 (a1_1))] (fun k_ => (P0_ k_ ∨ w.heap.size ≤ k_)) (fun _ => False) rfl rfl ?aP (fun _ hk => hk.elim) ?aF ?aO ?aB ?aS ?aL ?_; (case aP => exact k30_mkM _ _ _ (⟨wrap32 (a1_0), wrap32 (a1_1)⟩ : S30)); (case aB => exact (by repeat (first | (with_reducible first | exact HB.out | apply below_alloc | apply pw_below_drewN | apply below_drew1 | refine below_set ?_ GE231.out) | exact HB.out))); (case aF => exact (fun k_ hk => (.inr (Nat.le_trans (by first | exact HK.out.1 | exact (show Kept w _ (fun k_ => P0_ k_) from by repeat (first | (with_reducible first | exact HK.out | apply Kept.alloc | apply Kept.drewN | apply Kept.drew | refine Kept.setCell ?_ (.inr GW231.out) _) | exact HK.out)).1) hk)))); (case aO => exact (XShort.rr HO0.out)); (case aS => exact (below_size (by repeat (first | (with_reducible first | exact HB.out | apply below_alloc | apply pw_below_drewN | apply below_drew1 | refine below_set ?_ GE231.out) | exact HB.out)))); (case aL => have := LMc19.out; omega); intro v238 w23 ho hb hg hat; rw [← Ny237.out] at ho; have n0_ := Aside0.mk (blk_grown (g := gb231) (o := .cells #[.int .i64 a1_0, .int .i64 a1_1] 61 (0, 0)) (by (with_reducible repeat (first | refine blk_drewN ?_ _ | refine blk_drew ?_ | refine blk_alloc ?_ _)); exact BK231.out) hg (Kd.R_ne HO0.out BK231.out (by decide))); have n1_ := Aside0.mk (hb); have n2_ := Aside0.mk (Kept.of_grown (S := (fun k_ => P0_ k_)) hg (by repeat (first | (with_reducible first | exact HK.out | apply Kept.alloc | apply Kept.drewN | apply Kept.drew | refine Kept.setCell ?_ (.inr GW231.out) _) | exact HK.out)) (fun k_ e_ => (HO0.out.1 k_ e_))); have n3_ := Aside0.mk (ho); clear BK231; clear HB; clear HK; clear HO0; have BK231 := n0_; have HB := n1_; have HK := n2_; have HO239 := n3_; clear n0_ n1_ n2_ n3_; clear ho hb hg hat))
   repeat (go_quiet (first | ((with_reducible refine gate_dst (N := 3) rfl ?_); refine box_event ?hg (N := 3) ?hd (cs := #[.int .i64 a1_0, .int .i64 a1_1]) (t := 61) ?hr ?_; (case hd => rfl); (case hg => rfl); (case hr => first | (go_simp; done) | (go_simp; rfl)); intro gb231 hg w20 hbox hb; have n0_ := Aside0.mk (Kd.R_below (XShort.rr HO0.out) hb); have n1_ := Aside0.mk (Kept.below (S := (fun k_ => P0_ k_)) (by repeat (first | (with_reducible first | exact HK.out | apply Kept.alloc | apply Kept.drewN | apply Kept.drew) | exact HK.out)) hb); have n2_ := Aside0.mk (below_step XShort.bel hb); have n3_ := Aside0.mk (hbox); have n4_ := Aside0.mk ((by rw [hg]; exact (by first | exact HK.out.1 | exact (show Kept w _ (fun k_ => P0_ k_) from by repeat (first | (with_reducible first | exact HK.out | apply Kept.alloc | apply Kept.drewN | apply Kept.drew) | exact HK.out)).1) : w.heap.size ≤ gb231)); have n5_ := Aside0.mk ((by rw [hg]; exact (below_size XShort.bel) : w0.heap.size ≤ gb231)); clear HO0; clear HK; clear HB; have HO0 := n0_; have HK := n1_; have HB := n2_; have BK231 := n3_; have GW231 := n4_; have GE231 := n5_; clear n0_ n1_ n2_ n3_ n4_ n5_; clear hb hbox hg; obtain ⟨Ao21, co21, eo21⟩ := Kd.R_slice HO0.out; subst eo21; have hcz22_0 : w20.cell? ⟨gb231, 0, none⟩ = some (.int .i64 a1_0) := (blk_cell BK231.out 0).trans rfl; have hcz22_1 : w20.cell? ⟨gb231, 1, none⟩ = some (.int .i64 a1_1) := (blk_cell BK231.out 1).trans rfl; have hfz22_0 := blk_frozen BK231.out 0; have hfz22_1 := blk_frozen BK231.out 1) | ((with_reducible refine gate_builtin (b := .append) (xs := #[.tmp 32, .tmp 40]) rfl ?_); at_builtin; refine Kd.R_append k30 (w0 := w0) w0.heap.size rfl (.tmp 32) (.tmp 40) 22 30 (.agg #[(.int .i32 0), (.int .i32 0)]) 8 rfl Tryd.underlying22 info30 rfl (by decide) (by omega) (.slice Ao21 l0.length co21) l0 (⟨wrap32 (a1_0), wrap32 (a1_1)⟩ : S30) [.int .i32 (wrap32 (a1_0)), .int .i32 (wrap32 (a1_1))] (fun k_ => (P0_ k_ ∨ w.heap.size ≤ k_)) (fun _ => False) rfl rfl ?aP (fun _ hk => hk.elim) ?aF ?aO ?aB ?aS ?aL ?_; (case aP => exact k30_mkM _ _ _ (⟨wrap32 (a1_0), wrap32 (a1_1)⟩ : S30)); (case aB => exact (by repeat (first | (with_reducible first | exact HB.out | apply below_alloc | apply pw_below_drewN | apply below_drew1 | refine below_set ?_ GE231.out) | exact HB.out))); (case aF => exact (fun k_ hk => (.inr (Nat.le_trans (by first | exact HK.out.1 | exact (show Kept w _ (fun k_ => P0_ k_) from by repeat (first | (with_reducible first | exact HK.out | apply Kept.alloc | apply Kept.drewN | apply Kept.drew | refine Kept.setCell ?_ (.inr GW231.out) _) | exact HK.out)).1) hk)))); (case aO => exact (XShort.rr HO0.out)); (case aS => exact (below_size (by repeat (first | (with_reducible first | exact HB.out | apply below_alloc | apply pw_below_drewN | apply below_drew1 | refine below_set ?_ GE231.out) | exact HB.out)))); (case aL => have := LMc19.out; omega); intro v238 w23 ho hb hg hat; rw [← Ny237.out] at ho; have n0_ := Aside0.mk (blk_grown (g := gb231) (o := .cells #[.int .i64 a1_0, .int .i64 a1_1] 61 (0, 0)) (by (with_reducible repeat (first | refine blk_drewN ?_ _ | refine blk_drew ?_ | refine blk_alloc ?_ _)); exact BK231.out) hg (Kd.R_ne HO0.out BK231.out (by decide))); have n1_ := Aside0.mk (hb); have n2_ := Aside0.mk (Kept.of_grown (S := (fun k_ => P0_ k_)) hg (by repeat (first | (with_reducible first | exact HK.out | apply Kept.alloc | apply Kept.drewN | apply Kept.drew | refine Kept.setCell ?_ (.inr GW231.out) _) | exact HK.out)) (fun k_ e_ => (HO0.out.1 k_ e_))); have n3_ := Aside0.mk (ho); clear BK231; clear HB; clear HK; clear HO0; have BK231 := n0_; have HB := n1_; have HK := n2_; have HO239 := n3_; clear n0_ n1_ n2_ n3_; clear ho hb hg hat)); try go_wp2_with (first | ((with_reducible refine gate_dst (N := 3) rfl ?_); refine box_event ?hg (N := 3) ?hd (cs := #[.int .i64 a1_0, .int .i64 a1_1]) (t := 61) ?hr ?_; (case hd => rfl); (case hg => rfl); (case hr => first | (go_simp; done) | (go_simp; rfl)); intro gb231 hg w20 hbox hb; have n0_ := Aside0.mk (Kd.R_below (XShort.rr HO0.out) hb); have n1_ := Aside0.mk (Kept.below (S := (fun k_ => P0_ k_)) (by repeat (first | (with_reducible first | exact HK.out | apply Kept.alloc | apply Kept.drewN | apply Kept.drew) | exact HK.out)) hb); have n2_ := Aside0.mk (below_step XShort.bel hb); have n3_ := Aside0.mk (hbox); have n4_ := Aside0.mk ((by rw [hg]; exact (by first | exact HK.out.1 | exact (show Kept w _ (fun k_ => P0_ k_) from by repeat (first | (with_reducible first | exact HK.out | apply Kept.alloc | apply Kept.drewN | apply Kept.drew) | exact HK.out)).1) : w.heap.size ≤ gb231)); have n5_ := Aside0.mk ((by rw [hg]; exact (below_size XShort.bel) : w0.heap.size ≤ gb231)); clear HO0; clear HK; clear HB; have HO0 := n0_; have HK := n1_; have HB := n2_; have BK231 := n3_; have GW231 := n4_; have GE231 := n5_; clear n0_ n1_ n2_ n3_ n4_ n5_; clear hb hbox hg; obtain ⟨Ao21, co21, eo21⟩ := Kd.R_slice HO0.out; subst eo21; have hcz22_0 : w20.cell? ⟨gb231, 0, none⟩ = some (.int .i64 a1_0) := (blk_cell BK231.out 0).trans rfl; have hcz22_1 : w20.cell? ⟨gb231, 1, none⟩ = some (.int .i64 a1_1) := (blk_cell BK231.out 1).trans rfl; have hfz22_0 := blk_frozen BK231.out 0; have hfz22_1 := blk_frozen BK231.out 1) | ((with_reducible refine gate_builtin (b := .append) (xs := #[.tmp 32, .tmp 40]) rfl ?_); at_builtin; refine Kd.R_append k30 (w0 := w0) w0.heap.size rfl (.tmp 32) (.tmp 40) 22 30 (.agg #[(.int .i32 0), (.int .i32 0)]) 8 rfl Tryd.underlying22 info30 rfl (by decide) (by omega) (.slice Ao21 l0.length co21) l0 (⟨wrap32 (a1_0), wrap32 (a1_1)⟩ : S30) [.int .i32 (wrap32 (a1_0)), .int .i32 (wrap32 (a1_1))] (fun k_ => (P0_ k_ ∨ w.heap.size ≤ k_)) (fun _ => False) rfl rfl ?aP (fun _ hk => hk.elim) ?aF ?aO ?aB ?aS ?aL ?_; (case aP => exact k30_mkM _ _ _ (⟨wrap32 (a1_0), wrap32 (a1_1)⟩ : S30)); (case aB => exact (by repeat (first | (with_reducible first | exact HB.out | apply below_alloc | apply pw_below_drewN | apply below_drew1 | refine below_set ?_ GE231.out) | exact HB.out))); (case aF => exact (fun k_ hk => (.inr (Nat.le_trans (by first | exact HK.out.1 | exact (show Kept w _ (fun k_ => P0_ k_) from by repeat (first | (with_reducible first | exact HK.out | apply Kept.alloc | apply Kept.drewN | apply Kept.drew | refine Kept.setCell ?_ (.inr GW231.out) _) | exact HK.out)).1) hk)))); (case aO => exact (XShort.rr HO0.out)); (case aS => exact (below_size (by repeat (first | (with_reducible first | exact HB.out | apply below_alloc | apply pw_below_drewN | apply below_drew1 | refine below_set ?_ GE231.out) | exact HB.out)))); (case aL => have := LMc19.out; omega); intro v238 w23 ho hb hg hat; rw [← Ny237.out] at ho; have n0_ := Aside0.mk (blk_grown (g := gb231) (o := .cells #[.int .i64 a1_0, .int .i64 a1_1] 61 (0, 0)) (by (with_reducible repeat (first | refine blk_drewN ?_ _ | refine blk_drew ?_ | refine blk_alloc ?_ _)); exact BK231.out) hg (Kd.R_ne HO0.out BK231.out (by decide))); have n1_ := Aside0.mk (hb); have n2_ := Aside0.mk (Kept.of_grown (S := (fun k_ => P0_ k_)) hg (by repeat (first | (with_reducible first | exact HK.out | apply Kept.alloc | apply Kept.drewN | apply Kept.drew | refine Kept.setCell ?_ (.inr GW231.out) _) | exact HK.out)) (fun k_ e_ => (HO0.out.1 k_ e_))); have n3_ := Aside0.mk (ho); clear BK231; clear HB; clear HK; clear HO0; have BK231 := n0_; have HB := n1_; have HK := n2_; have HO239 := n3_; clear n0_ n1_ n2_ n3_; clear ho hb hg hat)))
   go_ret
   exact ⟨_, by first | rfl | (simp [errW_none, errW_some] <;> rfl) | (simp [*, errW_none, errW_some] <;> rfl), by (with_reducible repeat (first | apply Kd.R_alloc | apply Kd.R_drewN | apply Kd.R_drew)); exact HO239.out, by repeat (first | (with_reducible first | exact HB.out | apply below_alloc | apply pw_below_drewN | apply below_drew1 | refine below_set ?_ GE231.out) | exact HB.out), by repeat (first | (with_reducible first | exact HK.out | apply Kept.alloc | apply Kept.drewN | apply Kept.drew | refine Kept.setCell ?_ (.inr GW231.out) _) | exact HK.out)⟩
  ·rw [if_neg c19] at H
   exact absurd H (by simp)

end Go.Proofs.YtcfecoalljfoaaaDoor.XS
namespace Go.Proofs.YtcfecoalljfoaaaDoor.XS
open Go.Proofs.YtcfecoalljfoaaaDoor.XShort (o i)
open Go.RowKit Go.Proofs.YtcfecoalljfoaaaDoorW.PrintWords Go.Proofs.YtcfecoalljfoaaaDoorW.PrintLast Go.Proofs.YtcfecoalljfoaaaDoorW.PrintMore
attribute [local go_sem] max2_int min2_int max_two min_two max_three min_three max_four min_four   -- for this text's walks alone
set_option linter.unusedVariables false
set_option linter.unusedSimpArgs false

/-! ### thistleref02_Make: function 6 -/
mutual
def thistleref02_Make.l0 : Nat → List (S30) → Int → Option ((List (S30)) × Int)
 | 0, _, _ => none
 | k + 1, x0, x4 => if x4 < (x0.length : Int) then (if 0 ≤ x4 then (if ((rd_T30 x0 x4).f0) > ((rd_T30 x0 x4).f1) then (some (([] : List (S30)), 2)) else (thistleref02_Make.l0 k x0 (wrap64 (x4 + 1)))) else (none)) else ((thistleref02_pieces.f k (([x0] : List (List (S30))))).bind fun t245 => ((thistleref02_inside.f k x0 t245).bind fun t248 => (thistleref02_Make.l1 k ([] : List (S30)) t245 t248 0)))
def thistleref02_Make.l1 : Nat → List (S30) → List (S61) → List Bool → Int → Option ((List (S30)) × Int)
 | 0, _, _, _, _ => none
 | k + 1, x5, x6, x7, x8 => if x8 < (x6.length : Int) then (if 0 ≤ x8 then (if x8 < (x7.length : Int) then (if rdOf false x7 x8 = true then ((thistleref02_join.f x5 ((rd_T61 x6 x8).f0) ((rd_T61 x6 x8).f1)).bind fun t253 => (thistleref02_Make.l1 k t253 x6 x7 (wrap64 (x8 + 1)))) else (thistleref02_Make.l1 k x5 x6 x7 (wrap64 (x8 + 1)))) else (none)) else (none)) else (some (x5, 0))
end
def thistleref02_Make.f (k : Nat) (l0 : List (S30)) : Option ((List (S30)) × Int) := thistleref02_Make.l0 k l0 0
set_option maxHeartbeats 8000000 in
set_option maxRecDepth 100000 in
theorem thistleref02_Make.calls (k : Nat) (P0_ : Nat → Prop) (A0 : Option Addr) (c0 : Nat) (l0 : List (S30)) (r1 : List (S30)) (r2 : Int) (w : World) (hs0 : Kd.V k30 30 w w.heap.size (fun k_ => P0_ k_) (.slice A0 l0.length c0) l0) (h : thistleref02_Make.f k l0 = some (r1, r2)) :
  Calls Tryd.prog 6 #[.slice A0 l0.length c0] w fun e w' => ∃ v0_ : Value, e = .returned (.tuple #[v0_, .int .i64 r2]) ∧ Kd.R k30 30 w' w.heap.size (fun k_ => (w.heap.size ≤ k_)) v0_ r1 ∧ Below w.heap.size w w' := by
 have hu61 := Tryd.underlying61
 have HO0 := Aside0.mk (show Kd.V k30 30 w w.heap.size (fun k_ => (P0_ k_ ∨ w.heap.size ≤ k_)) (.slice A0 l0.length c0) l0 from Kd.V_mono hs0 (fun k_ hk => .inl hk))
 have HB := Aside0.mk (Below.refl w.heap.size w)
 have H : (thistleref02_Make.l0 k l0 0) = some (r1, r2) := h
 clear h
 have H' := Aside0.mk H
 clear H
 go_enter Tryd.func6, Tryd.ntmps6
 go_wp2
 repeat (go_quiet (fail); try go_wp2)
 go_loopg [4] k (fun kq v4 w' => ∃ (x4_1 : Int), v4 = .int .i64 x4_1 ∧ Aside0 (thistleref02_Make.l0 kq l0 x4_1 = some (r1, r2)) ∧ Aside0 (kq ≤ k) ∧ Aside0 (Kd.V k30 30 w' w.heap.size (fun k_ => (P0_ k_ ∨ w.heap.size ≤ k_)) (.slice A0 l0.length c0) l0) ∧ Aside0 (Below w.heap.size w w'))
 case atStart => exact ⟨(0), XShort.eqs, H', ⟨Nat.le_refl _⟩, ⟨by (with_reducible repeat (first | apply Kd.V_alloc | apply Kd.V_drewN | apply Kd.V_drew)); exact HO0.out⟩, ⟨XShort.bel⟩⟩
 case round =>
  clear H'
  obtain ⟨x4_1, rfl, HA, HK1, HO_0, HB⟩ := hrel
  cases gk with
  | zero => exact absurd HA.out (by simp [thistleref02_Make.l0])
  | succ k1 =>
   have H := HA.out
   clear HA
   simp only [thistleref02_Make.l0] at H
   by_cases c2 : x4_1 < (l0.length : Int)
   ·rw [if_pos c2] at H
    have c2b0 : decide (x4_1 < (l0.length : Int)) = true := decide_eq_true c2
    clear c2
    by_cases c3 : 0 ≤ x4_1
    ·rw [if_pos c3] at H
     have c3b0 : decide (0 ≤ x4_1) = true := decide_eq_true c3
     clear c3
     by_cases c4 : ((rd_T30 l0 x4_1).f0) > ((rd_T30 l0 x4_1).f1)
     ·rw [if_pos c4] at H
      have c4b0 : decide (((rd_T30 l0 x4_1).f1) < ((rd_T30 l0 x4_1).f0)) = true := decide_eq_true c4
      clear c4
      simp only [Option.some.injEq, Prod.mk.injEq] at H
      obtain ⟨rfl, rfl⟩ := H
      have p240 : 0 ≤ (x4_1 : Int) := of_decide_eq_true XShort.asm
      have q240 : x4_1 < (l0.length : Int) := of_decide_eq_true XShort.asm
      obtain ⟨ad240, e240, hx240_0, hx240_1⟩ := at_T30 (Kd.V_reads' HO_0.out).2.2 x4_1 p240 q240
      cases e240
      replace p240 := eq_true p240
      replace q240 := eq_true q240
      have p241 : 0 ≤ (x4_1 : Int) := of_decide_eq_true XShort.asm
      have q241 : x4_1 < (l0.length : Int) := of_decide_eq_true XShort.asm
      obtain ⟨ad241, e241, hx241_0, hx241_1⟩ := at_T30 (Kd.V_reads' HO_0.out).2.2 x4_1 p241 q241
      obtain rfl : ad240 = ad241 := (by injection e241)
      replace p241 := eq_true p241
      replace q241 := eq_true q241
      go_wp2
      repeat (go_quiet (fail); try go_wp2)
      go_ret2
      exact ⟨_, by first | rfl | (simp [errW_none, errW_some] <;> rfl) | (simp [*, errW_none, errW_some] <;> rfl), by first | exact Kd.R_nil _ _ _ _ _ | exact Kd.N_nil _ _ _ _ _ | exact Kd.V_nil _ _ _ _ _ | exact Kd.Q_nil _ _ _ _ _ | exact Kd.S_nil _ _ _ _ _, XShort.bel⟩
     ·rw [if_neg c4] at H
      have c4b0 : decide (((rd_T30 l0 x4_1).f1) < ((rd_T30 l0 x4_1).f0)) = false := decide_eq_false c4
      clear c4
      have H' := Aside0.mk H
      clear H
      have p240 : 0 ≤ (x4_1 : Int) := of_decide_eq_true XShort.asm
      have q240 : x4_1 < (l0.length : Int) := of_decide_eq_true XShort.asm
      obtain ⟨ad240, e240, hx240_0, hx240_1⟩ := at_T30 (Kd.V_reads' HO_0.out).2.2 x4_1 p240 q240
      cases e240
      replace p240 := eq_true p240
      replace q240 := eq_true q240
      have p241 : 0 ≤ (x4_1 : Int) := of_decide_eq_true XShort.asm
      have q241 : x4_1 < (l0.length : Int) := of_decide_eq_true XShort.asm
      obtain ⟨ad241, e241, hx241_0, hx241_1⟩ := at_T30 (Kd.V_reads' HO_0.out).2.2 x4_1 p241 q241
      obtain rfl : ad240 = ad241 := (by injection e241)
      replace p241 := eq_true p241
      replace q241 := eq_true q241
      go_wp2
      repeat (go_quiet (fail); try go_wp2)
      go_roundg k1
      case measure => have := HK1.out; omega
      case rel => exact ⟨(wrap64 (x4_1 + 1)), XShort.eqs, H', ⟨by have := HK1.out; omega⟩, ⟨by (with_reducible repeat (first | apply Kd.V_alloc | apply Kd.V_drewN | apply Kd.V_drew)); exact HO_0.out⟩, ⟨XShort.bel⟩⟩
    ·rw [if_neg c3] at H
     exact absurd H (by simp)
   ·rw [if_neg c2] at H
    have c2b0 : decide (x4_1 < (l0.length : Int)) = false := decide_eq_false c2
    clear c2
    obtain ⟨y242, hy242⟩ : ∃ y_ : List (List (S30)), y_ = (([l0] : List (List (S30)))) := ⟨_, rfl⟩
    replace H : ((thistleref02_pieces.f k1 y242).bind fun t245 => ((thistleref02_inside.f k1 l0 t245).bind fun t248 => (thistleref02_Make.l1 k1 ([] : List (S30)) t245 t248 0))) = some (r1, r2) := by first | (rw [hy242]; with_reducible exact H) | (have H2_ := (Option.bind_some _ _).symm.trans H; rw [hy242]; with_reducible exact H2_) | (have H2_ := (Option.bind_some _ _).symm.trans H; with_reducible exact H2_) | with_reducible exact H | (rw [hy242]; exact H) | exact H
    have Ny242 := Aside0.mk hy242
    clear hy242
    replace H := Option.bind_eq_some_iff.mp H
    obtain ⟨t245, A50, H⟩ := H
    replace H : ((thistleref02_inside.f k1 l0 t245).bind fun t248 => (thistleref02_Make.l1 k1 ([] : List (S30)) t245 t248 0)) = some (r1, r2) := H
    have A5 := Aside0.mk A50
    clear A50
    replace H := Option.bind_eq_some_iff.mp H
    obtain ⟨t248, A60, H⟩ := H
    replace H : (thistleref02_Make.l1 k1 ([] : List (S30)) t245 t248 0) = some (r1, r2) := H
    have A6 := Aside0.mk A60
    clear A60
    have H' := Aside0.mk H
    clear H
    go_wp2_with (first | ((with_reducible refine gate_dst (N := 27) rfl ?_); refine Kd.N_lit (Kd.slice 30 k30) _ 22 ?hg (N' := 27) ?hd (xs := ([l0] : List (List (S30)))) (inner := [.slice A0 l0.length c0]) (ok := (fun k_ => (P0_ k_ ∨ w.heap.size ≤ k_))) (okp := (fun k_ => (P0_ k_ ∨ w.heap.size ≤ k_))) ?hr ?hp (fun _ hk => hk) ((show ∀ k_, wr.heap.size ≤ k_ → (fun k_ => (P0_ k_ ∨ w.heap.size ≤ k_)) k_ from fun k_ hk => (.inr (Nat.le_trans (below_size XShort.bel) hk))) _ (Nat.le_refl _)) (Below.refl _ _) (Nat.le_refl _) (by simp) ?_; (case hd => rfl); (case hg => rfl); (case hr => first | (go_simp; done) | (go_simp; rfl)); (case hp => exact (Reps.one (show Kd.FK (Kd.slice 30 k30) _ _ l0 [.slice A0 l0.length c0] from (Kd.FK_slice_mk (Kd.V_reads' (Kd.V_mono (ok' := (fun k_ => (P0_ k_ ∨ w.heap.size ≤ k_))) (HO_0.out) (fun k_ hk => hk))).2.1 (Kd.V_F (Kd.V_mono (ok' := (fun k_ => (P0_ k_ ∨ w.heap.size ≤ k_))) (HO_0.out) (fun k_ hk => hk))))) (Reps.none _ _))); intro v243 w7 ho8 hb hg_ hnew_; clear hg_ hnew_; (first | rw [← Ny242.out] at ho8 | (simp only [Int.reduceToNat] at ho8; rw [← Ny242.out] at ho8)); have n0_ := Aside0.mk (Kd.V_elder' (XShort.vv HO_0.out) (Kd.N_base ho8) hb); have n1_ := Aside0.mk (Kd.N_lower ho8 (below_size XShort.bel)); have n2_ := Aside0.mk (below_step XShort.bel hb); clear HO_0; clear HB; have HO_0 := n0_; have HO244 := n1_; have HB := n2_; clear n0_ n1_ n2_; clear hb ho8; obtain ⟨Ao9, co9, eo9⟩ := Kd.N_slice HO244.out; subst eo9) | (go_at_call 21; (with_reducible refine (thistleref02_pieces.calls k1 _ _ y242 t245 _ ?side1 ?side2 A5.out).mono ?_); (case side1 => repeat (first | exact (Kd.N_reads' HO244.out).2.2 | (with_reducible refine Kd.C_alloc ?_ _) | (with_reducible refine Kd.C_drewN ?_ _) | (with_reducible refine Kd.C_drew ?_))); (case side2 => exact (Kd.N_reads' HO244.out).2.1); rintro e w10 ⟨v246, rfl, ho0, hb⟩; have n0_ := Aside0.mk (Kd.V_elder' (XShort.vv HO_0.out) (Kd.R_base ho0) hb); have n1_ := Aside0.mk (Kd.N_elder' (by (with_reducible repeat (first | apply Kd.N_alloc | apply Kd.N_drewN | apply Kd.N_drew)); exact HO244.out) (Kd.R_base ho0) hb); have n2_ := Aside0.mk (Kd.R_lower (Kd.R_newM (M := fun k_ => (w.heap.size ≤ k_)) ho0 (below_size XShort.bel) (fun k_ h_ => h_)) (below_size XShort.bel)); have n3_ := Aside0.mk (below_step XShort.bel hb); clear HO_0; clear HO244; clear HB; have HO_0 := n0_; have HO244 := n1_; have HO247 := n2_; have HB := n3_; clear n0_ n1_ n2_ n3_; (try clear hb); (try clear hb2); (try clear hk); (try clear hi); (try clear ho0); obtain ⟨Ao11, co11, eo11⟩ := Kd.R_slice HO247.out; subst eo11) | (go_at_call 22; (with_reducible refine (thistleref02_inside.calls k1 _ _ l0 _ _ t245 t248 _ ?side1 ?side2 ?side3 ?side4 A6.out).mono ?_); (case side1 => repeat (first | exact (Kd.V_reads' HO_0.out).2.2 | (with_reducible refine Kd.C_alloc ?_ _) | (with_reducible refine Kd.C_drewN ?_ _) | (with_reducible refine Kd.C_drew ?_))); (case side2 => exact (Kd.V_reads' HO_0.out).2.1); (case side3 => repeat (first | exact (Kd.R_reads' HO247.out).2.2 | (with_reducible refine Kd.C_alloc ?_ _) | (with_reducible refine Kd.C_drewN ?_ _) | (with_reducible refine Kd.C_drew ?_))); (case side4 => exact (Kd.R_reads' HO247.out).2.1); rintro e w12 ⟨v249, rfl, ho0, hb⟩; have n0_ := Aside0.mk (Kd.V_elder' (XShort.vv HO_0.out) (Kd.R_base ho0) hb); have n1_ := Aside0.mk (Kd.N_elder' (by (with_reducible repeat (first | apply Kd.N_alloc | apply Kd.N_drewN | apply Kd.N_drew)); exact HO244.out) (Kd.R_base ho0) hb); have n2_ := Aside0.mk (Kd.R_below (XShort.rr HO247.out) hb); have n3_ := Aside0.mk (Kd.R_lower (Kd.R_newM (M := fun k_ => (w.heap.size ≤ k_)) ho0 (below_size XShort.bel) (fun k_ h_ => h_)) (below_size XShort.bel)); have n4_ := Aside0.mk (below_step XShort.bel hb); clear HO_0; clear HO244; clear HO247; clear HB; have HO_0 := n0_; have HO244 := n1_; have HO247 := n2_; have HO250 := n3_; have HB := n4_; clear n0_ n1_ n2_ n3_ n4_; (try clear hb); (try clear hb2); (try clear hk); (try clear hi); (try clear ho0)))
    repeat (go_quiet (first | ((with_reducible refine gate_dst (N := 27) rfl ?_); refine Kd.N_lit (Kd.slice 30 k30) _ 22 ?hg (N' := 27) ?hd (xs := ([l0] : List (List (S30)))) (inner := [.slice A0 l0.length c0]) (ok := (fun k_ => (P0_ k_ ∨ w.heap.size ≤ k_))) (okp := (fun k_ => (P0_ k_ ∨ w.heap.size ≤ k_))) ?hr ?hp (fun _ hk => hk) ((show ∀ k_, wr.heap.size ≤ k_ → (fun k_ => (P0_ k_ ∨ w.heap.size ≤ k_)) k_ from fun k_ hk => (.inr (Nat.le_trans (below_size XShort.bel) hk))) _ (Nat.le_refl _)) (Below.refl _ _) (Nat.le_refl _) (by simp) ?_; (case hd => rfl); (case hg => rfl); (case hr => first | (go_simp; done) | (go_simp; rfl)); (case hp => exact (Reps.one (show Kd.FK (Kd.slice 30 k30) _ _ l0 [.slice A0 l0.length c0] from (Kd.FK_slice_mk (Kd.V_reads' (Kd.V_mono (ok' := (fun k_ => (P0_ k_ ∨ w.heap.size ≤ k_))) (HO_0.out) (fun k_ hk => hk))).2.1 (Kd.V_F (Kd.V_mono (ok' := (fun k_ => (P0_ k_ ∨ w.heap.size ≤ k_))) (HO_0.out) (fun k_ hk => hk))))) (Reps.none _ _))); intro v243 w7 ho8 hb hg_ hnew_; clear hg_ hnew_; (first | rw [← Ny242.out] at ho8 | (simp only [Int.reduceToNat] at ho8; rw [← Ny242.out] at ho8)); have n0_ := Aside0.mk (Kd.V_elder' (XShort.vv HO_0.out) (Kd.N_base ho8) hb); have n1_ := Aside0.mk (Kd.N_lower ho8 (below_size XShort.bel)); have n2_ := Aside0.mk (below_step XShort.bel hb); clear HO_0; clear HB; have HO_0 := n0_; have HO244 := n1_; have HB := n2_; clear n0_ n1_ n2_; clear hb ho8; obtain ⟨Ao9, co9, eo9⟩ := Kd.N_slice HO244.out; subst eo9) | (go_at_call 21; (with_reducible refine (thistleref02_pieces.calls k1 _ _ y242 t245 _ ?side1 ?side2 A5.out).mono ?_); (case side1 => repeat (first | exact (Kd.N_reads' HO244.out).2.2 | (with_reducible refine Kd.C_alloc ?_ _) | (with_reducible refine Kd.C_drewN ?_ _) | (with_reducible refine Kd.C_drew ?_))); (case side2 => exact (Kd.N_reads' HO244.out).2.1); rintro e w10 ⟨v246, rfl, ho0, hb⟩; have n0_ := Aside0.mk (Kd.V_elder' (XShort.vv HO_0.out) (Kd.R_base ho0) hb); have n1_ := Aside0.mk (Kd.N_elder' (by (with_reducible repeat (first | apply Kd.N_alloc | apply Kd.N_drewN | apply Kd.N_drew)); exact HO244.out) (Kd.R_base ho0) hb); have n2_ := Aside0.mk (Kd.R_lower (Kd.R_newM (M := fun k_ => (w.heap.size ≤ k_)) ho0 (below_size XShort.bel) (fun k_ h_ => h_)) (below_size XShort.bel)); have n3_ := Aside0.mk (below_step XShort.bel hb); clear HO_0; clear HO244; clear HB; have HO_0 := n0_; have HO244 := n1_; have HO247 := n2_; have HB := n3_; clear n0_ n1_ n2_ n3_; (try clear hb); (try clear hb2); (try clear hk); (try clear hi); (try clear ho0); obtain ⟨Ao11, co11, eo11⟩ := Kd.R_slice HO247.out; subst eo11) | (go_at_call 22; (with_reducible refine (thistleref02_inside.calls k1 _ _ l0 _ _ t245 t248 _ ?side1 ?side2 ?side3 ?side4 A6.out).mono ?_); (case side1 => repeat (first | exact (Kd.V_reads' HO_0.out).2.2 | (with_reducible refine Kd.C_alloc ?_ _) | (with_reducible refine Kd.C_drewN ?_ _) | (with_reducible refine Kd.C_drew ?_))); (case side2 => exact (Kd.V_reads' HO_0.out).2.1); (case side3 => repeat (first | exact (Kd.R_reads' HO247.out).2.2 | (with_reducible refine Kd.C_alloc ?_ _) | (with_reducible refine Kd.C_drewN ?_ _) | (with_reducible refine Kd.C_drew ?_))); (case side4 => exact (Kd.R_reads' HO247.out).2.1); rintro e w12 ⟨v249, rfl, ho0, hb⟩; have n0_ := Aside0.mk (Kd.V_elder' (XShort.vv HO_0.out) (Kd.R_base ho0) hb); have n1_ := Aside0.mk (Kd.N_elder' (by (with_reducible repeat (first | apply Kd.N_alloc | apply Kd.N_drewN | apply Kd.N_drew)); exact HO244.out) (Kd.R_base ho0) hb); have n2_ := Aside0.mk (Kd.R_below (XShort.rr HO247.out) hb); have n3_ := Aside0.mk (Kd.R_lower (Kd.R_newM (M := fun k_ => (w.heap.size ≤ k_)) ho0 (below_size XShort.bel) (fun k_ h_ => h_)) (below_size XShort.bel)); have n4_ := Aside0.mk (below_step XShort.bel hb); clear HO_0; clear HO244; clear HO247; clear HB; have HO_0 := n0_; have HO244 := n1_; have HO247 := n2_; have HO250 := n3_; have HB := n4_; clear n0_ n1_ n2_ n3_ n4_; (try clear hb); (try clear hb2); (try clear hk); (try clear hi); (try clear ho0))); try go_wp2_with (first | ((with_reducible refine gate_dst (N := 27) rfl ?_); refine Kd.N_lit (Kd.slice 30 k30) _ 22 ?hg (N' := 27) ?hd (xs := ([l0] : List (List (S30)))) (inner := [.slice A0 l0.length c0]) (ok := (fun k_ => (P0_ k_ ∨ w.heap.size ≤ k_))) (okp := (fun k_ => (P0_ k_ ∨ w.heap.size ≤ k_))) ?hr ?hp (fun _ hk => hk) ((show ∀ k_, wr.heap.size ≤ k_ → (fun k_ => (P0_ k_ ∨ w.heap.size ≤ k_)) k_ from fun k_ hk => (.inr (Nat.le_trans (below_size XShort.bel) hk))) _ (Nat.le_refl _)) (Below.refl _ _) (Nat.le_refl _) (by simp) ?_; (case hd => rfl); (case hg => rfl); (case hr => first | (go_simp; done) | (go_simp; rfl)); (case hp => exact (Reps.one (show Kd.FK (Kd.slice 30 k30) _ _ l0 [.slice A0 l0.length c0] from (Kd.FK_slice_mk (Kd.V_reads' (Kd.V_mono (ok' := (fun k_ => (P0_ k_ ∨ w.heap.size ≤ k_))) (HO_0.out) (fun k_ hk => hk))).2.1 (Kd.V_F (Kd.V_mono (ok' := (fun k_ => (P0_ k_ ∨ w.heap.size ≤ k_))) (HO_0.out) (fun k_ hk => hk))))) (Reps.none _ _))); intro v243 w7 ho8 hb hg_ hnew_; clear hg_ hnew_; (first | rw [← Ny242.out] at ho8 | (simp only [Int.reduceToNat] at ho8; rw [← Ny242.out] at ho8)); have n0_ := Aside0.mk (Kd.V_elder' (XShort.vv HO_0.out) (Kd.N_base ho8) hb); have n1_ := Aside0.mk (Kd.N_lower ho8 (below_size XShort.bel)); have n2_ := Aside0.mk (below_step XShort.bel hb); clear HO_0; clear HB; have HO_0 := n0_; have HO244 := n1_; have HB := n2_; clear n0_ n1_ n2_; clear hb ho8; obtain ⟨Ao9, co9, eo9⟩ := Kd.N_slice HO244.out; subst eo9) | (go_at_call 21; (with_reducible refine (thistleref02_pieces.calls k1 _ _ y242 t245 _ ?side1 ?side2 A5.out).mono ?_); (case side1 => repeat (first | exact (Kd.N_reads' HO244.out).2.2 | (with_reducible refine Kd.C_alloc ?_ _) | (with_reducible refine Kd.C_drewN ?_ _) | (with_reducible refine Kd.C_drew ?_))); (case side2 => exact (Kd.N_reads' HO244.out).2.1); rintro e w10 ⟨v246, rfl, ho0, hb⟩; have n0_ := Aside0.mk (Kd.V_elder' (XShort.vv HO_0.out) (Kd.R_base ho0) hb); have n1_ := Aside0.mk (Kd.N_elder' (by (with_reducible repeat (first | apply Kd.N_alloc | apply Kd.N_drewN | apply Kd.N_drew)); exact HO244.out) (Kd.R_base ho0) hb); have n2_ := Aside0.mk (Kd.R_lower (Kd.R_newM (M := fun k_ => (w.heap.size ≤ k_)) ho0 (below_size XShort.bel) (fun k_ h_ => h_)) (below_size XShort.bel)); have n3_ := Aside0.mk (below_step XShort.bel hb); clear HO_0; clear HO244; clear HB; have HO_0 := n0_; have HO244 := n1_; have HO247 := n2_; have HB := n3_; clear n0_ n1_ n2_ n3_; (try clear hb); (try clear hb2); (try clear hk); (try clear hi); (try clear ho0); obtain ⟨Ao11, co11, eo11⟩ := Kd.R_slice HO247.out; subst eo11) | (go_at_call 22; (with_reducible refine (thistleref02_inside.calls k1 _ _ l0 _ _ t245 t248 _ ?side1 ?side2 ?side3 ?side4 A6.out).mono ?_); (case side1 => repeat (first | exact (Kd.V_reads' HO_0.out).2.2 | (with_reducible refine Kd.C_alloc ?_ _) | (with_reducible refine Kd.C_drewN ?_ _) | (with_reducible refine Kd.C_drew ?_))); (case side2 => exact (Kd.V_reads' HO_0.out).2.1); (case side3 => repeat (first | exact (Kd.R_reads' HO247.out).2.2 | (with_reducible refine Kd.C_alloc ?_ _) | (with_reducible refine Kd.C_drewN ?_ _) | (with_reducible refine Kd.C_drew ?_))); (case side4 => exact (Kd.R_reads' HO247.out).2.1); rintro e w12 ⟨v249, rfl, ho0, hb⟩; have n0_ := Aside0.mk (Kd.V_elder' (XShort.vv HO_0.out) (Kd.R_base ho0) hb); have n1_ := Aside0.mk (Kd.N_elder' (by (with_reducible repeat (first | apply Kd.N_alloc | apply Kd.N_drewN | apply Kd.N_drew)); exact HO244.out) (Kd.R_base ho0) hb); have n2_ := Aside0.mk (Kd.R_below (XShort.rr HO247.out) hb); have n3_ := Aside0.mk (Kd.R_lower (Kd.R_newM (M := fun k_ => (w.heap.size ≤ k_)) ho0 (below_size XShort.bel) (fun k_ h_ => h_)) (below_size XShort.bel)); have n4_ := Aside0.mk (below_step XShort.bel hb); clear HO_0; clear HO244; clear HO247; clear HB; have HO_0 := n0_; have HO244 := n1_; have HO247 := n2_; have HO250 := n3_; have HB := n4_; clear n0_ n1_ n2_ n3_ n4_; (try clear hb); (try clear hb2); (try clear hk); (try clear hi); (try clear ho0))))
    go_loopg [5, 8] k1 (fun kq v5 v8 w' => ∃ (x5_2 : List (S30)) (x8_2 : Int), v8 = .int .i64 x8_2 ∧ Aside0 (thistleref02_Make.l1 kq x5_2 t245 t248 x8_2 = some (r1, r2)) ∧ Aside0 (kq ≤ k1) ∧ Aside0 (Kd.R k30 30 w' w.heap.size (fun k_ => (w.heap.size ≤ k_)) v5 x5_2) ∧ Aside0 (Kd.R k61 61 w' w.heap.size (fun k_ => (w.heap.size ≤ k_)) (.slice Ao11 t245.length co11) t245) ∧ Aside0 (Kd.R Kd.bool 4 w' w.heap.size (fun k_ => (w.heap.size ≤ k_)) v249 t248) ∧ Aside0 (Below w.heap.size w w'))
    case atStart => exact ⟨(([] : List (S30))), (0), XShort.eqs, H', ⟨Nat.le_refl _⟩, ⟨by first | exact Kd.R_nil _ _ _ _ _ | exact Kd.N_nil _ _ _ _ _ | exact Kd.V_nil _ _ _ _ _ | exact Kd.Q_nil _ _ _ _ _ | exact Kd.S_nil _ _ _ _ _⟩, ⟨by (with_reducible repeat (first | apply Kd.R_alloc | apply Kd.R_drewN | apply Kd.R_drew)); exact Kd.R_mono HO247.out (fun _ hk => hk.1)⟩, ⟨by (with_reducible repeat (first | apply Kd.R_alloc | apply Kd.R_drewN | apply Kd.R_drew)); exact Kd.R_mono HO250.out (fun _ hk => hk.1)⟩, ⟨XShort.bel⟩⟩
    case round =>
     clear H'
     try clear c2
     try clear c2b0
     try clear p2
     try clear q2
     try clear hx2
     try clear c3
     try clear c3b0
     try clear c4
     try clear c4b0
     try clear c6
     try clear p6
     try clear hx240_0
     try clear hx240_1
     try clear hx241_0
     try clear hx241_1
     try clear p240
     try clear p241
     try clear q240
     try clear q241
     obtain ⟨x5_2, x8_2, rfl, HA, HK2, HO_5, HO_6, HO_7, HB⟩ := hrel
     cases gk with
     | zero => exact absurd HA.out (by simp [thistleref02_Make.l1])
     | succ k2 =>
      have H := HA.out
      clear HA
      simp only [thistleref02_Make.l1] at H
      by_cases c13 : x8_2 < (t245.length : Int)
      ·rw [if_pos c13] at H
       have c13b0 : decide (x8_2 < (t245.length : Int)) = true := decide_eq_true c13
       clear c13
       by_cases c14 : 0 ≤ x8_2
       ·rw [if_pos c14] at H
        have c14b0 : decide (0 ≤ x8_2) = true := decide_eq_true c14
        clear c14
        by_cases c15 : x8_2 < (t248.length : Int)
        ·rw [if_pos c15] at H
         have c15b0 : decide (x8_2 < (t248.length : Int)) = true := decide_eq_true c15
         clear c15
         obtain ⟨bq16, hbq16⟩ : ∃ b_ : Bool, b_ = (rdOf false t248 x8_2) := ⟨_, rfl⟩
         replace H : (if bq16 = true then ((thistleref02_join.f x5_2 ((rd_T61 t245 x8_2).f0) ((rd_T61 t245 x8_2).f1)).bind fun t253 => (thistleref02_Make.l1 k2 t253 t245 t248 (wrap64 (x8_2 + 1)))) else (thistleref02_Make.l1 k2 x5_2 t245 t248 (wrap64 (x8_2 + 1)))) = some (r1, r2) := by rw [← hbq16] at H; exact H
         have Nbq16 := Aside0.mk hbq16
         clear hbq16
         by_cases c17 : bq16 = true
         ·subst c17
          have H1 : ((thistleref02_join.f x5_2 ((rd_T61 t245 x8_2).f0) ((rd_T61 t245 x8_2).f1)).bind fun t253 => (thistleref02_Make.l1 k2 t253 t245 t248 (wrap64 (x8_2 + 1)))) = some (r1, r2) := by rw [if_pos rfl] at H; exact H
          clear H
          have H := H1
          clear H1
          replace H := Option.bind_eq_some_iff.mp H
          obtain ⟨t253, A180, H⟩ := H
          replace H : (thistleref02_Make.l1 k2 t253 t245 t248 (wrap64 (x8_2 + 1))) = some (r1, r2) := H
          have A18 := Aside0.mk A180
          clear A180
          have H' := Aside0.mk H
          clear H
          obtain ⟨Ao19, co19, eo19⟩ := Kd.R_slice HO_7.out
          subst eo19
          have p251 : 0 ≤ (x8_2 : Int) := of_decide_eq_true XShort.asm
          have q251 : x8_2 < (t248.length : Int) := of_decide_eq_true XShort.asm
          obtain ⟨ad251, e251, hx251_0⟩ := Kd.at_bool (Kd.R_reads' HO_7.out).2.2 x8_2 p251 q251
          (try rw [← Nbq16.out] at hx251_0)
          cases e251
          replace p251 := eq_true p251
          replace q251 := eq_true q251
          have p252 : 0 ≤ (x8_2 : Int) := of_decide_eq_true XShort.asm
          have q252 : x8_2 < (t245.length : Int) := of_decide_eq_true XShort.asm
          obtain ⟨ad252, e252, hx252_0, hx252_1⟩ := at_T61 (Kd.R_reads' HO_6.out).2.2 x8_2 p252 q252
          cases e252
          replace p252 := eq_true p252
          replace q252 := eq_true q252
          obtain ⟨Ao20, co20, eo20⟩ := Kd.R_slice HO_5.out
          subst eo20
          go_wp2_with (first | (go_at_call 23; (with_reducible refine (thistleref02_join.calls (fun k_ => some k_ = (.slice Ao20 x5_2.length co20 : Value).ownBlock) (.slice Ao20 x5_2.length co20) x5_2 ((rd_T61 t245 x8_2).f0) ((rd_T61 t245 x8_2).f1) t253 w _ ?side1 ?side2 A18.out).mono ?_); (case side1 => repeat (first | (with_reducible first | exact HB.out | apply below_alloc | apply pw_below_drewN | apply below_drew1) | exact HB.out)); (case side2 => exact Kd.R_tight rfl HO_5.out); rintro e w21 ⟨v254, rfl, ho0, hb, hkp⟩; have n0_ := Aside0.mk (Kd.R_mono (ok' := fun k_ => (w.heap.size ≤ k_)) (Kd.R_keptB ((Kd.R_apart' HO_6.out (Kd.R_typed HO_5.out) (by decide))) hkp (fun k_ hk_ hs_ => (hk_.2) hs_)) (fun k_ hk_ => hk_.1.1)); have n1_ := Aside0.mk (Kd.R_mono (ok' := fun k_ => (w.heap.size ≤ k_)) (Kd.R_keptB ((Kd.R_apart' HO_7.out (Kd.R_typed HO_5.out) (by decide))) hkp (fun k_ hk_ hs_ => (hk_.2) hs_)) (fun k_ hk_ => hk_.1.1)); have n2_ := Aside0.mk (Kd.R_mono (ok' := fun k_ => (w.heap.size ≤ k_)) ho0 (fun k_ hk_ => Or.elim hk_ (fun hs_ => (HO_5.out.1 k_ (hs_).symm)) (fun hn_ => (Nat.le_trans (below_size XShort.bel) hn_)))); have n3_ := Aside0.mk (hb); clear HO_6; clear HO_7; clear HB; clear HO_5; have HO_6 := n0_; have HO_7 := n1_; have HO255 := n2_; have HB := n3_; clear n0_ n1_ n2_ n3_; (try clear hb); (try clear hkp); (try clear ho0)))
          repeat (go_quiet (first | (go_at_call 23; (with_reducible refine (thistleref02_join.calls (fun k_ => some k_ = (.slice Ao20 x5_2.length co20 : Value).ownBlock) (.slice Ao20 x5_2.length co20) x5_2 ((rd_T61 t245 x8_2).f0) ((rd_T61 t245 x8_2).f1) t253 w _ ?side1 ?side2 A18.out).mono ?_); (case side1 => repeat (first | (with_reducible first | exact HB.out | apply below_alloc | apply pw_below_drewN | apply below_drew1) | exact HB.out)); (case side2 => exact Kd.R_tight rfl HO_5.out); rintro e w21 ⟨v254, rfl, ho0, hb, hkp⟩; have n0_ := Aside0.mk (Kd.R_mono (ok' := fun k_ => (w.heap.size ≤ k_)) (Kd.R_keptB ((Kd.R_apart' HO_6.out (Kd.R_typed HO_5.out) (by decide))) hkp (fun k_ hk_ hs_ => (hk_.2) hs_)) (fun k_ hk_ => hk_.1.1)); have n1_ := Aside0.mk (Kd.R_mono (ok' := fun k_ => (w.heap.size ≤ k_)) (Kd.R_keptB ((Kd.R_apart' HO_7.out (Kd.R_typed HO_5.out) (by decide))) hkp (fun k_ hk_ hs_ => (hk_.2) hs_)) (fun k_ hk_ => hk_.1.1)); have n2_ := Aside0.mk (Kd.R_mono (ok' := fun k_ => (w.heap.size ≤ k_)) ho0 (fun k_ hk_ => Or.elim hk_ (fun hs_ => (HO_5.out.1 k_ (hs_).symm)) (fun hn_ => (Nat.le_trans (below_size XShort.bel) hn_)))); have n3_ := Aside0.mk (hb); clear HO_6; clear HO_7; clear HB; clear HO_5; have HO_6 := n0_; have HO_7 := n1_; have HO255 := n2_; have HB := n3_; clear n0_ n1_ n2_ n3_; (try clear hb); (try clear hkp); (try clear ho0))); try go_wp2_with (first | (go_at_call 23; (with_reducible refine (thistleref02_join.calls (fun k_ => some k_ = (.slice Ao20 x5_2.length co20 : Value).ownBlock) (.slice Ao20 x5_2.length co20) x5_2 ((rd_T61 t245 x8_2).f0) ((rd_T61 t245 x8_2).f1) t253 w _ ?side1 ?side2 A18.out).mono ?_); (case side1 => repeat (first | (with_reducible first | exact HB.out | apply below_alloc | apply pw_below_drewN | apply below_drew1) | exact HB.out)); (case side2 => exact Kd.R_tight rfl HO_5.out); rintro e w21 ⟨v254, rfl, ho0, hb, hkp⟩; have n0_ := Aside0.mk (Kd.R_mono (ok' := fun k_ => (w.heap.size ≤ k_)) (Kd.R_keptB ((Kd.R_apart' HO_6.out (Kd.R_typed HO_5.out) (by decide))) hkp (fun k_ hk_ hs_ => (hk_.2) hs_)) (fun k_ hk_ => hk_.1.1)); have n1_ := Aside0.mk (Kd.R_mono (ok' := fun k_ => (w.heap.size ≤ k_)) (Kd.R_keptB ((Kd.R_apart' HO_7.out (Kd.R_typed HO_5.out) (by decide))) hkp (fun k_ hk_ hs_ => (hk_.2) hs_)) (fun k_ hk_ => hk_.1.1)); have n2_ := Aside0.mk (Kd.R_mono (ok' := fun k_ => (w.heap.size ≤ k_)) ho0 (fun k_ hk_ => Or.elim hk_ (fun hs_ => (HO_5.out.1 k_ (hs_).symm)) (fun hn_ => (Nat.le_trans (below_size XShort.bel) hn_)))); have n3_ := Aside0.mk (hb); clear HO_6; clear HO_7; clear HB; clear HO_5; have HO_6 := n0_; have HO_7 := n1_; have HO255 := n2_; have HB := n3_; clear n0_ n1_ n2_ n3_; (try clear hb); (try clear hkp); (try clear ho0))))
          go_roundg k2
          case measure => have := HK1.out; have := HK2.out; omega
          case rel => exact ⟨(t253), (wrap64 (x8_2 + 1)), XShort.eqs, H', ⟨by have := HK1.out; have := HK2.out; omega⟩, ⟨by (with_reducible repeat (first | apply Kd.R_alloc | apply Kd.R_drewN | apply Kd.R_drew)); exact HO255.out⟩, ⟨by (with_reducible repeat (first | apply Kd.R_alloc | apply Kd.R_drewN | apply Kd.R_drew)); exact HO_6.out⟩, ⟨by (with_reducible repeat (first | apply Kd.R_alloc | apply Kd.R_drewN | apply Kd.R_drew)); exact HO_7.out⟩, ⟨XShort.bel⟩⟩
         ·replace c17 := Bool.eq_false_iff.mpr c17
          subst c17
          have H1 : (thistleref02_Make.l1 k2 x5_2 t245 t248 (wrap64 (x8_2 + 1))) = some (r1, r2) := by rw [if_neg (show ¬ (false = true) by decide)] at H; exact H
          clear H
          have H := H1
          clear H1
          have H' := Aside0.mk H
          clear H
          obtain ⟨Ao22, co22, eo22⟩ := Kd.R_slice HO_7.out
          subst eo22
          have p251 : 0 ≤ (x8_2 : Int) := of_decide_eq_true XShort.asm
          have q251 : x8_2 < (t248.length : Int) := of_decide_eq_true XShort.asm
          obtain ⟨ad251, e251, hx251_0⟩ := Kd.at_bool (Kd.R_reads' HO_7.out).2.2 x8_2 p251 q251
          (try rw [← Nbq16.out] at hx251_0)
          cases e251
          replace p251 := eq_true p251
          replace q251 := eq_true q251
          go_wp2
          repeat (go_quiet (fail); try go_wp2)
          go_roundg k2
          case measure => have := HK1.out; have := HK2.out; omega
          case rel => exact ⟨(x5_2), (wrap64 (x8_2 + 1)), XShort.eqs, H', ⟨by have := HK1.out; have := HK2.out; omega⟩, ⟨by (with_reducible repeat (first | apply Kd.R_alloc | apply Kd.R_drewN | apply Kd.R_drew)); exact HO_5.out⟩, ⟨by (with_reducible repeat (first | apply Kd.R_alloc | apply Kd.R_drewN | apply Kd.R_drew)); exact HO_6.out⟩, ⟨by (with_reducible repeat (first | apply Kd.R_alloc | apply Kd.R_drewN | apply Kd.R_drew)); exact HO_7.out⟩, ⟨XShort.bel⟩⟩
        ·rw [if_neg c15] at H
         exact absurd H (by simp)
       ·rw [if_neg c14] at H
        exact absurd H (by simp)
      ·rw [if_neg c13] at H
       have c13b0 : decide (x8_2 < (t245.length : Int)) = false := decide_eq_false c13
       clear c13
       simp only [Option.some.injEq, Prod.mk.injEq] at H
       obtain ⟨rfl, rfl⟩ := H
       go_wp2
       repeat (go_quiet (fail); try go_wp2)
       go_ret2
       exact ⟨_, by first | rfl | (simp [errW_none, errW_some] <;> rfl) | (simp [*, errW_none, errW_some] <;> rfl), by (with_reducible repeat (first | apply Kd.R_alloc | apply Kd.R_drewN | apply Kd.R_drew)); exact HO_5.out, XShort.bel⟩

end Go.Proofs.YtcfecoalljfoaaaDoor.XS
namespace Go.Proofs.YtcfecoalljfoaaaDoor.XS
open Go.Proofs.YtcfecoalljfoaaaDoor.XShort (o i)
open Go.RowKit Go.Proofs.YtcfecoalljfoaaaDoorW.PrintWords Go.Proofs.YtcfecoalljfoaaaDoorW.PrintLast Go.Proofs.YtcfecoalljfoaaaDoorW.PrintMore
attribute [local go_sem] max2_int min2_int max_two min_two max_three min_three max_four min_four   -- for this text's walks alone
set_option linter.unusedVariables false
set_option linter.unusedSimpArgs false

/-! ### thistleref02_Check: function 29 -/
mutual
def thistleref02_Check.l0 : Nat → List (S30) → Int → Option (Int)
 | 0, _, _ => none
 | k + 1, x0, x3 => if x3 < (x0.length : Int) then (if 0 ≤ x3 then ((thistleref02_block.f k ((rd_T30 x0 x3).f0)).bind fun t257 => (if t257 < 0 then (thistleref02_Check.j1 k x0 x3 true) else ((thistleref02_block.f k ((rd_T30 x0 x3).f1)).bind fun t259 => (if t257 = t259 then (thistleref02_Check.j1 k x0 x3 (decide (((rd_T30 x0 x3).f0) > ((rd_T30 x0 x3).f1)))) else (thistleref02_Check.j1 k x0 x3 true))))) else (none)) else (some 0)
def thistleref02_Check.j1 : Nat → List (S30) → Int → Bool → Option (Int)
 | 0, _, _, _ => none
 | k + 1, x0, x3, x41 => if x41 = true then (some 1) else (if x3 > 0 then (if 0 ≤ x3 then (if x3 < (x0.length : Int) then (if 0 ≤ (wrap64 (x3 - 1)) then (if (wrap64 (x3 - 1)) < (x0.length : Int) then (if (wrap64 ((rd_T30 x0 x3).f0)) ≤ (wrap64 ((wrap64 ((rd_T30 x0 (wrap64 (x3 - 1))).f1)) + 1)) then (some 1) else (thistleref02_Check.l0 k x0 (wrap64 (x3 + 1)))) else (none)) else (none)) else (none)) else (none)) else (thistleref02_Check.l0 k x0 (wrap64 (x3 + 1))))
end
def thistleref02_Check.f (k : Nat) (l0 : List (S30)) : Option (Int) := thistleref02_Check.l0 k l0 0
def thistleref02_Check.T5 : Bool × List (List Nat × List Nat) := (true, [([], []), ([0], [0]), ([1], [1]), ([2], [2]), ([2], [2]), ([2], [2]), ([4, 5, 2], [2, 4, 5]), ([6, 2], [2, 6]), ([7, 2], [2, 7]), ([8, 2, 2], [2, 8]), ([3, 9, 2], [2, 3, 9]), ([2, 10], [2, 10]), ([11, 9], [11]), ([12], [12]), ([12], [12]), ([13, 14, 12], [12, 13, 14]), ([15, 12], [12, 15]), ([16, 12], [12, 16]), ([12], [12]), ([12], [12]), ([18, 19, 12], [12, 18, 19]), ([20, 12], [12, 20]), ([21, 12], [12, 21]), ([17, 22, 12], [12, 17, 22]), ([12, 23], [12, 23])])
def thistleref02_Check.B5 : List Nat := [0, 1, 3, 7, 7, 7, 55, 119, 247, 503, 1023, 2047, 4095, 8191, 8191, 32767, 65535, 131071, 8191, 8191, 794623, 1843199, 3940351, 8388607, 16777215]
theorem thistleref02_Check.tab5 : rtab .any (opsOf Tryd.f29 5) = thistleref02_Check.T5 := by kernel_rfl
theorem thistleref02_Check.bits5 : waitsOk thistleref02_Check.T5.2 thistleref02_Check.B5 = true := by kernel_rfl
def thistleref02_Check.T7 : Bool × List (List Nat × List Nat) := (true, [([], []), ([0], [0]), ([1], [1]), ([2], [2]), ([2], [2]), ([3, 4, 2], [2, 3, 4]), ([5, 2], [2, 5]), ([6, 2], [2, 6]), ([7, 2], [2, 7]), ([2], [2]), ([2], [2]), ([10, 2], [2, 10]), ([9, 11, 2], [2, 9, 11]), ([12, 2], [2, 12]), ([13, 2], [2, 13]), ([14, 2], [2, 14]), ([15, 2], [2, 15]), ([8, 16, 2], [2, 8, 16]), ([2, 17], [2, 17])])
def thistleref02_Check.B7 : List Nat := [0, 1, 3, 7, 7, 31, 63, 127, 255, 7, 7, 1031, 3591, 7687, 15879, 32263, 65031, 131071, 262143]
theorem thistleref02_Check.tab7 : rtab .any (opsOf Tryd.f29 7) = thistleref02_Check.T7 := by kernel_rfl
theorem thistleref02_Check.bits7 : waitsOk thistleref02_Check.T7.2 thistleref02_Check.B7 = true := by kernel_rfl
set_option maxHeartbeats 8000000 in
set_option maxRecDepth 100000 in
theorem thistleref02_Check.calls (k : Nat) (A0 : Option Addr) (c0 : Nat) (l0 : List (S30)) (r : Int) (w : World) (hr0 : Kd.C k30 w A0 l0.length l0) (hc0 : l0.length ≤ c0) (h : thistleref02_Check.f k l0 = some r) :
  Calls Tryd.prog 29 #[.slice A0 l0.length c0] w fun e w' => e = .returned (.int .i64 r) ∧ Below w.heap.size w w' := by
 have HR0 := Aside0.mk hr0
 have HC0 := Aside0.mk hc0
 clear hr0 hc0
 have HB := Aside0.mk (Below.refl w.heap.size w)
 have H : (thistleref02_Check.l0 k l0 0) = some r := h
 clear h
 have H' := Aside0.mk H
 clear H
 go_enter Tryd.func29, Tryd.ntmps29
 go_wp2
 go_loopg [3] k (fun kq v3 w' => ∃ (x3_1 : Int), v3 = .int .i64 x3_1 ∧ Aside0 (thistleref02_Check.l0 kq l0 x3_1 = some r) ∧ Aside0 (kq ≤ k) ∧ Aside0 (Below w.heap.size w w'))
 case atStart => exact ⟨(0), XShort.eqs, H', ⟨Nat.le_refl _⟩, ⟨XShort.bel⟩⟩
 case round =>
  clear H'
  obtain ⟨x3_1, rfl, HA, HK1, HB⟩ := hrel
  cases gk with
  | zero => exact absurd HA.out (by simp [thistleref02_Check.l0])
  | succ k1 =>
   have H := HA.out
   clear HA
   simp only [thistleref02_Check.l0] at H
   by_cases c2 : x3_1 < (l0.length : Int)
   ·rw [if_pos c2] at H
    have c2b0 : decide (x3_1 < (l0.length : Int)) = true := decide_eq_true c2
    clear c2
    by_cases c3 : 0 ≤ x3_1
    ·rw [if_pos c3] at H
     have c3b0 : decide (0 ≤ x3_1) = true := decide_eq_true c3
     clear c3
     replace H := Option.bind_eq_some_iff.mp H
     obtain ⟨t257, A40, H⟩ := H
     replace H : (if t257 < 0 then (thistleref02_Check.j1 k1 l0 x3_1 true) else ((thistleref02_block.f k1 ((rd_T30 l0 x3_1).f1)).bind fun t259 => (if t257 = t259 then (thistleref02_Check.j1 k1 l0 x3_1 (decide (((rd_T30 l0 x3_1).f0) > ((rd_T30 l0 x3_1).f1)))) else (thistleref02_Check.j1 k1 l0 x3_1 true)))) = some r := H
     have A4 := Aside0.mk A40
     clear A40
     have HC5 := Aside0.mk H
     clear H
     have p256 : 0 ≤ (x3_1 : Int) := of_decide_eq_true XShort.asm
     have q256 : x3_1 < (l0.length : Int) := of_decide_eq_true XShort.asm
     obtain ⟨ad256, e256, hx256_0, hx256_1⟩ := at_T30 HR0.out x3_1 p256 q256
     cases e256
     replace hx256_0 := (HB.out.cell (World.block_lt_of_cell? w _ hx256_0)).trans hx256_0
     replace hx256_1 := (HB.out.cell (World.block_lt_of_cell? w _ hx256_1)).trans hx256_1
     replace p256 := eq_true p256
     replace q256 := eq_true q256
     go_upto_region 5 with (first | ((with_reducible refine gate_callee (f := 38) rfl ?_); refine goesL_ (some 16) rfl rfl Tryd.func38 (by kernel_rfl) rfl #[.int .i32 ((rd_T30 l0 x3_1).f0)] rfl (by (try simp only [List.map_toArray, List.map_cons, List.map_nil]); first | done | rfl | (simp only [List.length_drop, List.length_take]; rfl)) ?_; (with_reducible refine (thistleref02_block.calls k1 ((rd_T30 l0 x3_1).f0) t257 _ A4.out).mono ?_); rintro e w6 ⟨rfl, hb⟩; refine ⟨_, rfl, ?_⟩; have n0_ := Aside0.mk (below_step XShort.bel hb); clear HB; have HB := n0_; clear n0_; (try clear hb); (try clear hb2); (try clear hk); (try clear hi)))
     (try simp only [Act.put, List.setIfInBounds_toArray, List.set_cons_zero, List.set_cons_succ])
     go_cut [41] (fun v41 wc => ∃ (kq : Nat) (x41_4 : Bool), v41 = .bool x41_4 ∧ Aside0 (thistleref02_Check.j1 kq l0 x3_1 x41_4 = some r) ∧ Aside0 (kq ≤ k1) ∧ Aside0 (Below w.heap.size w wc))
     case first =>
      have H := HC5.out
      clear HC5
      by_cases c7 : t257 < 0
      ·rw [if_pos c7] at H
       have c7b0 : decide (t257 < 0) = true := decide_eq_true c7
       clear c7
       (first | rw [c7b0] | (simp only [i64_w, i32_w]; rw [c7b0]) | skip)
       have H' := Aside0.mk H
       clear H
       try go_wp2
       have n0_ := Aside0.mk (below_drew1 HB.out)
       clear HB
       have HB := n0_
       clear n0_
       refine start_ (n := 25) (S := fun w' => True) (ds := []) #[i,i,i,i,i,i,i,i,i,i,i,i,i,i,i,i,i,i,i,i,i,i,i,i,i] (by kernel_rfl) rfl rfl trivial (fun hHeld => ?_); refine with_tabW thistleref02_Check.tab5 thistleref02_Check.bits5 (fun HT_ HW_ => ?_)
       generalize w6.drew = w8 at HB hHeld ⊢
       refine pure_ (i := 0) (N := some 17) (v := ?_) (a' := ?_) #[o,i,i,i,i,i,i,i,i,i,i,i,i,i,i,i,i,i,i,i,i,i,i,i,i] rfl rfl (any_of HT_.out (by kernel_rfl)) (fun _ _ _ h => h) (Or.inl ⟨by rfl, ?_⟩) ?_ ?_
       rotate_left
       ·intro w'
        go_simp
        with_reducible rfl
       rotate_left
       ·exact XShort.put
       refine pure_ (i := 1) (N := some 18) (v := ?_) (a' := ?_) #[o,o,i,i,i,i,i,i,i,i,i,i,i,i,i,i,i,i,i,i,i,i,i,i,i] rfl rfl (any_of HT_.out (by kernel_rfl)) (fun _ _ _ h => h) (Or.inl ⟨by rfl, ?_⟩) ?_ ?_
       rotate_left
       ·intro w'
        go_simp
        with_reducible rfl
       rotate_left
       ·exact XShort.put
       refine pure_ (i := 2) (N := some 19) (v := ?_) (a' := ?_) #[o,o,o,i,i,i,i,i,i,i,i,i,i,i,i,i,i,i,i,i,i,i,i,i,i] rfl rfl (any_of HT_.out (by kernel_rfl)) (fun _ _ _ h => h) (Or.inl ⟨by rfl, ?_⟩) ?_ ?_
       rotate_left
       ·intro w'
        go_simp
        with_reducible rfl
       rotate_left
       ·exact XShort.put
       refine pure_ (i := 3) (N := some 20) (v := undef) (a' := ?_) #[o,o,o,o,i,i,i,i,i,i,i,i,i,i,i,i,i,i,i,i,i,i,i,i,i] rfl rfl (any_of HT_.out (by kernel_rfl)) (fun _ _ _ h => h) (Or.inr ⟨by rfl, rfl⟩) ?_ ?_
       rotate_left
       ·exact XShort.put
       refine pure_ (i := 4) (N := some 21) (v := undef) (a' := ?_) #[o,o,o,o,o,i,i,i,i,i,i,i,i,i,i,i,i,i,i,i,i,i,i,i,i] rfl rfl (any_of HT_.out (by kernel_rfl)) (fun _ _ _ h => h) (Or.inr ⟨by rfl, rfl⟩) ?_ ?_
       rotate_left
       ·exact XShort.put
       refine pure_ (i := 5) (N := some 22) (v := undef) (a' := ?_) #[o,o,o,o,o,o,i,i,i,i,i,i,i,i,i,i,i,i,i,i,i,i,i,i,i] rfl rfl (any_of HT_.out (by kernel_rfl)) (fun _ _ _ h => h) (Or.inr ⟨by rfl, rfl⟩) ?_ ?_
       rotate_left
       ·exact XShort.put
       refine pure_ (i := 6) (N := some 23) (v := undef) (a' := ?_) #[o,o,o,o,o,o,o,i,i,i,i,i,i,i,i,i,i,i,i,i,i,i,i,i,i] rfl rfl (any_of HT_.out (by kernel_rfl)) (fun _ _ _ h => h) (Or.inr ⟨by rfl, rfl⟩) ?_ ?_
       rotate_left
       ·exact XShort.put
       refine pure_ (i := 7) (N := some 24) (v := undef) (a' := ?_) #[o,o,o,o,o,o,o,o,i,i,i,i,i,i,i,i,i,i,i,i,i,i,i,i,i] rfl rfl (any_of HT_.out (by kernel_rfl)) (fun _ _ _ h => h) (Or.inr ⟨by rfl, rfl⟩) ?_ ?_
       rotate_left
       ·exact XShort.put
       refine pure_ (i := 8) (N := some 25) (v := undef) (a' := ?_) #[o,o,o,o,o,o,o,o,o,i,i,i,i,i,i,i,i,i,i,i,i,i,i,i,i] rfl rfl (any_of HT_.out (by kernel_rfl)) (fun _ _ _ h => h) (Or.inr ⟨by rfl, rfl⟩) ?_ ?_
       rotate_left
       ·exact XShort.put
       refine pure_ (i := 9) (N := some 26) (v := undef) (a' := ?_) #[o,o,o,o,o,o,o,o,o,o,i,i,i,i,i,i,i,i,i,i,i,i,i,i,i] rfl rfl (any_of HT_.out (by kernel_rfl)) (fun _ _ _ h => h) (Or.inr ⟨by rfl, rfl⟩) ?_ ?_
       rotate_left
       ·exact XShort.put
       refine pure_ (i := 10) (N := some 27) (v := undef) (a' := ?_) #[o,o,o,o,o,o,o,o,o,o,o,i,i,i,i,i,i,i,i,i,i,i,i,i,i] rfl rfl (any_of HT_.out (by kernel_rfl)) (fun _ _ _ h => h) (Or.inr ⟨by rfl, rfl⟩) ?_ ?_
       rotate_left
       ·exact XShort.put
       refine pure_ (i := 11) (N := some 28) (v := ?_) (a' := ?_) #[o,o,o,o,o,o,o,o,o,o,o,o,i,i,i,i,i,i,i,i,i,i,i,i,i] rfl rfl (any_of HT_.out (by kernel_rfl)) (fun _ _ _ h => h) (Or.inl ⟨by rfl, ?_⟩) ?_ ?_
       rotate_left
       ·intro w'
        go_simp
        with_reducible rfl
       rotate_left
       ·exact XShort.put
       refine pure_ (i := 12) (N := some 29) (v := ?_) (a' := ?_) #[o,o,o,o,o,o,o,o,o,o,o,o,o,i,i,i,i,i,i,i,i,i,i,i,i] rfl rfl (any_of HT_.out (by kernel_rfl)) (fun _ _ _ h => h) (Or.inl ⟨by rfl, ?_⟩) ?_ ?_
       rotate_left
       ·intro w'
        go_simp
        with_reducible rfl
       rotate_left
       ·exact XShort.put
       refine pure_ (i := 13) (N := some 30) (v := undef) (a' := ?_) #[o,o,o,o,o,o,o,o,o,o,o,o,o,o,i,i,i,i,i,i,i,i,i,i,i] rfl rfl (any_of HT_.out (by kernel_rfl)) (fun _ _ _ h => h) (Or.inr ⟨by rfl, rfl⟩) ?_ ?_
       rotate_left
       ·exact XShort.put
       refine pure_ (i := 14) (N := some 31) (v := undef) (a' := ?_) #[o,o,o,o,o,o,o,o,o,o,o,o,o,o,o,i,i,i,i,i,i,i,i,i,i] rfl rfl (any_of HT_.out (by kernel_rfl)) (fun _ _ _ h => h) (Or.inr ⟨by rfl, rfl⟩) ?_ ?_
       rotate_left
       ·exact XShort.put
       refine pure_ (i := 15) (N := some 32) (v := undef) (a' := ?_) #[o,o,o,o,o,o,o,o,o,o,o,o,o,o,o,o,i,i,i,i,i,i,i,i,i] rfl rfl (any_of HT_.out (by kernel_rfl)) (fun _ _ _ h => h) (Or.inr ⟨by rfl, rfl⟩) ?_ ?_
       rotate_left
       ·exact XShort.put
       refine pure_ (i := 16) (N := some 33) (v := undef) (a' := ?_) #[o,o,o,o,o,o,o,o,o,o,o,o,o,o,o,o,o,i,i,i,i,i,i,i,i] rfl rfl (any_of HT_.out (by kernel_rfl)) (fun _ _ _ h => h) (Or.inr ⟨by rfl, rfl⟩) ?_ ?_
       rotate_left
       ·exact XShort.put
       refine pure_ (i := 17) (N := some 34) (v := undef) (a' := ?_) #[o,o,o,o,o,o,o,o,o,o,o,o,o,o,o,o,o,o,i,i,i,i,i,i,i] rfl rfl (any_of HT_.out (by kernel_rfl)) (fun _ _ _ h => h) (Or.inr ⟨by rfl, rfl⟩) ?_ ?_
       rotate_left
       ·exact XShort.put
       refine pure_ (i := 18) (N := some 35) (v := undef) (a' := ?_) #[o,o,o,o,o,o,o,o,o,o,o,o,o,o,o,o,o,o,o,i,i,i,i,i,i] rfl rfl (any_of HT_.out (by kernel_rfl)) (fun _ _ _ h => h) (Or.inr ⟨by rfl, rfl⟩) ?_ ?_
       rotate_left
       ·exact XShort.put
       refine pure_ (i := 19) (N := some 36) (v := undef) (a' := ?_) #[o,o,o,o,o,o,o,o,o,o,o,o,o,o,o,o,o,o,o,o,i,i,i,i,i] rfl rfl (any_of HT_.out (by kernel_rfl)) (fun _ _ _ h => h) (Or.inr ⟨by rfl, rfl⟩) ?_ ?_
       rotate_left
       ·exact XShort.put
       refine pure_ (i := 20) (N := some 37) (v := undef) (a' := ?_) #[o,o,o,o,o,o,o,o,o,o,o,o,o,o,o,o,o,o,o,o,o,i,i,i,i] rfl rfl (any_of HT_.out (by kernel_rfl)) (fun _ _ _ h => h) (Or.inr ⟨by rfl, rfl⟩) ?_ ?_
       rotate_left
       ·exact XShort.put
       refine pure_ (i := 21) (N := some 38) (v := undef) (a' := ?_) #[o,o,o,o,o,o,o,o,o,o,o,o,o,o,o,o,o,o,o,o,o,o,i,i,i] rfl rfl (any_of HT_.out (by kernel_rfl)) (fun _ _ _ h => h) (Or.inr ⟨by rfl, rfl⟩) ?_ ?_
       rotate_left
       ·exact XShort.put
       refine pure_ (i := 22) (N := some 39) (v := undef) (a' := ?_) #[o,o,o,o,o,o,o,o,o,o,o,o,o,o,o,o,o,o,o,o,o,o,o,i,i] rfl rfl (any_of HT_.out (by kernel_rfl)) (fun _ _ _ h => h) (Or.inr ⟨by rfl, rfl⟩) ?_ ?_
       rotate_left
       ·exact XShort.put
       refine pure_ (i := 23) (N := some 40) (v := undef) (a' := ?_) #[o,o,o,o,o,o,o,o,o,o,o,o,o,o,o,o,o,o,o,o,o,o,o,o,i] rfl rfl (any_of HT_.out (by kernel_rfl)) (fun _ _ _ h => h) (Or.inr ⟨by rfl, rfl⟩) ?_ ?_
       rotate_left
       ·exact XShort.put
       refine pure_ (i := 24) (N := some 41) (v := ?_) (a' := ?_) #[o,o,o,o,o,o,o,o,o,o,o,o,o,o,o,o,o,o,o,o,o,o,o,o,o] rfl rfl (any_of HT_.out (by kernel_rfl)) (fun _ _ _ h => h) (Or.inl ⟨by rfl, ?_⟩) ?_ ?_
       rotate_left
       ·intro w'
        go_simp
        with_reducible rfl
       rotate_left
       ·exact XShort.put
       refine done_ (done_of HT_.out (by kernel_rfl)) ?_
       try go_wp2
       go_meet
       case rel => exact ⟨_, (true), XShort.eqs, H', ⟨by have := HK1.out; first | omega | exact Nat.le_refl _⟩, ⟨XShort.bel⟩⟩
      ·rw [if_neg c7] at H
       have c7b0 : decide (t257 < 0) = false := decide_eq_false c7
       clear c7
       (first | rw [c7b0] | (simp only [i64_w, i32_w]; rw [c7b0]) | skip)
       replace H := Option.bind_eq_some_iff.mp H
       obtain ⟨t259, A90, H⟩ := H
       replace H : (if t257 = t259 then (thistleref02_Check.j1 k1 l0 x3_1 (decide (((rd_T30 l0 x3_1).f0) > ((rd_T30 l0 x3_1).f1)))) else (thistleref02_Check.j1 k1 l0 x3_1 true)) = some r := H
       have A9 := Aside0.mk A90
       clear A90
       by_cases c10 : t257 = t259
       ·rw [if_pos c10] at H
        have c10b0 : (t257 == t259) = true := beq_iff_eq.mpr c10
        have c10b1 : (t257 != t259) = false := bne_eq_false_iff_eq.mpr c10
        clear c10
        have H' := Aside0.mk H
        clear H
        try go_wp2
        have n0_ := Aside0.mk (below_drew1 HB.out)
        clear HB
        have HB := n0_
        clear n0_
        have p258 : 0 ≤ (x3_1 : Int) := of_decide_eq_true XShort.asm
        have q258 : x3_1 < (l0.length : Int) := of_decide_eq_true XShort.asm
        obtain ⟨ad258, e258, hx258_0, hx258_1⟩ := at_T30 HR0.out x3_1 p258 q258
        have hw258_1 := hx258_1
        have hw258_0 := hx258_0
        obtain rfl : ad256 = ad258 := (by injection e258)
        replace hx258_0 := (HB.out.cell (World.block_lt_of_cell? w _ hx258_0)).trans hx258_0
        replace hx258_1 := (HB.out.cell (World.block_lt_of_cell? w _ hx258_1)).trans hx258_1
        replace p258 := eq_true p258
        replace q258 := eq_true q258
        have p260 : 0 ≤ (x3_1 : Int) := of_decide_eq_true XShort.asm
        have q260 : x3_1 < (l0.length : Int) := of_decide_eq_true XShort.asm
        obtain ⟨ad260, e260, hx260_0, hx260_1⟩ := at_T30 HR0.out x3_1 p260 q260
        have hw260_1 := hx260_1
        have hw260_0 := hx260_0
        obtain rfl : ad256 = ad260 := (by injection e260)
        replace hx260_0 := (HB.out.cell (World.block_lt_of_cell? w _ hx260_0)).trans hx260_0
        replace hx260_1 := (HB.out.cell (World.block_lt_of_cell? w _ hx260_1)).trans hx260_1
        replace p260 := eq_true p260
        replace q260 := eq_true q260
        have p261 : 0 ≤ (x3_1 : Int) := of_decide_eq_true XShort.asm
        have q261 : x3_1 < (l0.length : Int) := of_decide_eq_true XShort.asm
        obtain ⟨ad261, e261, hx261_0, hx261_1⟩ := at_T30 HR0.out x3_1 p261 q261
        have hw261_1 := hx261_1
        have hw261_0 := hx261_0
        obtain rfl : ad256 = ad261 := (by injection e261)
        replace hx261_0 := (HB.out.cell (World.block_lt_of_cell? w _ hx261_0)).trans hx261_0
        replace hx261_1 := (HB.out.cell (World.block_lt_of_cell? w _ hx261_1)).trans hx261_1
        replace p261 := eq_true p261
        replace q261 := eq_true q261
        refine start_ (n := 25) (S := fun w' => w'.cell? (ad256.add ((x3_1).toNat * 2)) = some (.int .i32 ((rd_T30 l0 x3_1).f0)) ∧ w'.cell? ⟨(ad256.add ((x3_1).toNat * 2)).block, (ad256.add ((x3_1).toNat * 2)).off + 1, none⟩ = some (.int .i32 ((rd_T30 l0 x3_1).f1)) ∧ w'.cell? (ad256.add ((x3_1).toNat * 2)) = some (.int .i32 ((rd_T30 l0 x3_1).f0)) ∧ w'.cell? ⟨(ad256.add ((x3_1).toNat * 2)).block, (ad256.add ((x3_1).toNat * 2)).off + 1, none⟩ = some (.int .i32 ((rd_T30 l0 x3_1).f1)) ∧ w'.cell? (ad256.add ((x3_1).toNat * 2)) = some (.int .i32 ((rd_T30 l0 x3_1).f0)) ∧ w'.cell? ⟨(ad256.add ((x3_1).toNat * 2)).block, (ad256.add ((x3_1).toNat * 2)).off + 1, none⟩ = some (.int .i32 ((rd_T30 l0 x3_1).f1))) (ds := []) #[i,i,i,i,i,i,i,i,i,i,i,i,i,i,i,i,i,i,i,i,i,i,i,i,i] (by kernel_rfl) rfl rfl ⟨((HB.out.cell (World.block_lt_of_cell? w _ hw258_0)).trans hw258_0), ((HB.out.cell (World.block_lt_of_cell? w _ hw258_1)).trans hw258_1), ((HB.out.cell (World.block_lt_of_cell? w _ hw260_0)).trans hw260_0), ((HB.out.cell (World.block_lt_of_cell? w _ hw260_1)).trans hw260_1), ((HB.out.cell (World.block_lt_of_cell? w _ hw261_0)).trans hw261_0), ((HB.out.cell (World.block_lt_of_cell? w _ hw261_1)).trans hw261_1)⟩ (fun hHeld => ?_); refine with_tabW thistleref02_Check.tab5 thistleref02_Check.bits5 (fun HT_ HW_ => ?_)
        generalize w6.drew = w11 at HB hx258_0 hx258_1 hx260_0 hx260_1 hx261_0 hx261_1 hHeld ⊢
        refine pure_ (i := 0) (N := some 17) (v := ?_) (a' := ?_) #[o,i,i,i,i,i,i,i,i,i,i,i,i,i,i,i,i,i,i,i,i,i,i,i,i] rfl rfl (any_of HT_.out (by kernel_rfl)) (fun _ _ _ h => h) (Or.inl ⟨by rfl, ?_⟩) ?_ ?_
        rotate_left
        ·intro w'
         go_simp
         with_reducible rfl
        rotate_left
        ·exact XShort.put
        refine pure_ (i := 1) (N := some 18) (v := ?_) (a' := ?_) #[o,o,i,i,i,i,i,i,i,i,i,i,i,i,i,i,i,i,i,i,i,i,i,i,i] rfl rfl (any_of HT_.out (by kernel_rfl)) (fun _ _ _ h => h) (Or.inl ⟨by rfl, ?_⟩) ?_ ?_
        rotate_left
        ·intro w'
         go_simp
         with_reducible rfl
        rotate_left
        ·exact XShort.put
        refine pure_ (i := 2) (N := some 19) (v := ?_) (a' := ?_) #[o,o,o,i,i,i,i,i,i,i,i,i,i,i,i,i,i,i,i,i,i,i,i,i,i] rfl rfl (any_of HT_.out (by kernel_rfl)) (fun _ _ _ h => h) (Or.inl ⟨by rfl, ?_⟩) ?_ ?_
        rotate_left
        ·intro w'
         go_simp
         with_reducible rfl
        rotate_left
        ·exact XShort.put
        refine pure_ (i := 3) (N := some 20) (v := ?_) (a' := ?_) #[o,o,o,o,i,i,i,i,i,i,i,i,i,i,i,i,i,i,i,i,i,i,i,i,i] rfl rfl (any_of HT_.out (by kernel_rfl)) (fun _ _ _ h => h) (Or.inl ⟨by rfl, ?_⟩) ?_ ?_
        rotate_left
        ·intro w'
         go_simp
         with_reducible rfl
        rotate_left
        ·exact XShort.put
        refine pure_ (i := 4) (N := some 21) (v := ?_) (a' := ?_) #[o,o,o,o,o,i,i,i,i,i,i,i,i,i,i,i,i,i,i,i,i,i,i,i,i] rfl rfl (any_of HT_.out (by kernel_rfl)) (fun _ _ _ h => h) (Or.inl ⟨by rfl, ?_⟩) ?_ ?_
        rotate_left
        ·intro w'
         go_simp
         with_reducible rfl
        rotate_left
        ·exact XShort.put
        refine pure_ (i := 5) (N := some 22) (v := ?_) (a' := ?_) #[o,o,o,o,o,o,i,i,i,i,i,i,i,i,i,i,i,i,i,i,i,i,i,i,i] rfl rfl (any_of HT_.out (by kernel_rfl)) (fun _ _ _ h => h) (Or.inl ⟨by rfl, ?_⟩) ?_ ?_
        rotate_left
        ·intro w'
         go_simp
         with_reducible rfl
        rotate_left
        ·exact XShort.put
        refine pure_ (i := 6) (N := some 23) (v := ?_) (a' := ?_) #[o,o,o,o,o,o,o,i,i,i,i,i,i,i,i,i,i,i,i,i,i,i,i,i,i] rfl rfl (any_of HT_.out (by kernel_rfl)) (fun _ _ _ h => h) (Or.inl ⟨by rfl, ?_⟩) ?_ ?_
        rotate_left
        ·intro w'
         go_simp
         with_reducible rfl
        rotate_left
        ·exact XShort.put
        refine pure_ (i := 7) (N := some 24) (v := ?_) (a' := ?_) #[o,o,o,o,o,o,o,o,i,i,i,i,i,i,i,i,i,i,i,i,i,i,i,i,i] rfl rfl (any_of HT_.out (by kernel_rfl)) (fun _ _ _ h => h) (Or.inl ⟨by rfl, ?_⟩) ?_ ?_
        rotate_left
        ·intro w'
         go_simp
         with_reducible rfl
        rotate_left
        ·exact XShort.put
        refine take_ (i := 8) (N := some 25) (v := ?_) (a' := ?_) #[o,o,o,o,o,o,o,o,o,i,i,i,i,i,i,i,i,i,i,i,i,i,i,i,i] rfl rfl (take_ofW HT_.out HW_.out (by kernel_rfl)) (fun _ _ _ h => h) (Or.inl ⟨by rfl, ?_⟩) hHeld ?_ ?_
        rotate_left
        ·rintro w' ⟨s0, s1, s2, s3, s4, s5⟩
         go_simp
         with_reducible rfl
        rotate_left
        ·exact XShort.put
        refine one_ (i := 9) (N := some 26) #[o,o,o,o,o,o,o,o,o,o,i,i,i,i,i,i,i,i,i,i,i,i,i,i,i] rfl rfl (one_of HT_.out (by kernel_rfl)) (by decide) (fun K hK => ?_)
        refine goes_ Tryd.func38 (by kernel_rfl) rfl #[.int .i32 ((rd_T30 l0 x3_1).f1)] (by rfl) rfl rfl (by (try simp only [List.map_toArray, List.map_cons, List.map_nil]); first | done | rfl | (simp only [List.length_drop, List.length_take]; rfl)) ?_
        with_reducible refine (thistleref02_block.calls k1 ((rd_T30 l0 x3_1).f1) t259 _ A9.out).mono ?_
        rintro e w12 ⟨rfl, hb⟩
        refine ⟨_, rfl, ?_⟩
        have n0_ := Aside0.mk (below_step XShort.bel hb)
        clear HB
        have HB := n0_
        clear n0_
        (try clear hb)
        (try clear hb2)
        (try clear hk)
        (try clear hi)
        refine hK.out _ _ ⟨((HB.out.cell (World.block_lt_of_cell? w _ hw258_0)).trans hw258_0), ((HB.out.cell (World.block_lt_of_cell? w _ hw258_1)).trans hw258_1), ((HB.out.cell (World.block_lt_of_cell? w _ hw260_0)).trans hw260_0), ((HB.out.cell (World.block_lt_of_cell? w _ hw260_1)).trans hw260_1), ((HB.out.cell (World.block_lt_of_cell? w _ hw261_0)).trans hw261_0), ((HB.out.cell (World.block_lt_of_cell? w _ hw261_1)).trans hw261_1)⟩ (fun hHeld => ?_)
        clear hK K
        refine norm_ (a' := ?_) ?_ ?_
        rotate_left
        ·show Act.put _ (some 26) _ = _
         simp only [Act.put, List.setIfInBounds_toArray, List.set_cons_zero, List.set_cons_succ, i64_w, i32_w]
         rfl
        refine pure_ (i := 10) (N := some 27) (v := ?_) (a' := ?_) #[o,o,o,o,o,o,o,o,o,o,o,i,i,i,i,i,i,i,i,i,i,i,i,i,i] rfl rfl (any_of HT_.out (by kernel_rfl)) (fun _ _ _ h => h) (Or.inl ⟨by rfl, ?_⟩) ?_ ?_
        rotate_left
        ·intro w'
         go_simp
         with_reducible rfl
        rotate_left
        ·exact XShort.put
        refine pure_ (i := 11) (N := some 28) (v := ?_) (a' := ?_) #[o,o,o,o,o,o,o,o,o,o,o,o,i,i,i,i,i,i,i,i,i,i,i,i,i] rfl rfl (any_of HT_.out (by kernel_rfl)) (fun _ _ _ h => h) (Or.inl ⟨by rfl, ?_⟩) ?_ ?_
        rotate_left
        ·intro w'
         go_simp
         with_reducible rfl
        rotate_left
        ·exact XShort.put
        refine pure_ (i := 12) (N := some 29) (v := ?_) (a' := ?_) #[o,o,o,o,o,o,o,o,o,o,o,o,o,i,i,i,i,i,i,i,i,i,i,i,i] rfl rfl (any_of HT_.out (by kernel_rfl)) (fun _ _ _ h => h) (Or.inl ⟨by rfl, ?_⟩) ?_ ?_
        rotate_left
        ·intro w'
         go_simp
         with_reducible rfl
        rotate_left
        ·exact XShort.put
        refine pure_ (i := 13) (N := some 30) (v := ?_) (a' := ?_) #[o,o,o,o,o,o,o,o,o,o,o,o,o,o,i,i,i,i,i,i,i,i,i,i,i] rfl rfl (any_of HT_.out (by kernel_rfl)) (fun _ _ _ h => h) (Or.inl ⟨by rfl, ?_⟩) ?_ ?_
        rotate_left
        ·intro w'
         go_simp
         with_reducible rfl
        rotate_left
        ·exact XShort.put
        refine pure_ (i := 14) (N := some 31) (v := ?_) (a' := ?_) #[o,o,o,o,o,o,o,o,o,o,o,o,o,o,o,i,i,i,i,i,i,i,i,i,i] rfl rfl (any_of HT_.out (by kernel_rfl)) (fun _ _ _ h => h) (Or.inl ⟨by rfl, ?_⟩) ?_ ?_
        rotate_left
        ·intro w'
         go_simp
         with_reducible rfl
        rotate_left
        ·exact XShort.put
        refine pure_ (i := 15) (N := some 32) (v := ?_) (a' := ?_) #[o,o,o,o,o,o,o,o,o,o,o,o,o,o,o,o,i,i,i,i,i,i,i,i,i] rfl rfl (any_of HT_.out (by kernel_rfl)) (fun _ _ _ h => h) (Or.inl ⟨by rfl, ?_⟩) ?_ ?_
        rotate_left
        ·intro w'
         go_simp
         with_reducible rfl
        rotate_left
        ·exact XShort.put
        refine pure_ (i := 16) (N := some 33) (v := ?_) (a' := ?_) #[o,o,o,o,o,o,o,o,o,o,o,o,o,o,o,o,o,i,i,i,i,i,i,i,i] rfl rfl (any_of HT_.out (by kernel_rfl)) (fun _ _ _ h => h) (Or.inl ⟨by rfl, ?_⟩) ?_ ?_
        rotate_left
        ·intro w'
         go_simp
         with_reducible rfl
        rotate_left
        ·exact XShort.put
        refine pure_ (i := 18) (N := some 35) (v := ?_) (a' := ?_) #[o,o,o,o,o,o,o,o,o,o,o,o,o,o,o,o,o,i,o,i,i,i,i,i,i] rfl rfl (any_of HT_.out (by kernel_rfl)) (fun _ _ _ h => h) (Or.inl ⟨by rfl, ?_⟩) ?_ ?_
        rotate_left
        ·intro w'
         go_simp
         with_reducible rfl
        rotate_left
        ·exact XShort.put
        refine pure_ (i := 19) (N := some 36) (v := ?_) (a' := ?_) #[o,o,o,o,o,o,o,o,o,o,o,o,o,o,o,o,o,i,o,o,i,i,i,i,i] rfl rfl (any_of HT_.out (by kernel_rfl)) (fun _ _ _ h => h) (Or.inl ⟨by rfl, ?_⟩) ?_ ?_
        rotate_left
        ·intro w'
         go_simp
         with_reducible rfl
        rotate_left
        ·exact XShort.put
        refine pure_ (i := 20) (N := some 37) (v := ?_) (a' := ?_) #[o,o,o,o,o,o,o,o,o,o,o,o,o,o,o,o,o,i,o,o,o,i,i,i,i] rfl rfl (any_of HT_.out (by kernel_rfl)) (fun _ _ _ h => h) (Or.inl ⟨by rfl, ?_⟩) ?_ ?_
        rotate_left
        ·intro w'
         go_simp
         with_reducible rfl
        rotate_left
        ·exact XShort.put
        refine pure_ (i := 21) (N := some 38) (v := ?_) (a' := ?_) #[o,o,o,o,o,o,o,o,o,o,o,o,o,o,o,o,o,i,o,o,o,o,i,i,i] rfl rfl (any_of HT_.out (by kernel_rfl)) (fun _ _ _ h => h) (Or.inl ⟨by rfl, ?_⟩) ?_ ?_
        rotate_left
        ·intro w'
         go_simp
         with_reducible rfl
        rotate_left
        ·exact XShort.put
        refine take_ (i := 17) (N := some 34) (v := ?_) (a' := ?_) #[o,o,o,o,o,o,o,o,o,o,o,o,o,o,o,o,o,o,o,o,o,o,i,i,i] rfl rfl (take_ofW HT_.out HW_.out (by kernel_rfl)) (fun _ _ _ h => h) (Or.inl ⟨by rfl, ?_⟩) hHeld ?_ ?_
        rotate_left
        ·rintro w' ⟨s0, s1, s2, s3, s4, s5⟩
         go_simp
         with_reducible rfl
        rotate_left
        ·exact XShort.put
        refine take_ (i := 22) (N := some 39) (v := ?_) (a' := ?_) #[o,o,o,o,o,o,o,o,o,o,o,o,o,o,o,o,o,o,o,o,o,o,o,i,i] rfl rfl (take_ofW HT_.out HW_.out (by kernel_rfl)) (fun _ _ _ h => h) (Or.inl ⟨by rfl, ?_⟩) hHeld ?_ ?_
        rotate_left
        ·rintro w' ⟨s0, s1, s2, s3, s4, s5⟩
         go_simp
         with_reducible rfl
        rotate_left
        ·exact XShort.put
        refine pure_ (i := 23) (N := some 40) (v := ?_) (a' := ?_) #[o,o,o,o,o,o,o,o,o,o,o,o,o,o,o,o,o,o,o,o,o,o,o,o,i] rfl rfl (any_of HT_.out (by kernel_rfl)) (fun _ _ _ h => h) (Or.inl ⟨by rfl, ?_⟩) ?_ ?_
        rotate_left
        ·intro w'
         go_simp
         with_reducible rfl
        rotate_left
        ·exact XShort.put
        refine pure_ (i := 24) (N := some 41) (v := ?_) (a' := ?_) #[o,o,o,o,o,o,o,o,o,o,o,o,o,o,o,o,o,o,o,o,o,o,o,o,o] rfl rfl (any_of HT_.out (by kernel_rfl)) (fun _ _ _ h => h) (Or.inl ⟨by rfl, ?_⟩) ?_ ?_
        rotate_left
        ·intro w'
         go_simp
         with_reducible rfl
        rotate_left
        ·exact XShort.put
        refine done_ (done_of HT_.out (by kernel_rfl)) ?_
        try go_wp2
        go_meet
        case rel => exact ⟨_, (decide (((rd_T30 l0 x3_1).f0) > ((rd_T30 l0 x3_1).f1))), XShort.eqs, H', ⟨by have := HK1.out; first | omega | exact Nat.le_refl _⟩, ⟨XShort.bel⟩⟩
       ·rw [if_neg c10] at H
        have c10b0 : (t257 == t259) = false := beq_eq_false_iff_ne.mpr c10
        have c10b1 : (t257 != t259) = true := bne_iff_ne.mpr c10
        have H' := Aside0.mk H
        clear H
        try go_wp2
        have n0_ := Aside0.mk (below_drew1 HB.out)
        clear HB
        have HB := n0_
        clear n0_
        have p258 : 0 ≤ (x3_1 : Int) := of_decide_eq_true XShort.asm
        have q258 : x3_1 < (l0.length : Int) := of_decide_eq_true XShort.asm
        obtain ⟨ad258, e258, hx258_0, hx258_1⟩ := at_T30 HR0.out x3_1 p258 q258
        have hw258_1 := hx258_1
        have hw258_0 := hx258_0
        obtain rfl : ad256 = ad258 := (by injection e258)
        replace hx258_0 := (HB.out.cell (World.block_lt_of_cell? w _ hx258_0)).trans hx258_0
        replace hx258_1 := (HB.out.cell (World.block_lt_of_cell? w _ hx258_1)).trans hx258_1
        replace p258 := eq_true p258
        replace q258 := eq_true q258
        refine start_ (n := 25) (S := fun w' => w'.cell? (ad256.add ((x3_1).toNat * 2)) = some (.int .i32 ((rd_T30 l0 x3_1).f0)) ∧ w'.cell? ⟨(ad256.add ((x3_1).toNat * 2)).block, (ad256.add ((x3_1).toNat * 2)).off + 1, none⟩ = some (.int .i32 ((rd_T30 l0 x3_1).f1))) (ds := []) #[i,i,i,i,i,i,i,i,i,i,i,i,i,i,i,i,i,i,i,i,i,i,i,i,i] (by kernel_rfl) rfl rfl ⟨((HB.out.cell (World.block_lt_of_cell? w _ hw258_0)).trans hw258_0), ((HB.out.cell (World.block_lt_of_cell? w _ hw258_1)).trans hw258_1)⟩ (fun hHeld => ?_); refine with_tabW thistleref02_Check.tab5 thistleref02_Check.bits5 (fun HT_ HW_ => ?_)
        generalize w6.drew = w13 at HB hx258_0 hx258_1 hHeld ⊢
        refine pure_ (i := 0) (N := some 17) (v := ?_) (a' := ?_) #[o,i,i,i,i,i,i,i,i,i,i,i,i,i,i,i,i,i,i,i,i,i,i,i,i] rfl rfl (any_of HT_.out (by kernel_rfl)) (fun _ _ _ h => h) (Or.inl ⟨by rfl, ?_⟩) ?_ ?_
        rotate_left
        ·intro w'
         go_simp
         with_reducible rfl
        rotate_left
        ·exact XShort.put
        refine pure_ (i := 1) (N := some 18) (v := ?_) (a' := ?_) #[o,o,i,i,i,i,i,i,i,i,i,i,i,i,i,i,i,i,i,i,i,i,i,i,i] rfl rfl (any_of HT_.out (by kernel_rfl)) (fun _ _ _ h => h) (Or.inl ⟨by rfl, ?_⟩) ?_ ?_
        rotate_left
        ·intro w'
         go_simp
         with_reducible rfl
        rotate_left
        ·exact XShort.put
        refine pure_ (i := 2) (N := some 19) (v := ?_) (a' := ?_) #[o,o,o,i,i,i,i,i,i,i,i,i,i,i,i,i,i,i,i,i,i,i,i,i,i] rfl rfl (any_of HT_.out (by kernel_rfl)) (fun _ _ _ h => h) (Or.inl ⟨by rfl, ?_⟩) ?_ ?_
        rotate_left
        ·intro w'
         go_simp
         with_reducible rfl
        rotate_left
        ·exact XShort.put
        refine pure_ (i := 3) (N := some 20) (v := ?_) (a' := ?_) #[o,o,o,o,i,i,i,i,i,i,i,i,i,i,i,i,i,i,i,i,i,i,i,i,i] rfl rfl (any_of HT_.out (by kernel_rfl)) (fun _ _ _ h => h) (Or.inl ⟨by rfl, ?_⟩) ?_ ?_
        rotate_left
        ·intro w'
         go_simp
         with_reducible rfl
        rotate_left
        ·exact XShort.put
        refine pure_ (i := 4) (N := some 21) (v := ?_) (a' := ?_) #[o,o,o,o,o,i,i,i,i,i,i,i,i,i,i,i,i,i,i,i,i,i,i,i,i] rfl rfl (any_of HT_.out (by kernel_rfl)) (fun _ _ _ h => h) (Or.inl ⟨by rfl, ?_⟩) ?_ ?_
        rotate_left
        ·intro w'
         go_simp
         with_reducible rfl
        rotate_left
        ·exact XShort.put
        refine pure_ (i := 5) (N := some 22) (v := ?_) (a' := ?_) #[o,o,o,o,o,o,i,i,i,i,i,i,i,i,i,i,i,i,i,i,i,i,i,i,i] rfl rfl (any_of HT_.out (by kernel_rfl)) (fun _ _ _ h => h) (Or.inl ⟨by rfl, ?_⟩) ?_ ?_
        rotate_left
        ·intro w'
         go_simp
         with_reducible rfl
        rotate_left
        ·exact XShort.put
        refine pure_ (i := 6) (N := some 23) (v := ?_) (a' := ?_) #[o,o,o,o,o,o,o,i,i,i,i,i,i,i,i,i,i,i,i,i,i,i,i,i,i] rfl rfl (any_of HT_.out (by kernel_rfl)) (fun _ _ _ h => h) (Or.inl ⟨by rfl, ?_⟩) ?_ ?_
        rotate_left
        ·intro w'
         go_simp
         with_reducible rfl
        rotate_left
        ·exact XShort.put
        refine pure_ (i := 7) (N := some 24) (v := ?_) (a' := ?_) #[o,o,o,o,o,o,o,o,i,i,i,i,i,i,i,i,i,i,i,i,i,i,i,i,i] rfl rfl (any_of HT_.out (by kernel_rfl)) (fun _ _ _ h => h) (Or.inl ⟨by rfl, ?_⟩) ?_ ?_
        rotate_left
        ·intro w'
         go_simp
         with_reducible rfl
        rotate_left
        ·exact XShort.put
        refine take_ (i := 8) (N := some 25) (v := ?_) (a' := ?_) #[o,o,o,o,o,o,o,o,o,i,i,i,i,i,i,i,i,i,i,i,i,i,i,i,i] rfl rfl (take_ofW HT_.out HW_.out (by kernel_rfl)) (fun _ _ _ h => h) (Or.inl ⟨by rfl, ?_⟩) hHeld ?_ ?_
        rotate_left
        ·rintro w' ⟨s0, s1⟩
         go_simp
         with_reducible rfl
        rotate_left
        ·exact XShort.put
        refine one_ (i := 9) (N := some 26) #[o,o,o,o,o,o,o,o,o,o,i,i,i,i,i,i,i,i,i,i,i,i,i,i,i] rfl rfl (one_of HT_.out (by kernel_rfl)) (by decide) (fun K hK => ?_)
        refine goes_ Tryd.func38 (by kernel_rfl) rfl #[.int .i32 ((rd_T30 l0 x3_1).f1)] (by rfl) rfl rfl (by (try simp only [List.map_toArray, List.map_cons, List.map_nil]); first | done | rfl | (simp only [List.length_drop, List.length_take]; rfl)) ?_
        with_reducible refine (thistleref02_block.calls k1 ((rd_T30 l0 x3_1).f1) t259 _ A9.out).mono ?_
        rintro e w14 ⟨rfl, hb⟩
        refine ⟨_, rfl, ?_⟩
        have n0_ := Aside0.mk (below_step XShort.bel hb)
        clear HB
        have HB := n0_
        clear n0_
        (try clear hb)
        (try clear hb2)
        (try clear hk)
        (try clear hi)
        refine hK.out _ _ ⟨((HB.out.cell (World.block_lt_of_cell? w _ hw258_0)).trans hw258_0), ((HB.out.cell (World.block_lt_of_cell? w _ hw258_1)).trans hw258_1)⟩ (fun hHeld => ?_)
        clear hK K
        refine norm_ (a' := ?_) ?_ ?_
        rotate_left
        ·show Act.put _ (some 26) _ = _
         simp only [Act.put, List.setIfInBounds_toArray, List.set_cons_zero, List.set_cons_succ, i64_w, i32_w]
         rfl
        refine pure_ (i := 10) (N := some 27) (v := ?_) (a' := ?_) #[o,o,o,o,o,o,o,o,o,o,o,i,i,i,i,i,i,i,i,i,i,i,i,i,i] rfl rfl (any_of HT_.out (by kernel_rfl)) (fun _ _ _ h => h) (Or.inl ⟨by rfl, ?_⟩) ?_ ?_
        rotate_left
        ·intro w'
         go_simp
         with_reducible rfl
        rotate_left
        ·exact XShort.put
        refine pure_ (i := 11) (N := some 28) (v := ?_) (a' := ?_) #[o,o,o,o,o,o,o,o,o,o,o,o,i,i,i,i,i,i,i,i,i,i,i,i,i] rfl rfl (any_of HT_.out (by kernel_rfl)) (fun _ _ _ h => h) (Or.inl ⟨by rfl, ?_⟩) ?_ ?_
        rotate_left
        ·intro w'
         go_simp
         with_reducible rfl
        rotate_left
        ·exact XShort.put
        refine pure_ (i := 12) (N := some 29) (v := ?_) (a' := ?_) #[o,o,o,o,o,o,o,o,o,o,o,o,o,i,i,i,i,i,i,i,i,i,i,i,i] rfl rfl (any_of HT_.out (by kernel_rfl)) (fun _ _ _ h => h) (Or.inl ⟨by rfl, ?_⟩) ?_ ?_
        rotate_left
        ·intro w'
         go_simp
         with_reducible rfl
        rotate_left
        ·exact XShort.put
        refine pure_ (i := 13) (N := some 30) (v := undef) (a' := ?_) #[o,o,o,o,o,o,o,o,o,o,o,o,o,o,i,i,i,i,i,i,i,i,i,i,i] rfl rfl (any_of HT_.out (by kernel_rfl)) (fun _ _ _ h => h) (Or.inr ⟨by rfl, rfl⟩) ?_ ?_
        rotate_left
        ·exact XShort.put
        refine pure_ (i := 14) (N := some 31) (v := undef) (a' := ?_) #[o,o,o,o,o,o,o,o,o,o,o,o,o,o,o,i,i,i,i,i,i,i,i,i,i] rfl rfl (any_of HT_.out (by kernel_rfl)) (fun _ _ _ h => h) (Or.inr ⟨by rfl, rfl⟩) ?_ ?_
        rotate_left
        ·exact XShort.put
        refine pure_ (i := 15) (N := some 32) (v := undef) (a' := ?_) #[o,o,o,o,o,o,o,o,o,o,o,o,o,o,o,o,i,i,i,i,i,i,i,i,i] rfl rfl (any_of HT_.out (by kernel_rfl)) (fun _ _ _ h => h) (Or.inr ⟨by rfl, rfl⟩) ?_ ?_
        rotate_left
        ·exact XShort.put
        refine pure_ (i := 16) (N := some 33) (v := undef) (a' := ?_) #[o,o,o,o,o,o,o,o,o,o,o,o,o,o,o,o,o,i,i,i,i,i,i,i,i] rfl rfl (any_of HT_.out (by kernel_rfl)) (fun _ _ _ h => h) (Or.inr ⟨by rfl, rfl⟩) ?_ ?_
        rotate_left
        ·exact XShort.put
        refine pure_ (i := 17) (N := some 34) (v := undef) (a' := ?_) #[o,o,o,o,o,o,o,o,o,o,o,o,o,o,o,o,o,o,i,i,i,i,i,i,i] rfl rfl (any_of HT_.out (by kernel_rfl)) (fun _ _ _ h => h) (Or.inr ⟨by rfl, rfl⟩) ?_ ?_
        rotate_left
        ·exact XShort.put
        refine pure_ (i := 18) (N := some 35) (v := undef) (a' := ?_) #[o,o,o,o,o,o,o,o,o,o,o,o,o,o,o,o,o,o,o,i,i,i,i,i,i] rfl rfl (any_of HT_.out (by kernel_rfl)) (fun _ _ _ h => h) (Or.inr ⟨by rfl, rfl⟩) ?_ ?_
        rotate_left
        ·exact XShort.put
        refine pure_ (i := 19) (N := some 36) (v := undef) (a' := ?_) #[o,o,o,o,o,o,o,o,o,o,o,o,o,o,o,o,o,o,o,o,i,i,i,i,i] rfl rfl (any_of HT_.out (by kernel_rfl)) (fun _ _ _ h => h) (Or.inr ⟨by rfl, rfl⟩) ?_ ?_
        rotate_left
        ·exact XShort.put
        refine pure_ (i := 20) (N := some 37) (v := undef) (a' := ?_) #[o,o,o,o,o,o,o,o,o,o,o,o,o,o,o,o,o,o,o,o,o,i,i,i,i] rfl rfl (any_of HT_.out (by kernel_rfl)) (fun _ _ _ h => h) (Or.inr ⟨by rfl, rfl⟩) ?_ ?_
        rotate_left
        ·exact XShort.put
        refine pure_ (i := 21) (N := some 38) (v := undef) (a' := ?_) #[o,o,o,o,o,o,o,o,o,o,o,o,o,o,o,o,o,o,o,o,o,o,i,i,i] rfl rfl (any_of HT_.out (by kernel_rfl)) (fun _ _ _ h => h) (Or.inr ⟨by rfl, rfl⟩) ?_ ?_
        rotate_left
        ·exact XShort.put
        refine pure_ (i := 22) (N := some 39) (v := undef) (a' := ?_) #[o,o,o,o,o,o,o,o,o,o,o,o,o,o,o,o,o,o,o,o,o,o,o,i,i] rfl rfl (any_of HT_.out (by kernel_rfl)) (fun _ _ _ h => h) (Or.inr ⟨by rfl, rfl⟩) ?_ ?_
        rotate_left
        ·exact XShort.put
        refine pure_ (i := 23) (N := some 40) (v := undef) (a' := ?_) #[o,o,o,o,o,o,o,o,o,o,o,o,o,o,o,o,o,o,o,o,o,o,o,o,i] rfl rfl (any_of HT_.out (by kernel_rfl)) (fun _ _ _ h => h) (Or.inr ⟨by rfl, rfl⟩) ?_ ?_
        rotate_left
        ·exact XShort.put
        refine pure_ (i := 24) (N := some 41) (v := ?_) (a' := ?_) #[o,o,o,o,o,o,o,o,o,o,o,o,o,o,o,o,o,o,o,o,o,o,o,o,o] rfl rfl (any_of HT_.out (by kernel_rfl)) (fun _ _ _ h => h) (Or.inl ⟨by rfl, ?_⟩) ?_ ?_
        rotate_left
        ·intro w'
         go_simp
         with_reducible rfl
        rotate_left
        ·exact XShort.put
        refine done_ (done_of HT_.out (by kernel_rfl)) ?_
        try go_wp2
        go_meet
        case rel => exact ⟨_, (true), XShort.eqs, H', ⟨by have := HK1.out; first | omega | exact Nat.le_refl _⟩, ⟨XShort.bel⟩⟩
     case rest =>
      clear HC5
      try clear c1
      try clear p2
      try clear q2
      try clear hx2
      try clear c3
      try clear c7
      try clear c7b0
      try clear c10
      try clear c10b0
      try clear c10b1
      try clear hx258_0
      try clear hx258_1
      try clear hx260_0
      try clear hx260_1
      try clear hx261_0
      try clear hx261_1
      try clear p258
      try clear p260
      try clear p261
      try clear q258
      try clear q260
      try clear q261
      obtain ⟨kq, x41_4, rfl, HA, HJ4, HB⟩ := hcut
      cases kq with
      | zero => exact absurd HA.out (by simp [thistleref02_Check.j1])
      | succ kj4 =>
       have H := HA.out
       clear HA
       simp only [thistleref02_Check.j1] at H
       by_cases c15 : x41_4 = true
       ·subst c15
        have H1 : (some 1) = some r := by rw [if_pos rfl] at H; exact H
        clear H
        have H := H1
        clear H1
        obtain rfl := Option.some.inj H
        go_wp2
        go_ret
        exact ⟨by first | rfl | (simp [errW_none, errW_some] <;> rfl) | (simp [*, errW_none, errW_some] <;> rfl), XShort.bel⟩
       ·replace c15 := Bool.eq_false_iff.mpr c15
        subst c15
        have H1 : (if x3_1 > 0 then (if 0 ≤ x3_1 then (if x3_1 < (l0.length : Int) then (if 0 ≤ (wrap64 (x3_1 - 1)) then (if (wrap64 (x3_1 - 1)) < (l0.length : Int) then (if (wrap64 ((rd_T30 l0 x3_1).f0)) ≤ (wrap64 ((wrap64 ((rd_T30 l0 (wrap64 (x3_1 - 1))).f1)) + 1)) then (some 1) else (thistleref02_Check.l0 kj4 l0 (wrap64 (x3_1 + 1)))) else (none)) else (none)) else (none)) else (none)) else (thistleref02_Check.l0 kj4 l0 (wrap64 (x3_1 + 1)))) = some r := by rw [if_neg (show ¬ (false = true) by decide)] at H; exact H
        clear H
        have H := H1
        clear H1
        by_cases c16 : x3_1 > 0
        ·rw [if_pos c16] at H
         have c16b0 : decide (0 < x3_1) = true := decide_eq_true c16
         clear c16
         by_cases c17 : 0 ≤ x3_1
         ·rw [if_pos c17] at H
          have c17b0 : decide (0 ≤ x3_1) = true := decide_eq_true c17
          clear c17
          by_cases c18 : x3_1 < (l0.length : Int)
          ·rw [if_pos c18] at H
           have c18b0 : decide (x3_1 < (l0.length : Int)) = true := decide_eq_true c18
           clear c18
           obtain ⟨ji19, hji19⟩ : ∃ j_ : Int, (wrap64 (x3_1 - 1)) = j_ := ⟨_, rfl⟩
           replace H : (if 0 ≤ (ji19) then (if (ji19) < (l0.length : Int) then (if (wrap64 ((rd_T30 l0 x3_1).f0)) ≤ (wrap64 ((wrap64 ((rd_T30 l0 (ji19)).f1)) + 1)) then (some 1) else (thistleref02_Check.l0 kj4 l0 (wrap64 (x3_1 + 1)))) else (none)) else (none)) = some r := by first | (rw [hji19] at H; exact H) | (simp only [hji19] at H ⊢; exact H)
           have hji19w : (IntKind.i64.wrap (x3_1 - 1)) = ji19 := (i64_w _).trans hji19
           by_cases c20 : 0 ≤ (ji19)
           ·rw [if_pos c20] at H
            have c20b0 : decide (0 ≤ (ji19)) = true := decide_eq_true c20
            clear c20
            by_cases c21 : (ji19) < (l0.length : Int)
            ·rw [if_pos c21] at H
             have c21b0 : decide ((ji19) < (l0.length : Int)) = true := decide_eq_true c21
             clear c21
             by_cases c22 : (wrap64 ((rd_T30 l0 x3_1).f0)) ≤ (wrap64 ((wrap64 ((rd_T30 l0 (ji19)).f1)) + 1))
             ·rw [if_pos c22] at H
              have c22b0 : decide ((wrap64 ((rd_T30 l0 x3_1).f0)) ≤ (wrap64 ((wrap64 ((rd_T30 l0 (ji19)).f1)) + 1))) = true := decide_eq_true c22
              clear c22
              obtain rfl := Option.some.inj H
              try go_wp2
              have n0_ := Aside0.mk (below_drew1 HB.out)
              clear HB
              have HB := n0_
              clear n0_
              have p262 : 0 ≤ (x3_1 : Int) := of_decide_eq_true XShort.asm
              have q262 : x3_1 < (l0.length : Int) := of_decide_eq_true XShort.asm
              obtain ⟨ad262, e262, hx262_0, hx262_1⟩ := at_T30 HR0.out x3_1 p262 q262
              have hw262_1 := hx262_1
              have hw262_0 := hx262_0
              obtain rfl : ad256 = ad262 := (by injection e262)
              replace hx262_0 := (HB.out.cell (World.block_lt_of_cell? w _ hx262_0)).trans hx262_0
              replace hx262_1 := (HB.out.cell (World.block_lt_of_cell? w _ hx262_1)).trans hx262_1
              replace p262 := eq_true p262
              replace q262 := eq_true q262
              have p263 : 0 ≤ ((ji19) : Int) := of_decide_eq_true XShort.asm
              have q263 : (ji19) < (l0.length : Int) := of_decide_eq_true XShort.asm
              obtain ⟨ad263, e263, hx263_0, hx263_1⟩ := at_T30 HR0.out (ji19) p263 q263
              have hw263_1 := hx263_1
              have hw263_0 := hx263_0
              obtain rfl : ad256 = ad263 := (by injection e263)
              replace hx263_0 := (HB.out.cell (World.block_lt_of_cell? w _ hx263_0)).trans hx263_0
              replace hx263_1 := (HB.out.cell (World.block_lt_of_cell? w _ hx263_1)).trans hx263_1
              replace p263 := eq_true p263
              replace q263 := eq_true q263
              refine start_ (n := 19) (S := fun w' => w'.cell? (ad256.add ((x3_1).toNat * 2)) = some (.int .i32 ((rd_T30 l0 x3_1).f0)) ∧ w'.cell? ⟨(ad256.add ((x3_1).toNat * 2)).block, (ad256.add ((x3_1).toNat * 2)).off + 1, none⟩ = some (.int .i32 ((rd_T30 l0 x3_1).f1)) ∧ w'.cell? (ad256.add (((ji19)).toNat * 2)) = some (.int .i32 ((rd_T30 l0 (ji19)).f0)) ∧ w'.cell? ⟨(ad256.add (((ji19)).toNat * 2)).block, (ad256.add (((ji19)).toNat * 2)).off + 1, none⟩ = some (.int .i32 ((rd_T30 l0 (ji19)).f1))) (ds := []) #[i,i,i,i,i,i,i,i,i,i,i,i,i,i,i,i,i,i,i] (by kernel_rfl) rfl rfl ⟨((HB.out.cell (World.block_lt_of_cell? w _ hw262_0)).trans hw262_0), ((HB.out.cell (World.block_lt_of_cell? w _ hw262_1)).trans hw262_1), ((HB.out.cell (World.block_lt_of_cell? w _ hw263_0)).trans hw263_0), ((HB.out.cell (World.block_lt_of_cell? w _ hw263_1)).trans hw263_1)⟩ (fun hHeld => ?_); refine with_tabW thistleref02_Check.tab7 thistleref02_Check.bits7 (fun HT_ HW_ => ?_)
              generalize wc.drew = w23 at HB hx262_0 hx262_1 hx263_0 hx263_1 hHeld ⊢
              refine pure_ (i := 0) (N := some 42) (v := ?_) (a' := ?_) #[o,i,i,i,i,i,i,i,i,i,i,i,i,i,i,i,i,i,i] rfl rfl (any_of HT_.out (by kernel_rfl)) (fun _ _ _ h => h) (Or.inl ⟨by rfl, ?_⟩) ?_ ?_
              rotate_left
              ·intro w'
               go_simp
               with_reducible rfl
              rotate_left
              ·exact XShort.put
              refine pure_ (i := 1) (N := some 43) (v := ?_) (a' := ?_) #[o,o,i,i,i,i,i,i,i,i,i,i,i,i,i,i,i,i,i] rfl rfl (any_of HT_.out (by kernel_rfl)) (fun _ _ _ h => h) (Or.inl ⟨by rfl, ?_⟩) ?_ ?_
              rotate_left
              ·intro w'
               go_simp
               with_reducible rfl
              rotate_left
              ·exact XShort.put
              refine pure_ (i := 2) (N := some 44) (v := ?_) (a' := ?_) #[o,o,o,i,i,i,i,i,i,i,i,i,i,i,i,i,i,i,i] rfl rfl (any_of HT_.out (by kernel_rfl)) (fun _ _ _ h => h) (Or.inl ⟨by rfl, ?_⟩) ?_ ?_
              rotate_left
              ·intro w'
               go_simp
               with_reducible rfl
              rotate_left
              ·exact XShort.put
              refine pure_ (i := 3) (N := some 45) (v := ?_) (a' := ?_) #[o,o,o,o,i,i,i,i,i,i,i,i,i,i,i,i,i,i,i] rfl rfl (any_of HT_.out (by kernel_rfl)) (fun _ _ _ h => h) (Or.inl ⟨by rfl, ?_⟩) ?_ ?_
              rotate_left
              ·intro w'
               go_simp
               with_reducible rfl
              rotate_left
              ·exact XShort.put
              refine pure_ (i := 4) (N := some 46) (v := ?_) (a' := ?_) #[o,o,o,o,o,i,i,i,i,i,i,i,i,i,i,i,i,i,i] rfl rfl (any_of HT_.out (by kernel_rfl)) (fun _ _ _ h => h) (Or.inl ⟨by rfl, ?_⟩) ?_ ?_
              rotate_left
              ·intro w'
               go_simp
               with_reducible rfl
              rotate_left
              ·exact XShort.put
              refine pure_ (i := 5) (N := some 47) (v := ?_) (a' := ?_) #[o,o,o,o,o,o,i,i,i,i,i,i,i,i,i,i,i,i,i] rfl rfl (any_of HT_.out (by kernel_rfl)) (fun _ _ _ h => h) (Or.inl ⟨by rfl, ?_⟩) ?_ ?_
              rotate_left
              ·intro w'
               go_simp
               with_reducible rfl
              rotate_left
              ·exact XShort.put
              refine pure_ (i := 6) (N := some 48) (v := ?_) (a' := ?_) #[o,o,o,o,o,o,o,i,i,i,i,i,i,i,i,i,i,i,i] rfl rfl (any_of HT_.out (by kernel_rfl)) (fun _ _ _ h => h) (Or.inl ⟨by rfl, ?_⟩) ?_ ?_
              rotate_left
              ·intro w'
               go_simp
               with_reducible rfl
              rotate_left
              ·exact XShort.put
              refine pure_ (i := 9) (N := some 51) (v := ?_) (a' := ?_) #[o,o,o,o,o,o,o,i,i,o,i,i,i,i,i,i,i,i,i] rfl rfl (any_of HT_.out (by kernel_rfl)) (fun _ _ _ h => h) (Or.inl ⟨by rfl, ?_⟩) ?_ ?_
              rotate_left
              ·intro w'
               go_simp
               with_reducible rfl
              rotate_left
              ·exact XShort.put
              refine pure_ (i := 10) (N := some 52) (v := ?_) (a' := ?_) #[o,o,o,o,o,o,o,i,i,o,o,i,i,i,i,i,i,i,i] rfl rfl (any_of HT_.out (by kernel_rfl)) (fun _ _ _ h => h) (Or.inl ⟨by rfl, ?_⟩) ?_ ?_
              rotate_left
              ·intro w'
               go_simp
               with_reducible rfl
              rotate_left
              ·exact XShort.put
              refine pure_ (i := 11) (N := some 53) (v := ?_) (a' := ?_) #[o,o,o,o,o,o,o,i,i,o,o,o,i,i,i,i,i,i,i] rfl rfl (any_of HT_.out (by kernel_rfl)) (fun _ _ _ h => h) (Or.inl ⟨by rfl, ?_⟩) ?_ ?_
              rotate_left
              ·intro w'
               go_simp
               with_reducible rfl
              rotate_left
              ·exact XShort.put
              refine pure_ (i := 12) (N := some 54) (v := ?_) (a' := ?_) #[o,o,o,o,o,o,o,i,i,o,o,o,o,i,i,i,i,i,i] rfl rfl (any_of HT_.out (by kernel_rfl)) (fun _ _ _ h => h) (Or.inl ⟨by rfl, ?_⟩) ?_ ?_
              rotate_left
              ·intro w'
               go_simp
               with_reducible rfl
              rotate_left
              ·exact XShort.put
              refine pure_ (i := 13) (N := some 55) (v := ?_) (a' := ?_) #[o,o,o,o,o,o,o,i,i,o,o,o,o,o,i,i,i,i,i] rfl rfl (any_of HT_.out (by kernel_rfl)) (fun _ _ _ h => h) (Or.inl ⟨by rfl, ?_⟩) ?_ ?_
              rotate_left
              ·intro w'
               go_simp
               with_reducible rfl
              rotate_left
              ·exact XShort.put
              refine take_ (i := 7) (N := some 49) (v := ?_) (a' := ?_) #[o,o,o,o,o,o,o,o,i,o,o,o,o,o,i,i,i,i,i] rfl rfl (take_ofW HT_.out HW_.out (by kernel_rfl)) (fun _ _ _ h => h) (Or.inl ⟨by rfl, ?_⟩) hHeld ?_ ?_
              rotate_left
              ·rintro w' ⟨s0, s1, s2, s3⟩
               go_simp
               with_reducible rfl
              rotate_left
              ·exact XShort.put
              refine pure_ (i := 8) (N := some 50) (v := ?_) (a' := ?_) #[o,o,o,o,o,o,o,o,o,o,o,o,o,o,i,i,i,i,i] rfl rfl (any_of HT_.out (by kernel_rfl)) (fun _ _ _ h => h) (Or.inl ⟨by rfl, ?_⟩) ?_ ?_
              rotate_left
              ·intro w'
               go_simp
               with_reducible rfl
              rotate_left
              ·exact XShort.put
              refine take_ (i := 14) (N := some 56) (v := ?_) (a' := ?_) #[o,o,o,o,o,o,o,o,o,o,o,o,o,o,o,i,i,i,i] rfl rfl (take_ofW HT_.out HW_.out (by kernel_rfl)) (fun _ _ _ h => h) (Or.inl ⟨by rfl, ?_⟩) hHeld ?_ ?_
              rotate_left
              ·rintro w' ⟨s0, s1, s2, s3⟩
               go_simp
               with_reducible rfl
              rotate_left
              ·exact XShort.put
              refine pure_ (i := 15) (N := some 57) (v := ?_) (a' := ?_) #[o,o,o,o,o,o,o,o,o,o,o,o,o,o,o,o,i,i,i] rfl rfl (any_of HT_.out (by kernel_rfl)) (fun _ _ _ h => h) (Or.inl ⟨by rfl, ?_⟩) ?_ ?_
              rotate_left
              ·intro w'
               go_simp
               with_reducible rfl
              rotate_left
              ·exact XShort.put
              refine pure_ (i := 16) (N := some 58) (v := ?_) (a' := ?_) #[o,o,o,o,o,o,o,o,o,o,o,o,o,o,o,o,o,i,i] rfl rfl (any_of HT_.out (by kernel_rfl)) (fun _ _ _ h => h) (Or.inl ⟨by rfl, ?_⟩) ?_ ?_
              rotate_left
              ·intro w'
               go_simp
               with_reducible rfl
              rotate_left
              ·exact XShort.put
              refine pure_ (i := 17) (N := some 59) (v := ?_) (a' := ?_) #[o,o,o,o,o,o,o,o,o,o,o,o,o,o,o,o,o,o,i] rfl rfl (any_of HT_.out (by kernel_rfl)) (fun _ _ _ h => h) (Or.inl ⟨by rfl, ?_⟩) ?_ ?_
              rotate_left
              ·intro w'
               go_simp
               with_reducible rfl
              rotate_left
              ·exact XShort.put
              refine pure_ (i := 18) (N := some 60) (v := ?_) (a' := ?_) #[o,o,o,o,o,o,o,o,o,o,o,o,o,o,o,o,o,o,o] rfl rfl (any_of HT_.out (by kernel_rfl)) (fun _ _ _ h => h) (Or.inl ⟨by rfl, ?_⟩) ?_ ?_
              rotate_left
              ·intro w'
               go_simp
               with_reducible rfl
              rotate_left
              ·exact XShort.put
              refine done_ (done_of HT_.out (by kernel_rfl)) ?_
              try go_wp2
              go_ret
              exact ⟨by first | rfl | (simp [errW_none, errW_some] <;> rfl) | (simp only [← hji19]; first | rfl | (simp [errW_none, errW_some] <;> rfl)) | (simp [*, errW_none, errW_some] <;> rfl), XShort.bel⟩
             ·rw [if_neg c22] at H
              have c22b0 : decide ((wrap64 ((rd_T30 l0 x3_1).f0)) ≤ (wrap64 ((wrap64 ((rd_T30 l0 (ji19)).f1)) + 1))) = false := decide_eq_false c22
              clear c22
              have H' := Aside0.mk H
              clear H
              try go_wp2
              have n0_ := Aside0.mk (below_drew1 HB.out)
              clear HB
              have HB := n0_
              clear n0_
              have p262 : 0 ≤ (x3_1 : Int) := of_decide_eq_true XShort.asm
              have q262 : x3_1 < (l0.length : Int) := of_decide_eq_true XShort.asm
              obtain ⟨ad262, e262, hx262_0, hx262_1⟩ := at_T30 HR0.out x3_1 p262 q262
              have hw262_1 := hx262_1
              have hw262_0 := hx262_0
              obtain rfl : ad256 = ad262 := (by injection e262)
              replace hx262_0 := (HB.out.cell (World.block_lt_of_cell? w _ hx262_0)).trans hx262_0
              replace hx262_1 := (HB.out.cell (World.block_lt_of_cell? w _ hx262_1)).trans hx262_1
              replace p262 := eq_true p262
              replace q262 := eq_true q262
              have p263 : 0 ≤ ((ji19) : Int) := of_decide_eq_true XShort.asm
              have q263 : (ji19) < (l0.length : Int) := of_decide_eq_true XShort.asm
              obtain ⟨ad263, e263, hx263_0, hx263_1⟩ := at_T30 HR0.out (ji19) p263 q263
              have hw263_1 := hx263_1
              have hw263_0 := hx263_0
              obtain rfl : ad256 = ad263 := (by injection e263)
              replace hx263_0 := (HB.out.cell (World.block_lt_of_cell? w _ hx263_0)).trans hx263_0
              replace hx263_1 := (HB.out.cell (World.block_lt_of_cell? w _ hx263_1)).trans hx263_1
              replace p263 := eq_true p263
              replace q263 := eq_true q263
              refine start_ (n := 19) (S := fun w' => w'.cell? (ad256.add ((x3_1).toNat * 2)) = some (.int .i32 ((rd_T30 l0 x3_1).f0)) ∧ w'.cell? ⟨(ad256.add ((x3_1).toNat * 2)).block, (ad256.add ((x3_1).toNat * 2)).off + 1, none⟩ = some (.int .i32 ((rd_T30 l0 x3_1).f1)) ∧ w'.cell? (ad256.add (((ji19)).toNat * 2)) = some (.int .i32 ((rd_T30 l0 (ji19)).f0)) ∧ w'.cell? ⟨(ad256.add (((ji19)).toNat * 2)).block, (ad256.add (((ji19)).toNat * 2)).off + 1, none⟩ = some (.int .i32 ((rd_T30 l0 (ji19)).f1))) (ds := []) #[i,i,i,i,i,i,i,i,i,i,i,i,i,i,i,i,i,i,i] (by kernel_rfl) rfl rfl ⟨((HB.out.cell (World.block_lt_of_cell? w _ hw262_0)).trans hw262_0), ((HB.out.cell (World.block_lt_of_cell? w _ hw262_1)).trans hw262_1), ((HB.out.cell (World.block_lt_of_cell? w _ hw263_0)).trans hw263_0), ((HB.out.cell (World.block_lt_of_cell? w _ hw263_1)).trans hw263_1)⟩ (fun hHeld => ?_); refine with_tabW thistleref02_Check.tab7 thistleref02_Check.bits7 (fun HT_ HW_ => ?_)
              generalize wc.drew = w24 at HB hx262_0 hx262_1 hx263_0 hx263_1 hHeld ⊢
              refine pure_ (i := 0) (N := some 42) (v := ?_) (a' := ?_) #[o,i,i,i,i,i,i,i,i,i,i,i,i,i,i,i,i,i,i] rfl rfl (any_of HT_.out (by kernel_rfl)) (fun _ _ _ h => h) (Or.inl ⟨by rfl, ?_⟩) ?_ ?_
              rotate_left
              ·intro w'
               go_simp
               with_reducible rfl
              rotate_left
              ·exact XShort.put
              refine pure_ (i := 1) (N := some 43) (v := ?_) (a' := ?_) #[o,o,i,i,i,i,i,i,i,i,i,i,i,i,i,i,i,i,i] rfl rfl (any_of HT_.out (by kernel_rfl)) (fun _ _ _ h => h) (Or.inl ⟨by rfl, ?_⟩) ?_ ?_
              rotate_left
              ·intro w'
               go_simp
               with_reducible rfl
              rotate_left
              ·exact XShort.put
              refine pure_ (i := 2) (N := some 44) (v := ?_) (a' := ?_) #[o,o,o,i,i,i,i,i,i,i,i,i,i,i,i,i,i,i,i] rfl rfl (any_of HT_.out (by kernel_rfl)) (fun _ _ _ h => h) (Or.inl ⟨by rfl, ?_⟩) ?_ ?_
              rotate_left
              ·intro w'
               go_simp
               with_reducible rfl
              rotate_left
              ·exact XShort.put
              refine pure_ (i := 3) (N := some 45) (v := ?_) (a' := ?_) #[o,o,o,o,i,i,i,i,i,i,i,i,i,i,i,i,i,i,i] rfl rfl (any_of HT_.out (by kernel_rfl)) (fun _ _ _ h => h) (Or.inl ⟨by rfl, ?_⟩) ?_ ?_
              rotate_left
              ·intro w'
               go_simp
               with_reducible rfl
              rotate_left
              ·exact XShort.put
              refine pure_ (i := 4) (N := some 46) (v := ?_) (a' := ?_) #[o,o,o,o,o,i,i,i,i,i,i,i,i,i,i,i,i,i,i] rfl rfl (any_of HT_.out (by kernel_rfl)) (fun _ _ _ h => h) (Or.inl ⟨by rfl, ?_⟩) ?_ ?_
              rotate_left
              ·intro w'
               go_simp
               with_reducible rfl
              rotate_left
              ·exact XShort.put
              refine pure_ (i := 5) (N := some 47) (v := ?_) (a' := ?_) #[o,o,o,o,o,o,i,i,i,i,i,i,i,i,i,i,i,i,i] rfl rfl (any_of HT_.out (by kernel_rfl)) (fun _ _ _ h => h) (Or.inl ⟨by rfl, ?_⟩) ?_ ?_
              rotate_left
              ·intro w'
               go_simp
               with_reducible rfl
              rotate_left
              ·exact XShort.put
              refine pure_ (i := 6) (N := some 48) (v := ?_) (a' := ?_) #[o,o,o,o,o,o,o,i,i,i,i,i,i,i,i,i,i,i,i] rfl rfl (any_of HT_.out (by kernel_rfl)) (fun _ _ _ h => h) (Or.inl ⟨by rfl, ?_⟩) ?_ ?_
              rotate_left
              ·intro w'
               go_simp
               with_reducible rfl
              rotate_left
              ·exact XShort.put
              refine pure_ (i := 9) (N := some 51) (v := ?_) (a' := ?_) #[o,o,o,o,o,o,o,i,i,o,i,i,i,i,i,i,i,i,i] rfl rfl (any_of HT_.out (by kernel_rfl)) (fun _ _ _ h => h) (Or.inl ⟨by rfl, ?_⟩) ?_ ?_
              rotate_left
              ·intro w'
               go_simp
               with_reducible rfl
              rotate_left
              ·exact XShort.put
              refine pure_ (i := 10) (N := some 52) (v := ?_) (a' := ?_) #[o,o,o,o,o,o,o,i,i,o,o,i,i,i,i,i,i,i,i] rfl rfl (any_of HT_.out (by kernel_rfl)) (fun _ _ _ h => h) (Or.inl ⟨by rfl, ?_⟩) ?_ ?_
              rotate_left
              ·intro w'
               go_simp
               with_reducible rfl
              rotate_left
              ·exact XShort.put
              refine pure_ (i := 11) (N := some 53) (v := ?_) (a' := ?_) #[o,o,o,o,o,o,o,i,i,o,o,o,i,i,i,i,i,i,i] rfl rfl (any_of HT_.out (by kernel_rfl)) (fun _ _ _ h => h) (Or.inl ⟨by rfl, ?_⟩) ?_ ?_
              rotate_left
              ·intro w'
               go_simp
               with_reducible rfl
              rotate_left
              ·exact XShort.put
              refine pure_ (i := 12) (N := some 54) (v := ?_) (a' := ?_) #[o,o,o,o,o,o,o,i,i,o,o,o,o,i,i,i,i,i,i] rfl rfl (any_of HT_.out (by kernel_rfl)) (fun _ _ _ h => h) (Or.inl ⟨by rfl, ?_⟩) ?_ ?_
              rotate_left
              ·intro w'
               go_simp
               with_reducible rfl
              rotate_left
              ·exact XShort.put
              refine pure_ (i := 13) (N := some 55) (v := ?_) (a' := ?_) #[o,o,o,o,o,o,o,i,i,o,o,o,o,o,i,i,i,i,i] rfl rfl (any_of HT_.out (by kernel_rfl)) (fun _ _ _ h => h) (Or.inl ⟨by rfl, ?_⟩) ?_ ?_
              rotate_left
              ·intro w'
               go_simp
               with_reducible rfl
              rotate_left
              ·exact XShort.put
              refine take_ (i := 7) (N := some 49) (v := ?_) (a' := ?_) #[o,o,o,o,o,o,o,o,i,o,o,o,o,o,i,i,i,i,i] rfl rfl (take_ofW HT_.out HW_.out (by kernel_rfl)) (fun _ _ _ h => h) (Or.inl ⟨by rfl, ?_⟩) hHeld ?_ ?_
              rotate_left
              ·rintro w' ⟨s0, s1, s2, s3⟩
               go_simp
               with_reducible rfl
              rotate_left
              ·exact XShort.put
              refine pure_ (i := 8) (N := some 50) (v := ?_) (a' := ?_) #[o,o,o,o,o,o,o,o,o,o,o,o,o,o,i,i,i,i,i] rfl rfl (any_of HT_.out (by kernel_rfl)) (fun _ _ _ h => h) (Or.inl ⟨by rfl, ?_⟩) ?_ ?_
              rotate_left
              ·intro w'
               go_simp
               with_reducible rfl
              rotate_left
              ·exact XShort.put
              refine take_ (i := 14) (N := some 56) (v := ?_) (a' := ?_) #[o,o,o,o,o,o,o,o,o,o,o,o,o,o,o,i,i,i,i] rfl rfl (take_ofW HT_.out HW_.out (by kernel_rfl)) (fun _ _ _ h => h) (Or.inl ⟨by rfl, ?_⟩) hHeld ?_ ?_
              rotate_left
              ·rintro w' ⟨s0, s1, s2, s3⟩
               go_simp
               with_reducible rfl
              rotate_left
              ·exact XShort.put
              refine pure_ (i := 15) (N := some 57) (v := ?_) (a' := ?_) #[o,o,o,o,o,o,o,o,o,o,o,o,o,o,o,o,i,i,i] rfl rfl (any_of HT_.out (by kernel_rfl)) (fun _ _ _ h => h) (Or.inl ⟨by rfl, ?_⟩) ?_ ?_
              rotate_left
              ·intro w'
               go_simp
               with_reducible rfl
              rotate_left
              ·exact XShort.put
              refine pure_ (i := 16) (N := some 58) (v := ?_) (a' := ?_) #[o,o,o,o,o,o,o,o,o,o,o,o,o,o,o,o,o,i,i] rfl rfl (any_of HT_.out (by kernel_rfl)) (fun _ _ _ h => h) (Or.inl ⟨by rfl, ?_⟩) ?_ ?_
              rotate_left
              ·intro w'
               go_simp
               with_reducible rfl
              rotate_left
              ·exact XShort.put
              refine pure_ (i := 17) (N := some 59) (v := ?_) (a' := ?_) #[o,o,o,o,o,o,o,o,o,o,o,o,o,o,o,o,o,o,i] rfl rfl (any_of HT_.out (by kernel_rfl)) (fun _ _ _ h => h) (Or.inl ⟨by rfl, ?_⟩) ?_ ?_
              rotate_left
              ·intro w'
               go_simp
               with_reducible rfl
              rotate_left
              ·exact XShort.put
              refine pure_ (i := 18) (N := some 60) (v := ?_) (a' := ?_) #[o,o,o,o,o,o,o,o,o,o,o,o,o,o,o,o,o,o,o] rfl rfl (any_of HT_.out (by kernel_rfl)) (fun _ _ _ h => h) (Or.inl ⟨by rfl, ?_⟩) ?_ ?_
              rotate_left
              ·intro w'
               go_simp
               with_reducible rfl
              rotate_left
              ·exact XShort.put
              refine done_ (done_of HT_.out (by kernel_rfl)) ?_
              try go_wp2
              go_roundg kj4
              case measure => have := HK1.out; have := HJ4.out; omega
              case rel => exact ⟨(wrap64 (x3_1 + 1)), XShort.eqs, H', ⟨by have := HK1.out; have := HJ4.out; omega⟩, ⟨XShort.bel⟩⟩
            ·rw [if_neg c21] at H
             exact absurd H (by simp)
           ·rw [if_neg c20] at H
            exact absurd H (by simp)
          ·rw [if_neg c18] at H
           exact absurd H (by simp)
         ·rw [if_neg c17] at H
          exact absurd H (by simp)
        ·rw [if_neg c16] at H
         have c16b0 : decide (0 < x3_1) = false := decide_eq_false c16
         clear c16
         have H' := Aside0.mk H
         clear H
         try go_wp2
         have n0_ := Aside0.mk (below_drew1 HB.out)
         clear HB
         have HB := n0_
         clear n0_
         refine start_ (n := 19) (S := fun w' => True) (ds := []) #[i,i,i,i,i,i,i,i,i,i,i,i,i,i,i,i,i,i,i] (by kernel_rfl) rfl rfl trivial (fun hHeld => ?_); refine with_tabW thistleref02_Check.tab7 thistleref02_Check.bits7 (fun HT_ HW_ => ?_)
         generalize wc.drew = w25 at HB hHeld ⊢
         refine pure_ (i := 0) (N := some 42) (v := ?_) (a' := ?_) #[o,i,i,i,i,i,i,i,i,i,i,i,i,i,i,i,i,i,i] rfl rfl (any_of HT_.out (by kernel_rfl)) (fun _ _ _ h => h) (Or.inl ⟨by rfl, ?_⟩) ?_ ?_
         rotate_left
         ·intro w'
          go_simp
          with_reducible rfl
         rotate_left
         ·exact XShort.put
         refine pure_ (i := 1) (N := some 43) (v := ?_) (a' := ?_) #[o,o,i,i,i,i,i,i,i,i,i,i,i,i,i,i,i,i,i] rfl rfl (any_of HT_.out (by kernel_rfl)) (fun _ _ _ h => h) (Or.inl ⟨by rfl, ?_⟩) ?_ ?_
         rotate_left
         ·intro w'
          go_simp
          with_reducible rfl
         rotate_left
         ·exact XShort.put
         refine pure_ (i := 2) (N := some 44) (v := ?_) (a' := ?_) #[o,o,o,i,i,i,i,i,i,i,i,i,i,i,i,i,i,i,i] rfl rfl (any_of HT_.out (by kernel_rfl)) (fun _ _ _ h => h) (Or.inl ⟨by rfl, ?_⟩) ?_ ?_
         rotate_left
         ·intro w'
          go_simp
          with_reducible rfl
         rotate_left
         ·exact XShort.put
         refine pure_ (i := 3) (N := some 45) (v := undef) (a' := ?_) #[o,o,o,o,i,i,i,i,i,i,i,i,i,i,i,i,i,i,i] rfl rfl (any_of HT_.out (by kernel_rfl)) (fun _ _ _ h => h) (Or.inr ⟨by rfl, rfl⟩) ?_ ?_
         rotate_left
         ·exact XShort.put
         refine pure_ (i := 4) (N := some 46) (v := undef) (a' := ?_) #[o,o,o,o,o,i,i,i,i,i,i,i,i,i,i,i,i,i,i] rfl rfl (any_of HT_.out (by kernel_rfl)) (fun _ _ _ h => h) (Or.inr ⟨by rfl, rfl⟩) ?_ ?_
         rotate_left
         ·exact XShort.put
         refine pure_ (i := 5) (N := some 47) (v := undef) (a' := ?_) #[o,o,o,o,o,o,i,i,i,i,i,i,i,i,i,i,i,i,i] rfl rfl (any_of HT_.out (by kernel_rfl)) (fun _ _ _ h => h) (Or.inr ⟨by rfl, rfl⟩) ?_ ?_
         rotate_left
         ·exact XShort.put
         refine pure_ (i := 6) (N := some 48) (v := undef) (a' := ?_) #[o,o,o,o,o,o,o,i,i,i,i,i,i,i,i,i,i,i,i] rfl rfl (any_of HT_.out (by kernel_rfl)) (fun _ _ _ h => h) (Or.inr ⟨by rfl, rfl⟩) ?_ ?_
         rotate_left
         ·exact XShort.put
         refine pure_ (i := 7) (N := some 49) (v := undef) (a' := ?_) #[o,o,o,o,o,o,o,o,i,i,i,i,i,i,i,i,i,i,i] rfl rfl (any_of HT_.out (by kernel_rfl)) (fun _ _ _ h => h) (Or.inr ⟨by rfl, rfl⟩) ?_ ?_
         rotate_left
         ·exact XShort.put
         refine pure_ (i := 8) (N := some 50) (v := undef) (a' := ?_) #[o,o,o,o,o,o,o,o,o,i,i,i,i,i,i,i,i,i,i] rfl rfl (any_of HT_.out (by kernel_rfl)) (fun _ _ _ h => h) (Or.inr ⟨by rfl, rfl⟩) ?_ ?_
         rotate_left
         ·exact XShort.put
         refine pure_ (i := 9) (N := some 51) (v := undef) (a' := ?_) #[o,o,o,o,o,o,o,o,o,o,i,i,i,i,i,i,i,i,i] rfl rfl (any_of HT_.out (by kernel_rfl)) (fun _ _ _ h => h) (Or.inr ⟨by rfl, rfl⟩) ?_ ?_
         rotate_left
         ·exact XShort.put
         refine pure_ (i := 10) (N := some 52) (v := undef) (a' := ?_) #[o,o,o,o,o,o,o,o,o,o,o,i,i,i,i,i,i,i,i] rfl rfl (any_of HT_.out (by kernel_rfl)) (fun _ _ _ h => h) (Or.inr ⟨by rfl, rfl⟩) ?_ ?_
         rotate_left
         ·exact XShort.put
         refine pure_ (i := 11) (N := some 53) (v := undef) (a' := ?_) #[o,o,o,o,o,o,o,o,o,o,o,o,i,i,i,i,i,i,i] rfl rfl (any_of HT_.out (by kernel_rfl)) (fun _ _ _ h => h) (Or.inr ⟨by rfl, rfl⟩) ?_ ?_
         rotate_left
         ·exact XShort.put
         refine pure_ (i := 12) (N := some 54) (v := undef) (a' := ?_) #[o,o,o,o,o,o,o,o,o,o,o,o,o,i,i,i,i,i,i] rfl rfl (any_of HT_.out (by kernel_rfl)) (fun _ _ _ h => h) (Or.inr ⟨by rfl, rfl⟩) ?_ ?_
         rotate_left
         ·exact XShort.put
         refine pure_ (i := 13) (N := some 55) (v := undef) (a' := ?_) #[o,o,o,o,o,o,o,o,o,o,o,o,o,o,i,i,i,i,i] rfl rfl (any_of HT_.out (by kernel_rfl)) (fun _ _ _ h => h) (Or.inr ⟨by rfl, rfl⟩) ?_ ?_
         rotate_left
         ·exact XShort.put
         refine pure_ (i := 14) (N := some 56) (v := undef) (a' := ?_) #[o,o,o,o,o,o,o,o,o,o,o,o,o,o,o,i,i,i,i] rfl rfl (any_of HT_.out (by kernel_rfl)) (fun _ _ _ h => h) (Or.inr ⟨by rfl, rfl⟩) ?_ ?_
         rotate_left
         ·exact XShort.put
         refine pure_ (i := 15) (N := some 57) (v := undef) (a' := ?_) #[o,o,o,o,o,o,o,o,o,o,o,o,o,o,o,o,i,i,i] rfl rfl (any_of HT_.out (by kernel_rfl)) (fun _ _ _ h => h) (Or.inr ⟨by rfl, rfl⟩) ?_ ?_
         rotate_left
         ·exact XShort.put
         refine pure_ (i := 16) (N := some 58) (v := undef) (a' := ?_) #[o,o,o,o,o,o,o,o,o,o,o,o,o,o,o,o,o,i,i] rfl rfl (any_of HT_.out (by kernel_rfl)) (fun _ _ _ h => h) (Or.inr ⟨by rfl, rfl⟩) ?_ ?_
         rotate_left
         ·exact XShort.put
         refine pure_ (i := 17) (N := some 59) (v := undef) (a' := ?_) #[o,o,o,o,o,o,o,o,o,o,o,o,o,o,o,o,o,o,i] rfl rfl (any_of HT_.out (by kernel_rfl)) (fun _ _ _ h => h) (Or.inr ⟨by rfl, rfl⟩) ?_ ?_
         rotate_left
         ·exact XShort.put
         refine pure_ (i := 18) (N := some 60) (v := ?_) (a' := ?_) #[o,o,o,o,o,o,o,o,o,o,o,o,o,o,o,o,o,o,o] rfl rfl (any_of HT_.out (by kernel_rfl)) (fun _ _ _ h => h) (Or.inl ⟨by rfl, ?_⟩) ?_ ?_
         rotate_left
         ·intro w'
          go_simp
          with_reducible rfl
         rotate_left
         ·exact XShort.put
         refine done_ (done_of HT_.out (by kernel_rfl)) ?_
         try go_wp2
         go_roundg kj4
         case measure => have := HK1.out; have := HJ4.out; omega
         case rel => exact ⟨(wrap64 (x3_1 + 1)), XShort.eqs, H', ⟨by have := HK1.out; have := HJ4.out; omega⟩, ⟨XShort.bel⟩⟩
    ·rw [if_neg c3] at H
     exact absurd H (by simp)
   ·rw [if_neg c2] at H
    have c2b0 : decide (x3_1 < (l0.length : Int)) = false := decide_eq_false c2
    clear c2
    obtain rfl := Option.some.inj H
    go_wp2
    go_ret
    exact ⟨by first | rfl | (simp [errW_none, errW_some] <;> rfl) | (simp [*, errW_none, errW_some] <;> rfl), XShort.bel⟩

end Go.Proofs.YtcfecoalljfoaaaDoor.XS
