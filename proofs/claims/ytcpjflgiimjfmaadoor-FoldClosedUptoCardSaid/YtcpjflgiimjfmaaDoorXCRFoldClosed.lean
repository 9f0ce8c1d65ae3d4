/- The row and the card of FoldClosed: for every input within the form's bound the law returns true; each argument reads behind the call as it read before; the listed variables hold what the program's text lays. -/
import Derived.Test.YtcpjflgiimjfmaaDoorCards
import Derived.Test.YtcpjflgiimjfmaaDoorTie
import Derived.Test.YtcpjflgiimjfmaaDoorXC12
import Derived.Test.YtcpjflgiimjfmaaDoorXCPFoldClosed
import Derived.Test.YtcpjflgiimjfmaaDoorXLibOpen
import Derived.Test.YtcpjflgiimjfmaaDoorXLibLaid
import Derived.WalkKit
import Derived.ProofKit
import Derived.OpenShut
import Derived.ShutString
import Derived.ChangeOld
import Derived.Below
import Derived.SizedLaws
import Derived.Deep.DeepHandedRow
import Derived.Lib.LaidTab
namespace Go.Proofs.YtcpjflgiimjfmaaDoor.XC
open Go.ChangeShapes Go.WideShapes Go.ChangeAt Go.RowKit Go.Proofs.YtcpjflgiimjfmaaDoorW.PrintWords
open Go.ChangeMaps (open_string shut_string)
namespace foldClosed
theorem own : ownKnob Tryd.prog.godebug = none := by kernel_rfl
theorem laidOut : laidOutB Tryd.prog = true := by kernel_rfl
def ok41 (x : S41) : Prop := ((Lit.int .i32 x.f0).wf = true) ∧ ((Lit.int .i32 x.f1).wf = true)
def mu41 (x : S41) : Nat := ((fun _ : Int => 1) x.f0 + (fun _ : Int => 1) x.f1) + 1
theorem open41 : XLib.Opens Tryd.prog 41 k41 ok41 mu41 :=
  XLib.Opens.struct (fun x : S41 => (x.f0, x.f1)) (fun y => ⟨y.1, y.2⟩) (fun _ => rfl) Tryd.underlying41 (by kernel_rfl) (XLib.OpensF.cons rfl (XLib.Opens.int Tryd.underlying21 (by kernel_rfl)) (XLib.OpensF.one rfl (XLib.Opens.int Tryd.underlying21 (by kernel_rfl))))
set_option maxRecDepth 100000 in
theorem gok {W : World} (h : laidMetH Tryd.prog Rows.foldClosedUptoRow.laid W) : GOK W := by
  have h0 : laidMet Tryd.prog Rows.foldClosedUptoRow.laid W := h
  have a0 := XLib.pairs_of_head (k := .i32) (zs := [(0, 55295), (57344, 1114111), (1114240, 1114367)]) (by kernel_rfl : Tryd.prog.globalNamed "thistle/sets.bands" = some 0) (by kernel_rfl : (Tryd.prog.globals[0]?).map (·.type) = some 56) Tryd.underlying56 (by kernel_rfl) Tryd.underlying41 (by kernel_rfl) Tryd.underlying21 (by kernel_rfl) rfl rfl rfl rfl h0
  exact ⟨trivial, a0⟩
set_option maxRecDepth 100000 in
theorem contract (H : Type) (enc : TypeId × Value → H) (W : World) (base : Nat) (args : Array Value) (ds gs : List (DataW H)) (before : List MemPlace)
    (hval0 : ∀ (j : Nat) t v, Tryd.f4.params[j]? = some t → args[j]? = some v → Value.okWide Tryd.prog W .any base t v)
    (hW : DataW.Whole enc Tryd.prog Tryd.f4.params.toList Rows.foldClosedSpec.vars false W args.toList ds gs before) (hcond : (∀ k, (Rows.OpenSpec.upto Rows.foldClosedSpec).cond = some k → k H (ds ++ gs) = true)) (hL : laidMetH Tryd.prog Rows.foldClosedUptoRow.laid W) :
    Calls Tryd.prog 4 args W fun e W' => ∃ v, e = .returned v ∧ Rows.foldClosedSpec.post enc Tryd.prog Tryd.f4 false true false false W args v W' := by
  have hval : ∀ (j : Nat) t v, Tryd.f4.params[j]? = some t → args[j]? = some v → Value.okWide Tryd.prog W .any base t v := hval0
  have hW' := hW
  obtain ⟨p, q, hA0, hV, rfl, hfz, hnd⟩ := hW
  have hA : DataW.TrodAll enc Tryd.prog W 0 (fun _ => true) true Tryd.f4.params.toList args.toList ds p := hA0
  rw [Tryd.params4] at hA hval
  obtain ⟨v0, vs0, d0, ds0, p0, q0, hargs, rfl, rfl, h0, r0⟩ := trodAll_cons hA
  obtain ⟨v1, vs1, d1, ds1, p1, q1, rfl, rfl, rfl, h1, r1⟩ := trodAll_cons r0
  obtain ⟨v2, vs2, d2, ds2, p2, q2, rfl, rfl, rfl, h2, r2⟩ := trodAll_cons r1
  obtain ⟨rfl, rfl, rfl⟩ := trodAll_nil r2
  obtain rfl : args = #[v0, v1, v2] := by cases args; simp_all
  obtain ⟨rfl, rfl⟩ := trodVars_none hV
  have k0_ := h0
  have lt0 : ∀ x ∈ p0, x.block < W.heap.size := by obtain ⟨m, hm⟩ := k0_; exact DataW.trod_lt m _ _ _ hm
  obtain ⟨fuel0, ho0⟩ := h0
  obtain ⟨x0, hK0, hok0, hmu0⟩ := XLib.Opens.op (XLib.Opens.slice Tryd.underlying24 (by kernel_rfl) open41) ho0
  obtain ⟨A0, len0, c0, rfl⟩ := okWide_slice Tryd.underlying24 (hval 0 24 v0 rfl rfl)
  obtain ⟨A'0, c'0, e0, hc0, hr0⟩ := hK0
  obtain ⟨rfl, rfl, rfl⟩ : A0 = A'0 ∧ len0 = x0.length ∧ c0 = c'0 := by simpa [Value.cells] using e0
  have k1_ := h1
  have lt1 : ∀ x ∈ p1, x.block < W.heap.size := by obtain ⟨m, hm⟩ := k1_; exact DataW.trod_lt m _ _ _ hm
  obtain ⟨fuel1, ho1⟩ := h1
  obtain ⟨x1, hK1, hok1, hmu1⟩ := XLib.Opens.op (XLib.Opens.slice Tryd.underlying24 (by kernel_rfl) open41) ho1
  obtain ⟨A1, len1, c1, rfl⟩ := okWide_slice Tryd.underlying24 (hval 1 24 v1 rfl rfl)
  obtain ⟨A'1, c'1, e1, hc1, hr1⟩ := hK1
  obtain ⟨rfl, rfl, rfl⟩ : A1 = A'1 ∧ len1 = x1.length ∧ c1 = c'1 := by simpa [Value.cells] using e1
  have k2_ := h2
  have lt2 : ∀ x ∈ p2, x.block < W.heap.size := by obtain ⟨m, hm⟩ := k2_; exact DataW.trod_lt m _ _ _ hm
  obtain ⟨fuel2, ho2⟩ := h2
  obtain ⟨x2, hK2, hok2, hmu2⟩ := XLib.Opens.op (XLib.Opens.int Tryd.underlying21 (by kernel_rfl)) ho2
  obtain ⟨z2, rfl⟩ := okWide_int Tryd.underlying21 (hval 2 21 v2 rfl rfl)
  obtain rfl : x2 = z2 := by have e : [Value.int .i32 z2] = [Value.int .i32 x2] := hK2; simpa [eq_comm] using e
  have hbulk : Rows.uptoBulkAll ([d0, d1, d2] : List (DataW H)) ≤ 1048576 := by have hk := hcond _ rfl; simpa [Rows.uptoSmall] using hk
  have hsum : (fun l : List (S41) => XLib.sumMu mu41 l + 1) x0 + (fun l : List (S41) => XLib.sumMu mu41 l + 1) x1 + (fun _ : Int => 1) x2 ≤ 1048576 := by simp only [Rows.uptoBulkAll] at hbulk; dsimp only; omega
  clear hA0 hval0
  obtain ⟨k, hk⟩ := pure_FoldClosed x0 x1 x2 hok0 hok1 hok2 hsum
  refine (thistlelaw03_FoldClosed.calls k _ _ x0 _ _ x1 x2 true W hr0 hc0 hr1 hc1 hk (gok hL)).mono fun e W' ⟨he, bel⟩ => ?_
  subst he
  exact ⟨_, rfl, _, _, _, [], _, [], hW', trodAll_mk1 (shut_bool Tryd.underlying4 _), (trodAll_cons_mk (Below.trod laidOut (by kernel_rfl) (of_decide_eq_true (by kernel_rfl)) k0_ bel lt0) (trodAll_cons_mk (Below.trod laidOut (by kernel_rfl) (of_decide_eq_true (by kernel_rfl)) k1_ bel lt1) (trodAll_cons_mk (Below.trod laidOut (by kernel_rfl) (of_decide_eq_true (by kernel_rfl)) k2_ bel lt2) trodAll_mk0))), rfl, bel.frame _, fun h => by cases h⟩
noncomputable def laidWorld (os : Os) : World := { World.holding Tryd.prog os ⟨#[], #[], []⟩ with heap := ((World.holding Tryd.prog os ⟨#[], #[], []⟩).heap).modify 0 fun | .cells _ t frozen => .cells G_sets_bands.toArray t frozen | o => o }
set_option maxRecDepth 100000 in
theorem laid_met (os : Os) : laidMet Tryd.prog Rows.foldClosedUptoRow.laid ((laidWorld os).forCall (fun _ _ => 0) ⟨#[], #[.slice none 0 0, .slice none 0 0, .int .i32 0], []⟩).memory := laidMet_of_run' 8 (by kernel_rfl) (by kernel_rfl)
theorem reads (os : Os) {H : Type} (enc : TypeId × Value → H) : ∃ places, DataW.whole enc Tryd.prog ((laidWorld os).forCall (fun _ _ => 0) ⟨#[], #[.slice none 0 0, .slice none 0 0, .int .i32 0], []⟩).memory Tryd.f4.params.toList Rows.foldClosedSpec.vars false (#[.slice none 0 0, .slice none 0 0, .int .i32 0]).toList 8 = some ([.nil, .nil, .lit (.int .i32 0)], [], places) := ⟨[], by kernel_rfl⟩
set_option maxRecDepth 100000 in
theorem lifted (os : Os) (started : os.Started) (H : Type) (enc : TypeId × Value → H) (F : Stop.Interp) :
    ReturnsInHanded {} Tryd.checked os 4 .any ((Rows.OpenSpec.upto Rows.foldClosedSpec).preRow enc Tryd.prog Tryd.f4 Rows.foldClosedUptoRow.domain false Rows.foldClosedUptoRow.laid) (((Rows.OpenSpec.upto Rows.foldClosedSpec).at F).post enc Tryd.prog Tryd.f4 false true false false) := by
  obtain ⟨places, hx⟩ := reads os enc
  refine returnsInHanded_of_row (C := Tryd.checked) (s := (Rows.OpenSpec.upto Rows.foldClosedSpec)) own started (by kernel_rfl) Tryd.func4
    (witness_row_at (enc := enc) (C := Tryd.checked) false (laidWorld os) #[.slice none 0 0, .slice none 0 0, .int .i32 0] rfl (by kernel_rfl) (by kernel_rfl) (by kernel_rfl)
      (OpenSpec.preRow_of_cond 8 hx (by kernel_rfl) (fun k hk => by cases hk; kernel_rfl) (by kernel_rfl) (laid_met os))) ?_
  intro W base args ds gs before hval hW _ hcond _ hL _ _
  exact contract H enc W base args ds gs before hval hW hcond hL
theorem said : Rows.FoldClosedUptoSaid :=
  OpenClaim.holds_of_cond 4 Tryd.f4 rfl rfl rfl rfl rfl rfl rfl ⟨rfl, rfl, rfl, rfl, rfl⟩ rfl rfl rfl rfl rfl (by kernel_rfl) Tryd.func4 (by kernel_rfl)
    (of_decide_eq_true (by kernel_rfl)) (by unfold Func.isWrapper; first | (rw [if_pos (by decide +kernel)]; kernel_rfl) | (rw [if_neg (by decide +kernel)]; exact ⟨rfl, rfl⟩))
    (fun os started H enc _ F => by rw [OpenClaim.pre_eq_preRow]; exact lifted os started H enc F)
theorem plain (f : FuncId) (fn : Func) (hf : Tryd.pinned.checked.prog.funcNamed "thistle/thistlelaw03.FoldClosed" = some f) (hfn : Tryd.pinned.checked.prog.funcs[f]? = some fn) :
    false = Tryd.pinned.checked.prog.looks [] ∧ ∀ (j : Nat) t, fn.params[j]? = some t → Tryd.pinned.checked.prog.wantsStandIn t = false := by
  obtain rfl : f = 4 := Option.some.inj ((show Tryd.prog.funcNamed "thistle/thistlelaw03.FoldClosed" = some 4 by kernel_rfl).symm.trans hf) |>.symm
  obtain rfl : fn = Tryd.f4 := (Option.some.inj (Tryd.func4.symm.trans hfn)).symm
  refine ⟨by kernel_rfl, fun j t ht => ?_⟩
  rw [Tryd.params4] at ht
  have hm := Array.mem_of_getElem? ht
  simp only [List.mem_toArray, List.mem_cons, List.not_mem_nil, or_false] at hm
  rcases hm with rfl | rfl | rfl
  · exact (show Tryd.prog.wantsStandIn 24 = false by kernel_rfl)
  · exact (show Tryd.prog.wantsStandIn 24 = false by kernel_rfl)
  · exact (show Tryd.prog.wantsStandIn 21 = false by kernel_rfl)
theorem card : Rows.FoldClosedUptoCardSaid :=
  Claim7.holds_tied_plain_at .later [] _ _ _ _ said (fun _ h => by cases h) (by kernel_rfl) (fun _ h => by cases h) foldClosedUpto_row_tie rfl ⟨rfl, rfl⟩ (by kernel_rfl) rfl plain (by kernel_rfl)
end foldClosed
end Go.Proofs.YtcpjflgiimjfmaaDoor.XC
namespace Go.Proofs.YtcpjflgiimjfmaaDoor
/-- FoldClosed: the statement, for the claim. -/
theorem foldClosedUpto_holds : Rows.FoldClosedUptoCardSaid := XC.foldClosed.card
#print axioms foldClosedUpto_holds
end Go.Proofs.YtcpjflgiimjfmaaDoor
