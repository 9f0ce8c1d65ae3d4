/- The row and the card of NamedKeeps: for every input the law returns true; each argument reads behind the call as it read before; the listed variables hold what the program's text lays. -/
import Derived.Test.YtpobhkniekcciaaDoorCards
import Derived.Test.YtpobhkniekcciaaDoorTie
import Derived.Test.YtpobhkniekcciaaDoorXNPNamedKeeps
import Derived.Test.YtpobhkniekcciaaDoorXNPNamedKeeps
import Derived.Test.YtpobhkniekcciaaDoorXLibOpen
import Derived.Test.YtpobhkniekcciaaDoorXLibLaid
import Derived.WalkKit
import Derived.ProofKit
import Derived.OpenShut
import Derived.ShutString
import Derived.ChangeOld
import Derived.Below
import Derived.SizedLaws
import Derived.Deep.DeepHandedRow
import Derived.Lib.LaidTab
namespace Go.Proofs.YtpobhkniekcciaaDoor.XN
open Go.ChangeShapes Go.WideShapes Go.ChangeAt Go.RowKit Go.Proofs.YtpobhkniekcciaaDoorW.PrintWords
open Go.ChangeMaps (open_string shut_string)
namespace namedKeeps
theorem own : ownKnob Tryd.prog.godebug = none := by kernel_rfl
theorem laidOut : laidOutB Tryd.prog = true := by kernel_rfl
set_option maxRecDepth 100000 in
theorem gok {W : World} (h : laidMetH Tryd.prog Rows.namedKeepsRow.laid W) : GOK W := by
  have h0 : laidMet Tryd.prog Rows.namedKeepsRow.laid W := h
  have a0 := XLib.pairs_of_head (k := .i32) (zs := [(0, 55295), (57344, 1114111), (1114240, 1114367)]) (by kernel_rfl : Tryd.prog.globalNamed "thistle/sets.bands" = some 0) (by kernel_rfl : (Tryd.prog.globals[0]?).map (·.type) = some 204) Tryd.underlying204 (by kernel_rfl) Tryd.underlying78 (by kernel_rfl) Tryd.underlying21 (by kernel_rfl) rfl rfl rfl rfl h0
  exact ⟨trivial, a0⟩
set_option maxRecDepth 100000 in
theorem contract (H : Type) (enc : TypeId × Value → H) (W : World) (base : Nat) (args : Array Value) (ds gs : List (DataW H)) (before : List MemPlace)
    (hval0 : ∀ (j : Nat) t v, Tryd.f8.params[j]? = some t → args[j]? = some v → Value.okWide Tryd.prog W .any base t v)
    (hW : DataW.Whole enc Tryd.prog Tryd.f8.params.toList Rows.namedKeepsSpec.vars false W args.toList ds gs before) (hcond : (∀ k, (OpenSpec.ofChange Rows.namedKeepsSpec).cond = some k → k H (ds ++ gs) = true)) (hL : laidMetH Tryd.prog Rows.namedKeepsRow.laid W) :
    Calls Tryd.prog 8 args W fun e W' => ∃ v, e = .returned v ∧ Rows.namedKeepsSpec.post enc Tryd.prog Tryd.f8 false true false false W args v W' := by
  have hval : ∀ (j : Nat) t v, Tryd.f8.params[j]? = some t → args[j]? = some v → Value.okWide Tryd.prog W .any base t v := hval0
  have hW' := hW
  obtain ⟨p, q, hA0, hV, rfl, hfz, hnd⟩ := hW
  have hA : DataW.TrodAll enc Tryd.prog W 0 (fun _ => true) true Tryd.f8.params.toList args.toList ds p := hA0
  rw [Tryd.params8] at hA hval
  obtain ⟨v0, vs0, d0, ds0, p0, q0, hargs, rfl, rfl, h0, r0⟩ := trodAll_cons hA
  obtain ⟨v1, vs1, d1, ds1, p1, q1, rfl, rfl, rfl, h1, r1⟩ := trodAll_cons r0
  obtain ⟨v2, vs2, d2, ds2, p2, q2, rfl, rfl, rfl, h2, r2⟩ := trodAll_cons r1
  obtain ⟨rfl, rfl, rfl⟩ := trodAll_nil r2
  obtain rfl : args = #[v0, v1, v2] := by cases args; simp_all
  obtain ⟨rfl, rfl⟩ := trodVars_none hV
  have k0_ := h0
  have lt0 : ∀ x ∈ p0, x.block < W.heap.size := by obtain ⟨m, hm⟩ := k0_; exact DataW.trod_lt m _ _ _ hm
  obtain ⟨fuel0, ho0⟩ := h0
  obtain ⟨x0, hK0, hok0, hmu0⟩ := XLib.Opens.op (XLib.Opens.string Tryd.underlying9 (by kernel_rfl)) ho0
  obtain ⟨z0, rfl⟩ := okWide_string Tryd.underlying9 (hval 0 9 v0 rfl rfl)
  obtain rfl : x0 = z0 := by have e : [Value.string z0] = [Value.string x0] := hK0; simpa [eq_comm] using e
  have k1_ := h1
  have lt1 : ∀ x ∈ p1, x.block < W.heap.size := by obtain ⟨m, hm⟩ := k1_; exact DataW.trod_lt m _ _ _ hm
  obtain ⟨fuel1, ho1⟩ := h1
  obtain ⟨x1, hK1, hok1, hmu1⟩ := XLib.Opens.op (XLib.Opens.int Tryd.underlying21 (by kernel_rfl)) ho1
  obtain ⟨z1, rfl⟩ := okWide_int Tryd.underlying21 (hval 1 21 v1 rfl rfl)
  obtain rfl : x1 = z1 := by have e : [Value.int .i32 z1] = [Value.int .i32 x1] := hK1; simpa [eq_comm] using e
  have k2_ := h2
  have lt2 : ∀ x ∈ p2, x.block < W.heap.size := by obtain ⟨m, hm⟩ := k2_; exact DataW.trod_lt m _ _ _ hm
  obtain ⟨fuel2, ho2⟩ := h2
  obtain ⟨x2, hK2, hok2, hmu2⟩ := XLib.Opens.op (XLib.Opens.int Tryd.underlying21 (by kernel_rfl)) ho2
  obtain ⟨z2, rfl⟩ := okWide_int Tryd.underlying21 (hval 2 21 v2 rfl rfl)
  obtain rfl : x2 = z2 := by have e : [Value.int .i32 z2] = [Value.int .i32 x2] := hK2; simpa [eq_comm] using e
  clear hA0 hval0
  obtain ⟨k, hk⟩ := pure_NamedKeeps x0 x1 x2 hok0 hok1 hok2
  refine (thistlelaw04_NamedKeeps.calls k x0 x1 x2 true W  hk (gok hL)).mono fun e W' ⟨he, bel⟩ => ?_
  subst he
  exact ⟨_, rfl, _, _, _, [], _, [], hW', trodAll_mk1 (shut_bool Tryd.underlying4 _), (trodAll_cons_mk (Below.trod laidOut (by kernel_rfl) (of_decide_eq_true (by kernel_rfl)) k0_ bel lt0) (trodAll_cons_mk (Below.trod laidOut (by kernel_rfl) (of_decide_eq_true (by kernel_rfl)) k1_ bel lt1) (trodAll_cons_mk (Below.trod laidOut (by kernel_rfl) (of_decide_eq_true (by kernel_rfl)) k2_ bel lt2) trodAll_mk0))), rfl, bel.frame _, fun h => by cases h⟩
noncomputable def laidWorld (os : Os) : World := { World.holding Tryd.prog os ⟨#[], #[], []⟩ with heap := ((World.holding Tryd.prog os ⟨#[], #[], []⟩).heap).modify 0 fun | .cells _ t frozen => .cells G_sets_bands.toArray t frozen | o => o }
set_option maxRecDepth 100000 in
theorem laid_met (os : Os) : laidMet Tryd.prog Rows.namedKeepsRow.laid ((laidWorld os).forCall (fun _ _ => 0) ⟨#[], #[.string ByteArray.empty, .int .i32 0, .int .i32 0], []⟩).memory := laidMet_of_run' 8 (by kernel_rfl) (by kernel_rfl)
theorem reads (os : Os) {H : Type} (enc : TypeId × Value → H) : ∃ places, DataW.whole enc Tryd.prog ((laidWorld os).forCall (fun _ _ => 0) ⟨#[], #[.string ByteArray.empty, .int .i32 0, .int .i32 0], []⟩).memory Tryd.f8.params.toList Rows.namedKeepsSpec.vars false (#[.string ByteArray.empty, .int .i32 0, .int .i32 0]).toList 8 = some ([.lit (.string []), .lit (.int .i32 0), .lit (.int .i32 0)], [], places) := ⟨[], by kernel_rfl⟩
set_option maxRecDepth 100000 in
theorem lifted (os : Os) (started : os.Started) (H : Type) (enc : TypeId × Value → H) (F : Stop.Interp) :
    ReturnsInHanded {} Tryd.checked os 8 .any ((OpenSpec.ofChange Rows.namedKeepsSpec).preRow enc Tryd.prog Tryd.f8 Rows.namedKeepsRow.domain false Rows.namedKeepsRow.laid) (((OpenSpec.ofChange Rows.namedKeepsSpec).at F).post enc Tryd.prog Tryd.f8 false true false false) := by
  obtain ⟨places, hx⟩ := reads os enc
  refine returnsInHanded_of_row (C := Tryd.checked) (s := (OpenSpec.ofChange Rows.namedKeepsSpec)) own started (by kernel_rfl) Tryd.func8
    (witness_row_at (enc := enc) (C := Tryd.checked) false (laidWorld os) #[.string ByteArray.empty, .int .i32 0, .int .i32 0] rfl (by kernel_rfl) (by kernel_rfl) (by kernel_rfl)
      (OpenSpec.preRow_of_cond 8 hx (by kernel_rfl) (fun k hk => by cases hk) (by kernel_rfl) (laid_met os))) ?_
  intro W base args ds gs before hval hW _ hcond _ hL _ _
  exact contract H enc W base args ds gs before hval hW hcond hL
theorem said : Rows.NamedKeepsSaid :=
  OpenClaim.holds_of_cond 8 Tryd.f8 rfl rfl rfl rfl rfl rfl rfl ⟨rfl, rfl, rfl, rfl, rfl⟩ rfl rfl rfl rfl rfl (by kernel_rfl) Tryd.func8 (by kernel_rfl)
    (of_decide_eq_true (by kernel_rfl)) (by unfold Func.isWrapper; first | (rw [if_pos (by decide +kernel)]; kernel_rfl) | (rw [if_neg (by decide +kernel)]; exact ⟨rfl, rfl⟩))
    (fun os started H enc _ F => by rw [OpenClaim.pre_eq_preRow]; exact lifted os started H enc F)
theorem plain (f : FuncId) (fn : Func) (hf : Tryd.pinned.checked.prog.funcNamed "thistle/thistlelaw04.NamedKeeps" = some f) (hfn : Tryd.pinned.checked.prog.funcs[f]? = some fn) :
    false = Tryd.pinned.checked.prog.looks [] ∧ ∀ (j : Nat) t, fn.params[j]? = some t → Tryd.pinned.checked.prog.wantsStandIn t = false := by
  obtain rfl : f = 8 := Option.some.inj ((show Tryd.prog.funcNamed "thistle/thistlelaw04.NamedKeeps" = some 8 by kernel_rfl).symm.trans hf) |>.symm
  obtain rfl : fn = Tryd.f8 := (Option.some.inj (Tryd.func8.symm.trans hfn)).symm
  refine ⟨by kernel_rfl, fun j t ht => ?_⟩
  rw [Tryd.params8] at ht
  have hm := Array.mem_of_getElem? ht
  simp only [List.mem_toArray, List.mem_cons, List.not_mem_nil, or_false] at hm
  rcases hm with rfl | rfl | rfl
  · exact (show Tryd.prog.wantsStandIn 9 = false by kernel_rfl)
  · exact (show Tryd.prog.wantsStandIn 21 = false by kernel_rfl)
  · exact (show Tryd.prog.wantsStandIn 21 = false by kernel_rfl)
theorem card : Rows.NamedKeepsCardSaid :=
  Claim7.holds_tied_plain_at .later [] _ _ _ _ said (fun _ h => by cases h) (by kernel_rfl) (fun _ h => by cases h) namedKeeps_row_tie rfl ⟨rfl, rfl⟩ (by kernel_rfl) rfl plain (by kernel_rfl)
end namedKeeps
end Go.Proofs.YtpobhkniekcciaaDoor.XN
namespace Go.Proofs.YtpobhkniekcciaaDoor
/-- NamedKeeps: the statement, for the claim. -/
theorem namedKeeps_holds : Rows.NamedKeepsCardSaid := XN.namedKeeps.card
#print axioms namedKeeps_holds
end Go.Proofs.YtpobhkniekcciaaDoor
