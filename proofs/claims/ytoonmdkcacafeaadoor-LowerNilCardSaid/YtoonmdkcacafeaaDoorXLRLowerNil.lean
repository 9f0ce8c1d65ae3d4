/- The row and the card of LowerNil: for every input the law returns true; each argument reads behind the call as it read before; the listed variables hold what the program's text lays. -/
import Derived.Test.YtoonmdkcacafeaaDoorCards
import Derived.Test.YtoonmdkcacafeaaDoorTie
import Derived.Test.YtoonmdkcacafeaaDoorXLPLowE
import Derived.Test.YtoonmdkcacafeaaDoorXLPLowerNil
import Derived.Test.YtoonmdkcacafeaaDoorXLibOpen
import Derived.Test.YtoonmdkcacafeaaDoorXLibLaid
import Derived.WalkKit
import Derived.ProofKit
import Derived.OpenShut
import Derived.ShutString
import Derived.ChangeOld
import Derived.Below
import Derived.SizedLaws
import Derived.Deep.DeepHandedRow
import Derived.Lib.LaidTab
namespace Go.Proofs.YtoonmdkcacafeaaDoor.XL
open Go.ChangeShapes Go.WideShapes Go.ChangeAt Go.RowKit Go.Proofs.YtoonmdkcacafeaaDoorW.PrintWords
open Go.ChangeMaps (open_string shut_string)
namespace lowerNil
theorem own : ownKnob Tryd.prog.godebug = none := by kernel_rfl
theorem laidOut : laidOutB Tryd.prog = true := by kernel_rfl
set_option maxRecDepth 100000 in
theorem gok {W : World} (h : laidMetH Tryd.prog Rows.lowerNilRow.laid W) : GOK W := by
  have h0 : laidMet Tryd.prog Rows.lowerNilRow.laid W := h
  have a0 := XLib.pairs_of_head (k := .u8) (zs := [(128, 191), (160, 191), (128, 159), (144, 191), (128, 143), (0, 0), (0, 0), (0, 0), (0, 0), (0, 0), (0, 0), (0, 0), (0, 0), (0, 0), (0, 0), (0, 0)]) (by kernel_rfl : Tryd.prog.globalNamed "unicode/utf8.acceptRanges" = some 3) (by kernel_rfl : (Tryd.prog.globals[3]?).map (·.type) = some 128) Tryd.underlying128 (by kernel_rfl) Tryd.underlying127 (by kernel_rfl) Tryd.underlying5 (by kernel_rfl) rfl rfl rfl rfl h0
  have a1 := XLib.nums_of_head (k := .u8) (zs := (Go.Pinned.utf8FirstZ.map fun (z : Nat) => (z : Int))) (by kernel_rfl : Tryd.prog.globalNamed "unicode/utf8.first" = some 2) (by kernel_rfl : (Tryd.prog.globals[2]?).map (·.type) = some 125) Tryd.underlying125 Tryd.underlying5 (by kernel_rfl) (by kernel_rfl) h0.tail
  exact ⟨trivial, a0, (fun j v hj => a1 j v (by have h2 := hj; unfold G_utf8_first at h2; rw [List.map_map]; exact h2))⟩
set_option maxRecDepth 100000 in
theorem contract (H : Type) (enc : TypeId × Value → H) (W : World) (base : Nat) (args : Array Value) (ds gs : List (DataW H)) (before : List MemPlace)
    (hval0 : ∀ (j : Nat) t v, Tryd.f5.params[j]? = some t → args[j]? = some v → Value.okWide Tryd.prog W .any base t v)
    (hW : DataW.Whole enc Tryd.prog Tryd.f5.params.toList Rows.lowerNilSpec.vars false W args.toList ds gs before) (hcond : (∀ k, (OpenSpec.ofChange Rows.lowerNilSpec).cond = some k → k H (ds ++ gs) = true)) (hL : laidMetH Tryd.prog Rows.lowerNilRow.laid W) :
    Calls Tryd.prog 5 args W fun e W' => ∃ v, e = .returned v ∧ Rows.lowerNilSpec.post enc Tryd.prog Tryd.f5 false true false false W args v W' := by
  have hval : ∀ (j : Nat) t v, Tryd.f5.params[j]? = some t → args[j]? = some v → Value.okWide Tryd.prog W .any base t v := hval0
  have hW' := hW
  obtain ⟨p, q, hA0, hV, rfl, hfz, hnd⟩ := hW
  have hA : DataW.TrodAll enc Tryd.prog W 0 (fun _ => true) true Tryd.f5.params.toList args.toList ds p := hA0
  rw [Tryd.params5] at hA hval
  obtain ⟨rfl, rfl, rfl⟩ := trodAll_none hA
  obtain ⟨rfl, rfl⟩ := trodVars_none hV
  clear hA0 hval0
  obtain ⟨k, hk⟩ := pure_LowerNil  
  refine (thistlelaw16_LowerNil.calls k  true W  hk (gok hL)).mono fun e W' ⟨he, bel⟩ => ?_
  subst he
  exact ⟨_, rfl, _, _, _, [], _, [], hW', trodAll_mk1 (shut_bool Tryd.underlying4 _), trodAll_mk0, rfl, bel.frame _, fun h => by cases h⟩
noncomputable def laidWorld (os : Os) : World := { World.holding Tryd.prog os ⟨#[], #[], []⟩ with heap := (((World.holding Tryd.prog os ⟨#[], #[], []⟩).heap).modify 3 fun | .cells _ t frozen => .cells G_utf8_acceptRanges.toArray t frozen | o => o).modify 2 fun | .cells _ t frozen => .cells G_utf8_first.toArray t frozen | o => o }
set_option maxRecDepth 100000 in
theorem laid_met (os : Os) : laidMet Tryd.prog Rows.lowerNilRow.laid ((laidWorld os).forCall (fun _ _ => 0) ⟨#[], (#[] : Array Value), []⟩).memory := laidMet_of_run' 8 (by kernel_rfl) (by kernel_rfl)
theorem reads (os : Os) {H : Type} (enc : TypeId × Value → H) : ∃ places, DataW.whole enc Tryd.prog ((laidWorld os).forCall (fun _ _ => 0) ⟨#[], (#[] : Array Value), []⟩).memory Tryd.f5.params.toList Rows.lowerNilSpec.vars false (#[] : Array Value).toList 8 = some ([], [], places) := ⟨[], by kernel_rfl⟩
set_option maxRecDepth 100000 in
theorem lifted (os : Os) (started : os.Started) (H : Type) (enc : TypeId × Value → H) (F : Stop.Interp) :
    ReturnsInHanded {} Tryd.checked os 5 .any ((OpenSpec.ofChange Rows.lowerNilSpec).preRow enc Tryd.prog Tryd.f5 Rows.lowerNilRow.domain false Rows.lowerNilRow.laid) (((OpenSpec.ofChange Rows.lowerNilSpec).at F).post enc Tryd.prog Tryd.f5 false true false false) := by
  obtain ⟨places, hx⟩ := reads os enc
  refine returnsInHanded_of_row (C := Tryd.checked) (s := (OpenSpec.ofChange Rows.lowerNilSpec)) own started (by kernel_rfl) Tryd.func5
    (witness_row_at (enc := enc) (C := Tryd.checked) false (laidWorld os) (#[] : Array Value) rfl (by kernel_rfl) (by kernel_rfl) (by kernel_rfl)
      (OpenSpec.preRow_of_cond 8 hx (by kernel_rfl) (fun k hk => by cases hk) (by kernel_rfl) (laid_met os))) ?_
  intro W base args ds gs before hval hW _ hcond _ hL _ _
  exact contract H enc W base args ds gs before hval hW hcond hL
theorem said : Rows.LowerNilSaid :=
  OpenClaim.holds_of_cond 5 Tryd.f5 rfl rfl rfl rfl rfl rfl rfl ⟨rfl, rfl, rfl, rfl, rfl⟩ rfl rfl rfl rfl rfl (by kernel_rfl) Tryd.func5 (by kernel_rfl)
    (of_decide_eq_true (by kernel_rfl)) (by unfold Func.isWrapper; first | (rw [if_pos (by decide +kernel)]; kernel_rfl) | (rw [if_neg (by decide +kernel)]; exact ⟨rfl, rfl⟩))
    (fun os started H enc _ F => by rw [OpenClaim.pre_eq_preRow]; exact lifted os started H enc F)
theorem plain (f : FuncId) (fn : Func) (hf : Tryd.pinned.checked.prog.funcNamed "thistle/thistlelaw16.LowerNil" = some f) (hfn : Tryd.pinned.checked.prog.funcs[f]? = some fn) :
    false = Tryd.pinned.checked.prog.looks [] ∧ ∀ (j : Nat) t, fn.params[j]? = some t → Tryd.pinned.checked.prog.wantsStandIn t = false := by
  obtain rfl : f = 5 := Option.some.inj ((show Tryd.prog.funcNamed "thistle/thistlelaw16.LowerNil" = some 5 by kernel_rfl).symm.trans hf) |>.symm
  obtain rfl : fn = Tryd.f5 := (Option.some.inj (Tryd.func5.symm.trans hfn)).symm
  refine ⟨by kernel_rfl, fun j t ht => ?_⟩
  rw [Tryd.params5] at ht
  have hm := Array.mem_of_getElem? ht
  simp at hm
theorem card : Rows.LowerNilCardSaid :=
  Claim7.holds_tied_plain_at .later [] _ _ _ _ said (fun _ h => by cases h) (by kernel_rfl) (fun _ h => by cases h) lowerNil_row_tie rfl ⟨rfl, rfl⟩ (by kernel_rfl) rfl plain (by kernel_rfl)
end lowerNil
end Go.Proofs.YtoonmdkcacafeaaDoor.XL
namespace Go.Proofs.YtoonmdkcacafeaaDoor
/-- LowerNil: the statement, for the claim. -/
theorem lowerNil_holds : Rows.LowerNilCardSaid := XL.lowerNil.card
#print axioms lowerNil_holds
end Go.Proofs.YtoonmdkcacafeaaDoor
