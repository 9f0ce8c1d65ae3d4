/- The row and the card of LowerUnits: for every input within the form's bound the law returns true; each argument reads behind the call as it read before; the listed variables hold what the program's text lays. -/
import Derived.Test.YtoonmdkcacafeaaDoorCards
import Derived.Test.YtoonmdkcacafeaaDoorTie
import Derived.Test.YtoonmdkcacafeaaDoorXLPLowU
import Derived.Test.YtoonmdkcacafeaaDoorXLPLowerUnits
import Derived.Test.YtoonmdkcacafeaaDoorXLibOpen
import Derived.Test.YtoonmdkcacafeaaDoorXLibLaid
import Derived.WalkKit
import Derived.ProofKit
import Derived.OpenShut
import Derived.ShutString
import Derived.ChangeOld
import Derived.Below
import Derived.SizedLaws
import Derived.Deep.DeepHandedRow
import Derived.Lib.LaidTab
namespace Go.Proofs.YtoonmdkcacafeaaDoor.XL
open Go.ChangeShapes Go.WideShapes Go.ChangeAt Go.RowKit Go.Proofs.YtoonmdkcacafeaaDoorW.PrintWords
open Go.ChangeMaps (open_string shut_string)
namespace lowerUnits
theorem own : ownKnob Tryd.prog.godebug = none := by kernel_rfl
theorem laidOut : laidOutB Tryd.prog = true := by kernel_rfl
set_option maxRecDepth 100000 in
theorem gok {W : World} (h : laidMetH Tryd.prog Rows.lowerUnitsUptoRow.laid W) : GOK W := by
  have h0 : laidMet Tryd.prog Rows.lowerUnitsUptoRow.laid W := h
  have a0 := XLib.pairs_of_head (k := .u8) (zs := [(128, 191), (160, 191), (128, 159), (144, 191), (128, 143), (0, 0), (0, 0), (0, 0), (0, 0), (0, 0), (0, 0), (0, 0), (0, 0), (0, 0), (0, 0), (0, 0)]) (by kernel_rfl : Tryd.prog.globalNamed "unicode/utf8.acceptRanges" = some 3) (by kernel_rfl : (Tryd.prog.globals[3]?).map (·.type) = some 128) Tryd.underlying128 (by kernel_rfl) Tryd.underlying127 (by kernel_rfl) Tryd.underlying5 (by kernel_rfl) rfl rfl rfl rfl h0
  have a1 := XLib.nums_of_head (k := .u8) (zs := (Go.Pinned.utf8FirstZ.map fun (z : Nat) => (z : Int))) (by kernel_rfl : Tryd.prog.globalNamed "unicode/utf8.first" = some 2) (by kernel_rfl : (Tryd.prog.globals[2]?).map (·.type) = some 125) Tryd.underlying125 Tryd.underlying5 (by kernel_rfl) (by kernel_rfl) h0.tail
  exact ⟨trivial, a0, (fun j v hj => a1 j v (by have h2 := hj; unfold G_utf8_first at h2; rw [List.map_map]; exact h2))⟩
set_option maxRecDepth 100000 in
theorem contract (H : Type) (enc : TypeId × Value → H) (W : World) (base : Nat) (args : Array Value) (ds gs : List (DataW H)) (before : List MemPlace)
    (hval0 : ∀ (j : Nat) t v, Tryd.f6.params[j]? = some t → args[j]? = some v → Value.okWide Tryd.prog W .any base t v)
    (hW : DataW.Whole enc Tryd.prog Tryd.f6.params.toList Rows.lowerUnitsSpec.vars false W args.toList ds gs before) (hcond : (∀ k, (Rows.OpenSpec.upto Rows.lowerUnitsSpec).cond = some k → k H (ds ++ gs) = true)) (hL : laidMetH Tryd.prog Rows.lowerUnitsUptoRow.laid W) :
    Calls Tryd.prog 6 args W fun e W' => ∃ v, e = .returned v ∧ Rows.lowerUnitsSpec.post enc Tryd.prog Tryd.f6 false true false false W args v W' := by
  have hval : ∀ (j : Nat) t v, Tryd.f6.params[j]? = some t → args[j]? = some v → Value.okWide Tryd.prog W .any base t v := hval0
  have hW' := hW
  obtain ⟨p, q, hA0, hV, rfl, hfz, hnd⟩ := hW
  have hA : DataW.TrodAll enc Tryd.prog W 0 (fun _ => true) true Tryd.f6.params.toList args.toList ds p := hA0
  rw [Tryd.params6] at hA hval
  obtain ⟨v0, vs0, d0, ds0, p0, q0, hargs, rfl, rfl, h0, r0⟩ := trodAll_cons hA
  obtain ⟨v1, vs1, d1, ds1, p1, q1, rfl, rfl, rfl, h1, r1⟩ := trodAll_cons r0
  obtain ⟨rfl, rfl, rfl⟩ := trodAll_nil r1
  obtain rfl : args = #[v0, v1] := by cases args; simp_all
  obtain ⟨rfl, rfl⟩ := trodVars_none hV
  have k0_ := h0
  have lt0 : ∀ x ∈ p0, x.block < W.heap.size := by obtain ⟨m, hm⟩ := k0_; exact DataW.trod_lt m _ _ _ hm
  obtain ⟨fuel0, ho0⟩ := h0
  obtain ⟨x0, hK0, hok0, hmu0⟩ := XLib.Opens.op (XLib.Opens.string Tryd.underlying9 (by kernel_rfl)) ho0
  obtain ⟨z0, rfl⟩ := okWide_string Tryd.underlying9 (hval 0 9 v0 rfl rfl)
  obtain rfl : x0 = z0 := by have e : [Value.string z0] = [Value.string x0] := hK0; simpa [eq_comm] using e
  have k1_ := h1
  have lt1 : ∀ x ∈ p1, x.block < W.heap.size := by obtain ⟨m, hm⟩ := k1_; exact DataW.trod_lt m _ _ _ hm
  obtain ⟨fuel1, ho1⟩ := h1
  obtain ⟨x1, hK1, hok1, hmu1⟩ := XLib.Opens.op (XLib.Opens.int Tryd.underlying5 (by kernel_rfl)) ho1
  obtain ⟨z1, rfl⟩ := okWide_int Tryd.underlying5 (hval 1 5 v1 rfl rfl)
  obtain rfl : x1 = z1 := by have e : [Value.int .u8 z1] = [Value.int .u8 x1] := hK1; simpa [eq_comm] using e
  have hbulk : Rows.uptoBulkAll ([d0, d1] : List (DataW H)) ≤ 1048576 := by have hk := hcond _ rfl; simpa [Rows.uptoSmall] using hk
  have hsum : (fun x : ByteArray => x.size + 1) x0 + (fun _ : Int => 1) x1 ≤ 1048576 := by simp only [Rows.uptoBulkAll] at hbulk; dsimp only; omega
  clear hA0 hval0
  obtain ⟨k, hk⟩ := pure_LowerUnits x0 x1 hok0 hok1 hsum
  refine (thistlelaw16_LowerUnits.calls k x0 x1 true W  hk (gok hL)).mono fun e W' ⟨he, bel⟩ => ?_
  subst he
  exact ⟨_, rfl, _, _, _, [], _, [], hW', trodAll_mk1 (shut_bool Tryd.underlying4 _), (trodAll_cons_mk (Below.trod laidOut (by kernel_rfl) (of_decide_eq_true (by kernel_rfl)) k0_ bel lt0) (trodAll_cons_mk (Below.trod laidOut (by kernel_rfl) (of_decide_eq_true (by kernel_rfl)) k1_ bel lt1) trodAll_mk0)), rfl, bel.frame _, fun h => by cases h⟩
noncomputable def laidWorld (os : Os) : World := { World.holding Tryd.prog os ⟨#[], #[], []⟩ with heap := (((World.holding Tryd.prog os ⟨#[], #[], []⟩).heap).modify 3 fun | .cells _ t frozen => .cells G_utf8_acceptRanges.toArray t frozen | o => o).modify 2 fun | .cells _ t frozen => .cells G_utf8_first.toArray t frozen | o => o }
set_option maxRecDepth 100000 in
theorem laid_met (os : Os) : laidMet Tryd.prog Rows.lowerUnitsUptoRow.laid ((laidWorld os).forCall (fun _ _ => 0) ⟨#[], #[.string ByteArray.empty, .int .u8 0], []⟩).memory := laidMet_of_run' 8 (by kernel_rfl) (by kernel_rfl)
theorem reads (os : Os) {H : Type} (enc : TypeId × Value → H) : ∃ places, DataW.whole enc Tryd.prog ((laidWorld os).forCall (fun _ _ => 0) ⟨#[], #[.string ByteArray.empty, .int .u8 0], []⟩).memory Tryd.f6.params.toList Rows.lowerUnitsSpec.vars false (#[.string ByteArray.empty, .int .u8 0]).toList 8 = some ([.lit (.string []), .lit (.int .u8 0)], [], places) := ⟨[], by kernel_rfl⟩
set_option maxRecDepth 100000 in
theorem lifted (os : Os) (started : os.Started) (H : Type) (enc : TypeId × Value → H) (F : Stop.Interp) :
    ReturnsInHanded {} Tryd.checked os 6 .any ((Rows.OpenSpec.upto Rows.lowerUnitsSpec).preRow enc Tryd.prog Tryd.f6 Rows.lowerUnitsUptoRow.domain false Rows.lowerUnitsUptoRow.laid) (((Rows.OpenSpec.upto Rows.lowerUnitsSpec).at F).post enc Tryd.prog Tryd.f6 false true false false) := by
  obtain ⟨places, hx⟩ := reads os enc
  refine returnsInHanded_of_row (C := Tryd.checked) (s := (Rows.OpenSpec.upto Rows.lowerUnitsSpec)) own started (by kernel_rfl) Tryd.func6
    (witness_row_at (enc := enc) (C := Tryd.checked) false (laidWorld os) #[.string ByteArray.empty, .int .u8 0] rfl (by kernel_rfl) (by kernel_rfl) (by kernel_rfl)
      (OpenSpec.preRow_of_cond 8 hx (by kernel_rfl) (fun k hk => by cases hk; kernel_rfl) (by kernel_rfl) (laid_met os))) ?_
  intro W base args ds gs before hval hW _ hcond _ hL _ _
  exact contract H enc W base args ds gs before hval hW hcond hL
theorem said : Rows.LowerUnitsUptoSaid :=
  OpenClaim.holds_of_cond 6 Tryd.f6 rfl rfl rfl rfl rfl rfl rfl ⟨rfl, rfl, rfl, rfl, rfl⟩ rfl rfl rfl rfl rfl (by kernel_rfl) Tryd.func6 (by kernel_rfl)
    (of_decide_eq_true (by kernel_rfl)) (by unfold Func.isWrapper; first | (rw [if_pos (by decide +kernel)]; kernel_rfl) | (rw [if_neg (by decide +kernel)]; exact ⟨rfl, rfl⟩))
    (fun os started H enc _ F => by rw [OpenClaim.pre_eq_preRow]; exact lifted os started H enc F)
theorem plain (f : FuncId) (fn : Func) (hf : Tryd.pinned.checked.prog.funcNamed "thistle/thistlelaw16.LowerUnits" = some f) (hfn : Tryd.pinned.checked.prog.funcs[f]? = some fn) :
    false = Tryd.pinned.checked.prog.looks [] ∧ ∀ (j : Nat) t, fn.params[j]? = some t → Tryd.pinned.checked.prog.wantsStandIn t = false := by
  obtain rfl : f = 6 := Option.some.inj ((show Tryd.prog.funcNamed "thistle/thistlelaw16.LowerUnits" = some 6 by kernel_rfl).symm.trans hf) |>.symm
  obtain rfl : fn = Tryd.f6 := (Option.some.inj (Tryd.func6.symm.trans hfn)).symm
  refine ⟨by kernel_rfl, fun j t ht => ?_⟩
  rw [Tryd.params6] at ht
  have hm := Array.mem_of_getElem? ht
  simp only [List.mem_toArray, List.mem_cons, List.not_mem_nil, or_false] at hm
  rcases hm with rfl | rfl
  · exact (show Tryd.prog.wantsStandIn 9 = false by kernel_rfl)
  · exact (show Tryd.prog.wantsStandIn 5 = false by kernel_rfl)
theorem card : Rows.LowerUnitsUptoCardSaid :=
  Claim7.holds_tied_plain_at .later [] _ _ _ _ said (fun _ h => by cases h) (by kernel_rfl) (fun _ h => by cases h) lowerUnitsUpto_row_tie rfl ⟨rfl, rfl⟩ (by kernel_rfl) rfl plain (by kernel_rfl)
end lowerUnits
end Go.Proofs.YtoonmdkcacafeaaDoor.XL
namespace Go.Proofs.YtoonmdkcacafeaaDoor
/-- LowerUnits: the statement, for the claim. -/
theorem lowerUnitsUpto_holds : Rows.LowerUnitsUptoCardSaid := XL.lowerUnits.card
#print axioms lowerUnitsUpto_holds
end Go.Proofs.YtoonmdkcacafeaaDoor
