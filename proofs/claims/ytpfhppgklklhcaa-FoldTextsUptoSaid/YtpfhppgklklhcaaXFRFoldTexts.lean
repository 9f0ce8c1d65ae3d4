/- The row of FoldTexts: for every input within the form's bound the law returns true; each argument reads behind the call as it read before. -/
import Derived.Test.YtpfhppgklklhcaaRows
import Derived.Test.YtpfhppgklklhcaaXF14
import Derived.Test.YtpfhppgklklhcaaXFPFoldTexts
import Derived.Test.YtpfhppgklklhcaaXLibOpen
import Derived.Test.YtpfhppgklklhcaaXLibLaid
import Derived.WalkKit
import Derived.ProofKit
import Derived.OpenShut
import Derived.ShutString
import Derived.ChangeOld
import Derived.Below
import Derived.SizedLaws
import Derived.Deep.DeepHandedRow
import Derived.Lib.LaidTab
namespace Go.Proofs.Ytpfhppgklklhcaa.XF
open Go.ChangeShapes Go.WideShapes Go.ChangeAt Go.RowKit Go.Proofs.YtpfhppgklklhcaaW.PrintWords
open Go.ChangeMaps (open_string shut_string)
namespace foldTexts
theorem own : ownKnob Try.prog.godebug = none := by kernel_rfl
theorem laidOut : laidOutB Try.prog = true := by kernel_rfl
set_option maxRecDepth 100000 in
theorem contract (H : Type) (enc : TypeId × Value → H) (W : World) (base : Nat) (args : Array Value) (ds gs : List (DataW H)) (before : List MemPlace)
    (hval0 : ∀ (j : Nat) t v, Try.f6.params[j]? = some t → args[j]? = some v → Value.okWide Try.prog W .any base t v)
    (hW : DataW.Whole enc Try.prog Try.f6.params.toList Rows.foldTextsSpec.vars false W args.toList ds gs before) (hcond : (∀ k, (Rows.OpenSpec.upto Rows.foldTextsSpec).cond = some k → k H (ds ++ gs) = true)) :
    Calls Try.prog 6 args W fun e W' => ∃ v, e = .returned v ∧ Rows.foldTextsSpec.post enc Try.prog Try.f6 false true false false W args v W' := by
  have hval : ∀ (j : Nat) t v, Try.f6.params[j]? = some t → args[j]? = some v → Value.okWide Try.prog W .any base t v := hval0
  have hW' := hW
  obtain ⟨p, q, hA0, hV, rfl, hfz, hnd⟩ := hW
  have hA : DataW.TrodAll enc Try.prog W 0 (fun _ => true) true Try.f6.params.toList args.toList ds p := hA0
  rw [Try.params6] at hA hval
  obtain ⟨v0, vs0, d0, ds0, p0, q0, hargs, rfl, rfl, h0, r0⟩ := trodAll_cons hA
  obtain ⟨v1, vs1, d1, ds1, p1, q1, rfl, rfl, rfl, h1, r1⟩ := trodAll_cons r0
  obtain ⟨rfl, rfl, rfl⟩ := trodAll_nil r1
  obtain rfl : args = #[v0, v1] := by cases args; simp_all
  obtain ⟨rfl, rfl⟩ := trodVars_none hV
  have k0_ := h0
  have lt0 : ∀ x ∈ p0, x.block < W.heap.size := by obtain ⟨m, hm⟩ := k0_; exact DataW.trod_lt m _ _ _ hm
  obtain ⟨fuel0, ho0⟩ := h0
  obtain ⟨x0, hK0, hok0, hmu0⟩ := XLib.Opens.op (XLib.Opens.string Try.underlying9 (by kernel_rfl)) ho0
  obtain ⟨z0, rfl⟩ := okWide_string Try.underlying9 (hval 0 9 v0 rfl rfl)
  obtain rfl : x0 = z0 := by have e : [Value.string z0] = [Value.string x0] := hK0; simpa [eq_comm] using e
  have k1_ := h1
  have lt1 : ∀ x ∈ p1, x.block < W.heap.size := by obtain ⟨m, hm⟩ := k1_; exact DataW.trod_lt m _ _ _ hm
  obtain ⟨fuel1, ho1⟩ := h1
  obtain ⟨x1, hK1, hok1, hmu1⟩ := XLib.Opens.op (XLib.Opens.string Try.underlying9 (by kernel_rfl)) ho1
  obtain ⟨z1, rfl⟩ := okWide_string Try.underlying9 (hval 1 9 v1 rfl rfl)
  obtain rfl : x1 = z1 := by have e : [Value.string z1] = [Value.string x1] := hK1; simpa [eq_comm] using e
  have hbulk : Rows.uptoBulkAll ([d0, d1] : List (DataW H)) ≤ 1048576 := by have hk := hcond _ rfl; simpa [Rows.uptoSmall] using hk
  have hsum : (fun x : ByteArray => x.size + 1) x0 + (fun x : ByteArray => x.size + 1) x1 ≤ 1048576 := by simp only [Rows.uptoBulkAll] at hbulk; dsimp only; omega
  clear hA0 hval0
  obtain ⟨k, hk⟩ := pure_FoldTexts x0 x1 hok0 hok1 hsum
  refine (thistlelaw03_FoldTexts.calls k x0 x1 true W  hk).mono fun e W' ⟨he, bel⟩ => ?_
  subst he
  exact ⟨_, rfl, _, _, _, [], _, [], hW', trodAll_mk1 (shut_bool Try.underlying4 _), (trodAll_cons_mk (Below.trod laidOut (by kernel_rfl) (of_decide_eq_true (by kernel_rfl)) k0_ bel lt0) (trodAll_cons_mk (Below.trod laidOut (by kernel_rfl) (of_decide_eq_true (by kernel_rfl)) k1_ bel lt1) trodAll_mk0)), rfl, bel.frame _, fun h => by cases h⟩
noncomputable def laidWorld (os : Os) : World := { World.holding Try.prog os ⟨#[], #[], []⟩ with heap := (World.holding Try.prog os ⟨#[], #[], []⟩).heap }
set_option maxRecDepth 100000 in
theorem laid_met (os : Os) : laidMet Try.prog Rows.foldTextsUptoRow.laid ((laidWorld os).forCall (fun _ _ => 0) ⟨#[], #[.string ByteArray.empty, .string ByteArray.empty], []⟩).memory := laidMet_of_run' 8 (by kernel_rfl) (by kernel_rfl)
theorem reads (os : Os) {H : Type} (enc : TypeId × Value → H) : ∃ places, DataW.whole enc Try.prog ((laidWorld os).forCall (fun _ _ => 0) ⟨#[], #[.string ByteArray.empty, .string ByteArray.empty], []⟩).memory Try.f6.params.toList Rows.foldTextsSpec.vars false (#[.string ByteArray.empty, .string ByteArray.empty]).toList 8 = some ([.lit (.string []), .lit (.string [])], [], places) := ⟨[], by kernel_rfl⟩
set_option maxRecDepth 100000 in
theorem lifted (os : Os) (started : os.Started) (H : Type) (enc : TypeId × Value → H) (F : Stop.Interp) :
    ReturnsInHanded {} Try.checked os 6 .any ((Rows.OpenSpec.upto Rows.foldTextsSpec).preRow enc Try.prog Try.f6 Rows.foldTextsUptoRow.domain false Rows.foldTextsUptoRow.laid) (((Rows.OpenSpec.upto Rows.foldTextsSpec).at F).post enc Try.prog Try.f6 false true false false) := by
  obtain ⟨places, hx⟩ := reads os enc
  refine returnsInHanded_of_row (C := Try.checked) (s := (Rows.OpenSpec.upto Rows.foldTextsSpec)) own started (by kernel_rfl) Try.func6
    (witness_row_at (enc := enc) (C := Try.checked) false (laidWorld os) #[.string ByteArray.empty, .string ByteArray.empty] rfl (by kernel_rfl) (by kernel_rfl) (by kernel_rfl)
      (OpenSpec.preRow_of_cond 8 hx (by kernel_rfl) (fun k hk => by cases hk; kernel_rfl) (by kernel_rfl) (laid_met os))) ?_
  intro W base args ds gs before hval hW _ hcond _ hL _ _
  exact contract H enc W base args ds gs before hval hW hcond
theorem said : Rows.FoldTextsUptoSaid :=
  OpenClaim.holds_of_cond 6 Try.f6 rfl rfl rfl rfl rfl rfl rfl ⟨rfl, rfl, rfl, rfl, rfl⟩ rfl rfl rfl rfl rfl (by kernel_rfl) Try.func6 (by kernel_rfl)
    (of_decide_eq_true (by kernel_rfl)) (by unfold Func.isWrapper; first | (rw [if_pos (by decide +kernel)]; kernel_rfl) | (rw [if_neg (by decide +kernel)]; exact ⟨rfl, rfl⟩))
    (fun os started H enc _ F => by rw [OpenClaim.pre_eq_preRow]; exact lifted os started H enc F)
end foldTexts
end Go.Proofs.Ytpfhppgklklhcaa.XF
namespace Go.Proofs.Ytpfhppgklklhcaa
/-- FoldTexts: the statement, for the claim. -/
theorem foldTextsUpto_holds : Rows.FoldTextsUptoSaid := XF.foldTexts.said
#print axioms foldTextsUpto_holds
end Go.Proofs.Ytpfhppgklklhcaa
