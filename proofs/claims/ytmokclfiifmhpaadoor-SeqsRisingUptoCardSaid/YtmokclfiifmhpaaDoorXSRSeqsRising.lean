/- The row and the card of SeqsRising: for every input within the form's bound the law returns true; each argument reads behind the call as it read before; the listed variables hold what the program's text lays. -/
import Derived.Test.YtmokclfiifmhpaaDoorCards
import Derived.Test.YtmokclfiifmhpaaDoorTie
import Derived.Test.YtmokclfiifmhpaaDoorXS10
import Derived.Test.YtmokclfiifmhpaaDoorXSPSeqsRising
import Derived.Test.YtmokclfiifmhpaaDoorXLibOpen
import Derived.Test.YtmokclfiifmhpaaDoorXLibLaid
import Derived.WalkKit
import Derived.ProofKit
import Derived.OpenShut
import Derived.ShutString
import Derived.ChangeOld
import Derived.Below
import Derived.SizedLaws
import Derived.Deep.DeepHandedRow
import Derived.Lib.LaidTab
namespace Go.Proofs.YtmokclfiifmhpaaDoor.XS
open Go.ChangeShapes Go.WideShapes Go.ChangeAt Go.RowKit Go.Proofs.YtmokclfiifmhpaaDoorW.PrintWords
open Go.ChangeMaps (open_string shut_string)
namespace seqsRising
theorem own : ownKnob Tryd.prog.godebug = none := by kernel_rfl
theorem laidOut : laidOutB Tryd.prog = true := by kernel_rfl
def ok31 (x : S31) : Prop := ((Lit.int .i32 x.f0).wf = true) ∧ ((Lit.int .i32 x.f1).wf = true)
def mu31 (x : S31) : Nat := ((fun _ : Int => 1) x.f0 + (fun _ : Int => 1) x.f1) + 1
theorem open31 : XLib.Opens Tryd.prog 31 k31 ok31 mu31 :=
  XLib.Opens.struct (fun x : S31 => (x.f0, x.f1)) (fun y => ⟨y.1, y.2⟩) (fun _ => rfl) Tryd.underlying31 (by kernel_rfl) (XLib.OpensF.cons rfl (XLib.Opens.int Tryd.underlying21 (by kernel_rfl)) (XLib.OpensF.one rfl (XLib.Opens.int Tryd.underlying21 (by kernel_rfl))))
set_option maxRecDepth 100000 in
theorem gok {W : World} (h : laidMetH Tryd.prog Rows.seqsRisingUptoRow.laid W) : GOK W := by
  have h0 : laidMet Tryd.prog Rows.seqsRisingUptoRow.laid W := h
  have a0 := XLib.pairs_of_head (k := .i32) (zs := [(0, 55295), (57344, 1114111), (1114240, 1114367)]) (by kernel_rfl : Tryd.prog.globalNamed "thistle/sets.bands" = some 2) (by kernel_rfl : (Tryd.prog.globals[2]?).map (·.type) = some 65) Tryd.underlying65 (by kernel_rfl) Tryd.underlying31 (by kernel_rfl) Tryd.underlying21 (by kernel_rfl) rfl rfl rfl rfl h0
  have a1 := XLib.nums_of_head (k := .i32) (zs := [127, 2047, 65535, 1114111]) (by kernel_rfl : Tryd.prog.globalNamed "thistle/seqs.tops" = some 0) (by kernel_rfl : (Tryd.prog.globals[0]?).map (·.type) = some 52) Tryd.underlying52 Tryd.underlying21 (by kernel_rfl) (by kernel_rfl) h0.tail
  have a2 := XLib.nums_of_head (k := .i32) (zs := [0, 192, 224, 240]) (by kernel_rfl : Tryd.prog.globalNamed "thistle/seqs.heads" = some 1) (by kernel_rfl : (Tryd.prog.globals[1]?).map (·.type) = some 52) Tryd.underlying52 Tryd.underlying21 (by kernel_rfl) (by kernel_rfl) h0.tail.tail
  exact ⟨trivial, a0, a1, a2⟩
set_option maxRecDepth 100000 in
theorem contract (H : Type) (enc : TypeId × Value → H) (W : World) (base : Nat) (args : Array Value) (ds gs : List (DataW H)) (before : List MemPlace)
    (hval0 : ∀ (j : Nat) t v, Tryd.f3.params[j]? = some t → args[j]? = some v → Value.okWide Tryd.prog W .any base t v)
    (hW : DataW.Whole enc Tryd.prog Tryd.f3.params.toList Rows.seqsRisingSpec.vars false W args.toList ds gs before) (hcond : (∀ k, (Rows.OpenSpec.upto Rows.seqsRisingSpec).cond = some k → k H (ds ++ gs) = true)) (hL : laidMetH Tryd.prog Rows.seqsRisingUptoRow.laid W) :
    Calls Tryd.prog 3 args W fun e W' => ∃ v, e = .returned v ∧ Rows.seqsRisingSpec.post enc Tryd.prog Tryd.f3 false true false false W args v W' := by
  have hval : ∀ (j : Nat) t v, Tryd.f3.params[j]? = some t → args[j]? = some v → Value.okWide Tryd.prog W .any base t v := hval0
  have hW' := hW
  obtain ⟨p, q, hA0, hV, rfl, hfz, hnd⟩ := hW
  have hA : DataW.TrodAll enc Tryd.prog W 0 (fun _ => true) true Tryd.f3.params.toList args.toList ds p := hA0
  rw [Tryd.params3] at hA hval
  obtain ⟨v0, vs0, d0, ds0, p0, q0, hargs, rfl, rfl, h0, r0⟩ := trodAll_cons hA
  obtain ⟨rfl, rfl, rfl⟩ := trodAll_nil r0
  obtain rfl : args = #[v0] := by cases args; simp_all
  obtain ⟨rfl, rfl⟩ := trodVars_none hV
  have k0_ := h0
  have lt0 : ∀ x ∈ p0, x.block < W.heap.size := by obtain ⟨m, hm⟩ := k0_; exact DataW.trod_lt m _ _ _ hm
  obtain ⟨fuel0, ho0⟩ := h0
  obtain ⟨x0, hK0, hok0, hmu0⟩ := XLib.Opens.op (XLib.Opens.slice Tryd.underlying22 (by kernel_rfl) open31) ho0
  obtain ⟨A0, len0, c0, rfl⟩ := okWide_slice Tryd.underlying22 (hval 0 22 v0 rfl rfl)
  obtain ⟨A'0, c'0, e0, hc0, hr0⟩ := hK0
  obtain ⟨rfl, rfl, rfl⟩ : A0 = A'0 ∧ len0 = x0.length ∧ c0 = c'0 := by simpa [Value.cells] using e0
  have hbulk : Rows.uptoBulkAll ([d0] : List (DataW H)) ≤ 1048576 := by have hk := hcond _ rfl; simpa [Rows.uptoSmall] using hk
  have hsum : (fun l : List (S31) => XLib.sumMu mu31 l + 1) x0 ≤ 1048576 := by simp only [Rows.uptoBulkAll] at hbulk; dsimp only; omega
  clear hA0 hval0
  obtain ⟨k, hk⟩ := pure_SeqsRising x0 hok0 hsum
  refine (thistlelaw05_SeqsRising.calls k _ _ x0 true W hr0 hc0 hk (gok hL)).mono fun e W' ⟨he, bel⟩ => ?_
  subst he
  exact ⟨_, rfl, _, _, _, [], _, [], hW', trodAll_mk1 (shut_bool Tryd.underlying4 _), (trodAll_cons_mk (Below.trod laidOut (by kernel_rfl) (of_decide_eq_true (by kernel_rfl)) k0_ bel lt0) trodAll_mk0), rfl, bel.frame _, fun h => by cases h⟩
noncomputable def laidWorld (os : Os) : World := { World.holding Tryd.prog os ⟨#[], #[], []⟩ with heap := ((((World.holding Tryd.prog os ⟨#[], #[], []⟩).heap).modify 2 fun | .cells _ t frozen => .cells G_sets_bands.toArray t frozen | o => o).modify 0 fun | .cells _ t frozen => .cells G_seqs_tops.toArray t frozen | o => o).modify 1 fun | .cells _ t frozen => .cells G_seqs_heads.toArray t frozen | o => o }
set_option maxRecDepth 100000 in
theorem laid_met (os : Os) : laidMet Tryd.prog Rows.seqsRisingUptoRow.laid ((laidWorld os).forCall (fun _ _ => 0) ⟨#[], #[.slice none 0 0], []⟩).memory := laidMet_of_run' 8 (by kernel_rfl) (by kernel_rfl)
theorem reads (os : Os) {H : Type} (enc : TypeId × Value → H) : ∃ places, DataW.whole enc Tryd.prog ((laidWorld os).forCall (fun _ _ => 0) ⟨#[], #[.slice none 0 0], []⟩).memory Tryd.f3.params.toList Rows.seqsRisingSpec.vars false (#[.slice none 0 0]).toList 8 = some ([.nil], [], places) := ⟨[], by kernel_rfl⟩
set_option maxRecDepth 100000 in
theorem lifted (os : Os) (started : os.Started) (H : Type) (enc : TypeId × Value → H) (F : Stop.Interp) :
    ReturnsInHanded {} Tryd.checked os 3 .any ((Rows.OpenSpec.upto Rows.seqsRisingSpec).preRow enc Tryd.prog Tryd.f3 Rows.seqsRisingUptoRow.domain false Rows.seqsRisingUptoRow.laid) (((Rows.OpenSpec.upto Rows.seqsRisingSpec).at F).post enc Tryd.prog Tryd.f3 false true false false) := by
  obtain ⟨places, hx⟩ := reads os enc
  refine returnsInHanded_of_row (C := Tryd.checked) (s := (Rows.OpenSpec.upto Rows.seqsRisingSpec)) own started (by kernel_rfl) Tryd.func3
    (witness_row_at (enc := enc) (C := Tryd.checked) false (laidWorld os) #[.slice none 0 0] rfl (by kernel_rfl) (by kernel_rfl) (by kernel_rfl)
      (OpenSpec.preRow_of_cond 8 hx (by kernel_rfl) (fun k hk => by cases hk; kernel_rfl) (by kernel_rfl) (laid_met os))) ?_
  intro W base args ds gs before hval hW _ hcond _ hL _ _
  exact contract H enc W base args ds gs before hval hW hcond hL
theorem said : Rows.SeqsRisingUptoSaid :=
  OpenClaim.holds_of_cond 3 Tryd.f3 rfl rfl rfl rfl rfl rfl rfl ⟨rfl, rfl, rfl, rfl, rfl⟩ rfl rfl rfl rfl rfl (by kernel_rfl) Tryd.func3 (by kernel_rfl)
    (of_decide_eq_true (by kernel_rfl)) (by unfold Func.isWrapper; first | (rw [if_pos (by decide +kernel)]; kernel_rfl) | (rw [if_neg (by decide +kernel)]; exact ⟨rfl, rfl⟩))
    (fun os started H enc _ F => by rw [OpenClaim.pre_eq_preRow]; exact lifted os started H enc F)
theorem plain (f : FuncId) (fn : Func) (hf : Tryd.pinned.checked.prog.funcNamed "thistle/thistlelaw05.SeqsRising" = some f) (hfn : Tryd.pinned.checked.prog.funcs[f]? = some fn) :
    false = Tryd.pinned.checked.prog.looks [] ∧ ∀ (j : Nat) t, fn.params[j]? = some t → Tryd.pinned.checked.prog.wantsStandIn t = false := by
  obtain rfl : f = 3 := Option.some.inj ((show Tryd.prog.funcNamed "thistle/thistlelaw05.SeqsRising" = some 3 by kernel_rfl).symm.trans hf) |>.symm
  obtain rfl : fn = Tryd.f3 := (Option.some.inj (Tryd.func3.symm.trans hfn)).symm
  refine ⟨by kernel_rfl, fun j t ht => ?_⟩
  rw [Tryd.params3] at ht
  have hm := Array.mem_of_getElem? ht
  simp only [List.mem_toArray, List.mem_cons, List.not_mem_nil, or_false] at hm
  rcases hm with rfl
  · exact (show Tryd.prog.wantsStandIn 22 = false by kernel_rfl)
theorem card : Rows.SeqsRisingUptoCardSaid :=
  Claim7.holds_tied_plain_at .later [] _ _ _ _ said (fun _ h => by cases h) (by kernel_rfl) (fun _ h => by cases h) seqsRisingUpto_row_tie rfl ⟨rfl, rfl⟩ (by kernel_rfl) rfl plain (by kernel_rfl)
end seqsRising
end Go.Proofs.YtmokclfiifmhpaaDoor.XS
namespace Go.Proofs.YtmokclfiifmhpaaDoor
/-- SeqsRising: the statement, for the claim. -/
theorem seqsRisingUpto_holds : Rows.SeqsRisingUptoCardSaid := XS.seqsRising.card
#print axioms seqsRisingUpto_holds
end Go.Proofs.YtmokclfiifmhpaaDoor
