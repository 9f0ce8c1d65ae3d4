/- LowerDecodes in plain Lean: the script within the form's bound. -/
import Derived.Test.YtoonmdkcacafeaaDoorXLPLowH
import Derived.Test.YtoonmdkcacafeaaDoorXLibOpen
namespace Go.Proofs.YtoonmdkcacafeaaDoor.XL
theorem sumMu_len {α : Type} (mu : α → Nat) (hm : ∀ x, 1 ≤ mu x) : ∀ l : List α, l.length ≤ XLib.sumMu mu l
  | [] => Nat.zero_le _
  | x :: l => by
    have := sumMu_len mu hm l
    have := hm x
    rw [XLib.sumMu]
    simp only [List.length_cons]
    omega
theorem pure_LowerDecodes (xs : List S44) (h0 : xs.length ≤ maxLen ∧ ∀ x ∈ xs, (Lit.int .i64 x.f0).wf = true ∧ (Lit.int .i64 x.f1).wf = true ∧ (Lit.int .u8 x.f2).wf = true) (h : XLib.sumMu (fun x : S44 => (fun _ : Int => 1) x.f0 + ((fun _ : Int => 1) x.f1 + (fun _ : Int => 1) x.f2) + 1) xs + 1 ≤ 1048576) : ∃ k, thistlelaw16_LowerDecodes.f k xs = some true :=
  ⟨0, by
    have h5 : xs.length ≤ XLib.sumMu (fun x : S44 => (fun _ : Int => 1) x.f0 + ((fun _ : Int => 1) x.f1 + (fun _ : Int => 1) x.f2) + 1) xs := sumMu_len _ (fun x => Nat.le_add_left _ _) xs
    unfold thistlelaw16_LowerDecodes.f
    rw [if_pos ⟨by omega, fun x hx => by
      have h1 := (h0.2 x hx).2.2
      simp [Lit.wf, IntKind.min, IntKind.max, IntKind.signed, IntKind.bits] at h1
      omega⟩]⟩
end Go.Proofs.YtoonmdkcacafeaaDoor.XL
