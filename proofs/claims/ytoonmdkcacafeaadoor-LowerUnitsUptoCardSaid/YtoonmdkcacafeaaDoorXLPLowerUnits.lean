/- LowerUnits in plain Lean: the text within the form's bound. -/
import Derived.Test.YtoonmdkcacafeaaDoorXLPLowU
namespace Go.Proofs.YtoonmdkcacafeaaDoor.XL
theorem pure_LowerUnits (x0 : ByteArray) (x1 : Int) (h0 : x0.size ≤ maxLen) (h1 : (Lit.int .u8 x1).wf = true) (h : (x0.size + 1) + 1 ≤ 1048576) : ∃ k, thistlelaw16_LowerUnits.f k x0 x1 = some true :=
  ⟨0, by unfold thistlelaw16_LowerUnits.f; rw [if_pos (by omega)]⟩
end Go.Proofs.YtoonmdkcacafeaaDoor.XL
