/- LowerNil in plain Lean: the walk's answer is true. -/
import Derived.Test.YtoonmdkcacafeaaDoorXLPLowE
namespace Go.Proofs.YtoonmdkcacafeaaDoor.XL
theorem pure_LowerNil : ∃ k, thistlelaw16_LowerNil.f k = some true := ⟨0, rfl⟩
end Go.Proofs.YtoonmdkcacafeaaDoor.XL
