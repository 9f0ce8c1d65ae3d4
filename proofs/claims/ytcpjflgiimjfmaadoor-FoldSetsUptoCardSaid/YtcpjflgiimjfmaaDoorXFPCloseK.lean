/- Kernel counts for fold.Close: both orbits of each named number, and that the document names the same numbers in the same order. -/
import Derived.Test.YtcpjflgiimjfmaaDoorXF16
import Derived.Test.YtcpjflgiimjfmaaDoorXF4
import Derived.Test.YtcpjflgiimjfmaaDoorXF8
import Derived.Test.YtcpjflgiimjfmaaDoorXF7
import Derived.Test.YtcpjflgiimjfmaaDoorXF7
namespace Go.Proofs.YtcpjflgiimjfmaaDoor.XF
open Go.RowKit Go.Proofs.YtcpjflgiimjfmaaDoorW.PrintWords Go.Proofs.YtcpjflgiimjfmaaDoorW.PrintLast Go.Proofs.YtcpjflgiimjfmaaDoorW.PrintMore
set_option linter.unusedVariables false
set_option linter.unusedSimpArgs false
namespace FSets
def U : List Int := FC.unitsFrom 0
def orb (u : Int) : List Int := (fold_Orbit.f 70 u).getD []
def okU (u : Int) : Bool := match fold_Orbit.f 70 u, thistleref03_Orbit.f 70 u with
 | some o, some o' => o == o' && (decide (o.length ≤ 3) && o.all fun x => decide (0 ≤ x) && decide (x ≤ 1114367))
 | _, _ => false
def namedB : Bool := match thistleref03_Named.f 500 with
 | some l => l == U && decide (U.length ≤ 2000)
 | none => false
set_option maxRecDepth 100000 in
theorem named_b : namedB = true := by kernel_rfl
set_option maxRecDepth 100000 in
theorem u_all1 : (U.take 340).all okU = true := by kernel_rfl
set_option maxRecDepth 100000 in
theorem u_all2 : (U.drop 340).all okU = true := by kernel_rfl
end FSets
end Go.Proofs.YtcpjflgiimjfmaaDoor.XF
