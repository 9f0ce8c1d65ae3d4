/- WRITTEN BY A PROGRAM OF THIS SESSION (wip/tools/xprint.py, over the kit's printer): contracts of the functions that the seat's laws reach. -/
import Derived.Test.YthjobemnblakjaaDoorXN0
import Derived.Test.YthjobemnblakjaaDoorXN1
import Derived.Test.YthjobemnblakjaaDoorXN2
import Derived.Test.YthjobemnblakjaaDoorXN3
import Derived.Test.YthjobemnblakjaaDoorXN4
import Derived.Test.YthjobemnblakjaaDoorXN5
import Derived.Test.YthjobemnblakjaaDoorXN6
namespace Go.Proofs.YthjobemnblakjaaDoor.XN
open Go.RowKit Go.Proofs.YthjobemnblakjaaDoorW.PrintWords Go.Proofs.YthjobemnblakjaaDoorW.PrintLast Go.Proofs.YthjobemnblakjaaDoorW.PrintMore
attribute [local go_sem] max2_int min2_int max_two min_two max_three min_three max_four min_four   -- for this text's walks alone
set_option linter.unusedVariables false
set_option linter.unusedSimpArgs false

end Go.Proofs.YthjobemnblakjaaDoor.XN
