import Derived.Test.YtpfhppgklklhcaaXF10
namespace Go.Proofs.Ytpfhppgklklhcaa.Pure
open Go.RowKit Go.Proofs.Ytpfhppgklklhcaa.XF Go.Proofs.YtpfhppgklklhcaaW.PrintWords Go.Proofs.YtpfhppgklklhcaaW.PrintLast

set_option maxRecDepth 1000000 in
theorem FoldRules : thistlelaw03_FoldRules.Pure := by
  exact ⟨300, by kernel_rfl⟩

end Go.Proofs.Ytpfhppgklklhcaa.Pure
