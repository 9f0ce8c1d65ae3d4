import Derived.Test.YtpfhppgklklhcaaXFPFoldRings
namespace Go.Proofs.Ytpfhppgklklhcaa.Pure
open Go.Proofs.Ytpfhppgklklhcaa.XF
theorem FoldRings : thistlelaw03_FoldRings.Pure := foldRings_pure
end Go.Proofs.Ytpfhppgklklhcaa.Pure
