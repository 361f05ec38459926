/- RreCovers: the plain law. No condition. -/
import Derived.Test.YtkmfhfejogjnfaaRP3
import Derived.Test.YtkmfhfejogjnfaaXx49
namespace Go.Proofs.Ytkmfhfejogjnfaa.Pure
open Go.RowKit Go.Proofs.Ytkmfhfejogjnfaa.X Go.Proofs.YtkmfhfejogjnfaaW.PrintWords Go.Proofs.YtkmfhfejogjnfaaW.PrintLast
theorem RreCovers : miradorlaw17_RreCovers.Pure := Go.Proofs.Ytkmfhfejogjnfaa.RP.RreCovers_pure
end Go.Proofs.Ytkmfhfejogjnfaa.Pure
