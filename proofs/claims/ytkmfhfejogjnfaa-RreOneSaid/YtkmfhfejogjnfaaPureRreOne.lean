/- RreOne: the plain law. No condition. -/
import Derived.Test.YtkmfhfejogjnfaaRP3
import Derived.Test.YtkmfhfejogjnfaaXx50
namespace Go.Proofs.Ytkmfhfejogjnfaa.Pure
open Go.RowKit Go.Proofs.Ytkmfhfejogjnfaa.X Go.Proofs.YtkmfhfejogjnfaaW.PrintWords Go.Proofs.YtkmfhfejogjnfaaW.PrintLast
theorem RreOne : miradorlaw17_RreOne.Pure := Go.Proofs.Ytkmfhfejogjnfaa.RP.RreOne_pure
end Go.Proofs.Ytkmfhfejogjnfaa.Pure
