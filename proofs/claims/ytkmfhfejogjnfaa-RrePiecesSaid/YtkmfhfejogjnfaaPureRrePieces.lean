/- RrePieces: the plain law. No condition. -/
import Derived.Test.YtkmfhfejogjnfaaRP2
import Derived.Test.YtkmfhfejogjnfaaXx33
namespace Go.Proofs.Ytkmfhfejogjnfaa.Pure
open Go.RowKit Go.Proofs.Ytkmfhfejogjnfaa.X Go.Proofs.YtkmfhfejogjnfaaW.PrintWords Go.Proofs.YtkmfhfejogjnfaaW.PrintLast
theorem RrePieces : miradorlaw17_RrePieces.Pure := Go.Proofs.Ytkmfhfejogjnfaa.RP.RrePieces_pure
end Go.Proofs.Ytkmfhfejogjnfaa.Pure
