/- What each Go function that these laws use answers: as a Lean function, with the proof that the machine's call comes to it. Written by a program of this session (xprint.py). -/
import Derived.Test.YtogmfibilopppaaXx0
import Derived.Test.YtogmfibilopppaaXx1
namespace Go.Proofs.Ytogmfibilopppaa.X
open Go.RowKit Go.Proofs.YtogmfibilopppaaW.PrintWords Go.Proofs.YtogmfibilopppaaW.PrintLast Go.Proofs.YtogmfibilopppaaW.PrintMore
attribute [local go_sem] max2_int min2_int max_two min_two max_three min_three max_four min_four   -- for this text's walks alone
set_option linter.unusedVariables false
set_option linter.unusedSimpArgs false

end Go.Proofs.Ytogmfibilopppaa.X
