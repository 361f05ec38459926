/- What each Go function that these laws use answers: as a Lean function, with the proof that the machine's call comes to it. Written by a program of this session (xprint.py). -/
import Derived.Test.YtjcibgopebpkiaaXx0
import Derived.Test.YtjcibgopebpkiaaXx1
import Derived.Test.YtjcibgopebpkiaaXx2
import Derived.Test.YtjcibgopebpkiaaXx3
import Derived.Test.YtjcibgopebpkiaaXx4
import Derived.Test.YtjcibgopebpkiaaXx5
import Derived.Test.YtjcibgopebpkiaaXx6
namespace Go.Proofs.Ytjcibgopebpkiaa.X
open Go.RowKit Go.Proofs.YtjcibgopebpkiaaW.PrintWords Go.Proofs.YtjcibgopebpkiaaW.PrintLast Go.Proofs.YtjcibgopebpkiaaW.PrintMore
attribute [local go_sem] max2_int min2_int max_two min_two max_three min_three max_four min_four   -- for this text's walks alone
set_option linter.unusedVariables false
set_option linter.unusedSimpArgs false

end Go.Proofs.Ytjcibgopebpkiaa.X
