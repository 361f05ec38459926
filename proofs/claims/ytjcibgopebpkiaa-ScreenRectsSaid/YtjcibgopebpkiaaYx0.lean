/- What each Go function that these laws use answers: as a Lean function, with the proof that the machine's call comes to it. Written by a program of this session (xprint.py). -/
import Derived.Test.YtjcibgopebpkiaaProg
import Derived.Below
import Derived.Deep.Draws
import Derived.Deep.AppendLies
import Derived.Maps.AppendAt
import Derived.OwnWalk
import Derived.Laws.BytesArg
import Derived.Laws.MakeOwn
import Derived.Laws.OwnMore
import Derived.Deep.OwnRows
import Derived.Tactics
import Derived.Lib.ConvBytes
import Derived.Laws.Slices
import Derived.WalkKit
import Derived.KernelRfl
import Derived.RowKit3
import Derived.Deep.LoopGhost
import Derived.Deep.QuietTactic
import Derived.BigQuiet
import Derived.WideLaws
import Derived.Deep.DeepCutAuto
import Derived.Deep.CutBlock
import Derived.Deep.RegionHeld3
import Derived.Laws.Rows
import Derived.Lib.AppendStr
import Derived.ArgAppend
import Derived.Laws.IdiomCopy
import Derived.OrdersHeld
import Derived.Laws.BitsLemmas
import Derived.RowKit
import Derived.Test.YtjcibgopebpkiaaSCW
import Derived.Sort.WalkB12
import Derived.Lib.SlicesMore
import Derived.Shelf.SlicesE.Kit
import Derived.Lib.OwnBridge
import Derived.RegionTactic
import Derived.Lib.Hide
import Derived.Test.YtjcibgopebpkiaaWWords
import Derived.Test.YtjcibgopebpkiaaWLast
import Derived.Test.YtjcibgopebpkiaaWTab
import Derived.Test.YtjcibgopebpkiaaWFour
import Derived.Test.YtjcibgopebpkiaaWQPut
import Derived.Test.YtjcibgopebpkiaaWApart
import Derived.Test.YtjcibgopebpkiaaWArr
import Derived.Test.YtjcibgopebpkiaaWZeros
import Derived.Test.YtjcibgopebpkiaaWFoot
import Derived.Test.YtjcibgopebpkiaaWKept
import Derived.Test.YtjcibgopebpkiaaWShare
import Derived.Test.YtjcibgopebpkiaaWN
import Derived.Test.YtjcibgopebpkiaaWFootNe
import Derived.Test.YtjcibgopebpkiaaWAt
import Derived.Test.YtjcibgopebpkiaaWEqStruct
import Derived.Test.YtjcibgopebpkiaaWRepsOne
import Derived.Test.YtjcibgopebpkiaaWInv
import Derived.Test.YtjcibgopebpkiaaWInvWords
import Derived.Test.YtjcibgopebpkiaaWGuard
import Derived.Test.YtjcibgopebpkiaaWNEv
import Derived.Test.YtjcibgopebpkiaaWMore
namespace Go.Proofs.Ytjcibgopebpkiaa.Y
open Go.RowKit Go.Proofs.YtjcibgopebpkiaaW.PrintWords Go.Proofs.YtjcibgopebpkiaaW.PrintLast Go.Proofs.YtjcibgopebpkiaaW.PrintMore
attribute [local go_sem] max2_int min2_int max_two min_two max_three min_three max_four min_four   -- for this text's walks alone
set_option linter.unusedVariables false
set_option linter.unusedSimpArgs false



def errW : Option Int → Value
  | none => .nilIface
  | some c => .iface 0 (.int .i64 c)
theorem errW_none : errW none = .nilIface := rfl
theorem errW_some (c : Int) : errW (some c) = .iface 0 (.int .i64 c) := rfl

theorem info3 : (Try.prog.info? 3).map (fun i => (i.zero, i.size, i.bytes)) = some (some (.int .i64 0), 1, 8) := by kernel_rfl
-- the values' own types

end Go.Proofs.Ytjcibgopebpkiaa.Y
