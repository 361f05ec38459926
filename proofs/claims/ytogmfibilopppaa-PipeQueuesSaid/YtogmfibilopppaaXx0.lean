/- What each Go function that these laws use answers: as a Lean function, with the proof that the machine's call comes to it. Written by a program of this session (xprint.py). -/
import Derived.Test.YtogmfibilopppaaProg
import Derived.Below
import Derived.Deep.Draws
import Derived.Deep.AppendLies
import Derived.Maps.AppendAt
import Derived.OwnWalk
import Derived.Laws.BytesArg
import Derived.Laws.MakeOwn
import Derived.Laws.OwnMore
import Derived.Deep.OwnRows
import Derived.Tactics
import Derived.Lib.ConvBytes
import Derived.Laws.Slices
import Derived.WalkKit
import Derived.KernelRfl
import Derived.RowKit3
import Derived.Deep.LoopGhost
import Derived.Deep.QuietTactic
import Derived.BigQuiet
import Derived.WideLaws
import Derived.Deep.DeepCutAuto
import Derived.Deep.CutBlock
import Derived.Deep.RegionHeld3
import Derived.Laws.Rows
import Derived.Lib.AppendStr
import Derived.ArgAppend
import Derived.Laws.IdiomCopy
import Derived.OrdersHeld
import Derived.Laws.BitsLemmas
import Derived.RowKit
import Derived.Sort.WalkB12
import Derived.Lib.SlicesMore
import Derived.Shelf.SlicesE.Kit
import Derived.Lib.OwnBridge
import Derived.RegionTactic
import Derived.Lib.Hide
import Derived.Test.YtogmfibilopppaaWWords
import Derived.Test.YtogmfibilopppaaWLast
import Derived.Test.YtogmfibilopppaaWTab
import Derived.Test.YtogmfibilopppaaWFour
import Derived.Test.YtogmfibilopppaaWQPut
import Derived.Test.YtogmfibilopppaaWApart
import Derived.Test.YtogmfibilopppaaWArr
import Derived.Test.YtogmfibilopppaaWZeros
import Derived.Test.YtogmfibilopppaaWFoot
import Derived.Test.YtogmfibilopppaaWKept
import Derived.Test.YtogmfibilopppaaWShare
import Derived.Test.YtogmfibilopppaaWN
import Derived.Test.YtogmfibilopppaaWFootNe
import Derived.Test.YtogmfibilopppaaWAt
import Derived.Test.YtogmfibilopppaaWEqStruct
import Derived.Test.YtogmfibilopppaaWRepsOne
import Derived.Test.YtogmfibilopppaaWInv
import Derived.Test.YtogmfibilopppaaWInvWords
import Derived.Test.YtogmfibilopppaaWGuard
import Derived.Test.YtogmfibilopppaaWNEv
import Derived.Test.YtogmfibilopppaaWMore
namespace Go.Proofs.Ytogmfibilopppaa.X
open Go.RowKit Go.Proofs.YtogmfibilopppaaW.PrintWords Go.Proofs.YtogmfibilopppaaW.PrintLast Go.Proofs.YtogmfibilopppaaW.PrintMore
attribute [local go_sem] max2_int min2_int max_two min_two max_three min_three max_four min_four   -- for this text's walks alone
set_option linter.unusedVariables false
set_option linter.unusedSimpArgs false



def errW : Option Int → Value
  | none => .nilIface
  | some c => .iface 0 (.int .i64 c)
theorem errW_none : errW none = .nilIface := rfl
theorem errW_some (c : Int) : errW (some c) = .iface 0 (.int .i64 c) := rfl

-- the values' own types

end Go.Proofs.Ytogmfibilopppaa.X
