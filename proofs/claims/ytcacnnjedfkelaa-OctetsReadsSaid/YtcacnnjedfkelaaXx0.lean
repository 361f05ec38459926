/- What each Go function that these laws use answers: as a Lean function, with the proof that the machine's call comes to it. Written by a program of this session (xprint.py). -/
import Derived.Test.YtcacnnjedfkelaaProg
import Derived.Below
import Derived.Deep.Draws
import Derived.Deep.AppendLies
import Derived.Maps.AppendAt
import Derived.OwnWalk
import Derived.Laws.BytesArg
import Derived.Laws.MakeOwn
import Derived.Laws.OwnMore
import Derived.Deep.OwnRows
import Derived.Tactics
import Derived.Lib.ConvBytes
import Derived.Laws.Slices
import Derived.WalkKit
import Derived.KernelRfl
import Derived.RowKit3
import Derived.Deep.LoopGhost
import Derived.Deep.QuietTactic
import Derived.BigQuiet
import Derived.WideLaws
import Derived.Deep.DeepCutAuto
import Derived.Deep.CutBlock
import Derived.Deep.RegionHeld3
import Derived.Laws.Rows
import Derived.Lib.AppendStr
import Derived.ArgAppend
import Derived.Laws.IdiomCopy
import Derived.OrdersHeld
import Derived.Laws.BitsLemmas
import Derived.RowKit
import Derived.Sort.WalkB12
import Derived.Lib.SlicesMore
import Derived.Shelf.SlicesE.Kit
import Derived.Lib.OwnBridge
import Derived.RegionTactic
import Derived.Lib.Hide
import Derived.Test.YtcacnnjedfkelaaWWords
import Derived.Test.YtcacnnjedfkelaaWLast
import Derived.Test.YtcacnnjedfkelaaWTab
import Derived.Test.YtcacnnjedfkelaaWFour
import Derived.Test.YtcacnnjedfkelaaWQPut
import Derived.Test.YtcacnnjedfkelaaWApart
import Derived.Test.YtcacnnjedfkelaaWArr
import Derived.Test.YtcacnnjedfkelaaWZeros
import Derived.Test.YtcacnnjedfkelaaWFoot
import Derived.Test.YtcacnnjedfkelaaWKept
import Derived.Test.YtcacnnjedfkelaaWShare
import Derived.Test.YtcacnnjedfkelaaWN
import Derived.Test.YtcacnnjedfkelaaWFootNe
import Derived.Test.YtcacnnjedfkelaaWAt
import Derived.Test.YtcacnnjedfkelaaWEqStruct
import Derived.Test.YtcacnnjedfkelaaWRepsOne
import Derived.Test.YtcacnnjedfkelaaWInv
import Derived.Test.YtcacnnjedfkelaaWInvWords
import Derived.Test.YtcacnnjedfkelaaWGuard
import Derived.Test.YtcacnnjedfkelaaWNEv
import Derived.Test.YtcacnnjedfkelaaWMore
namespace Go.Proofs.Ytcacnnjedfkelaa.X
open Go.RowKit Go.Proofs.YtcacnnjedfkelaaW.PrintWords Go.Proofs.YtcacnnjedfkelaaW.PrintLast Go.Proofs.YtcacnnjedfkelaaW.PrintMore
attribute [local go_sem] max2_int min2_int max_two min_two max_three min_three max_four min_four   -- for this text's walks alone
set_option linter.unusedVariables false
set_option linter.unusedSimpArgs false



def errW : Option Int → Value
  | none => .nilIface
  | some c => .iface 0 (.int .i64 c)
theorem errW_none : errW none = .nilIface := rfl
theorem errW_some (c : Int) : errW (some c) = .iface 0 (.int .i64 c) := rfl

theorem info5 : (Try.prog.info? 5).map (fun i => (i.zero, i.size, i.bytes)) = some (some (.int .u8 0), 1, 1) := by kernel_rfl
-- the values' own types

end Go.Proofs.Ytcacnnjedfkelaa.X
