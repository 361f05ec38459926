/- Words of this seat's proofs (printed by the kit for this claim, cut down to what is used). No condition. -/
import Derived.Test.YtloigmonfbfieaaWInv
import Derived.Test.YtloigmonfbfieaaWFootNe
namespace Go.Proofs.YtloigmonfbfieaaW.PrintWords
open Go.RowKit
end Go.Proofs.YtloigmonfbfieaaW.PrintWords
namespace Go.Proofs.YtloigmonfbfieaaW.PrintLast
section
variable {ops : Array Oper} {a : Act} {o og : Oper} {g : Nat} {t : Tmp} {u : Bool}
end
end Go.Proofs.YtloigmonfbfieaaW.PrintLast
