/- Words of this seat's proofs (printed by the kit for this claim, cut down to what is used). No condition. -/
import Derived.Test.YtaielfghgmghgaaWInv
import Derived.Test.YtaielfghgmghgaaWFootNe
namespace Go.Proofs.YtaielfghgmghgaaW.PrintWords
open Go.RowKit
end Go.Proofs.YtaielfghgmghgaaW.PrintWords
namespace Go.Proofs.YtaielfghgmghgaaW.PrintLast
section
variable {ops : Array Oper} {a : Act} {o og : Oper} {g : Nat} {t : Tmp} {u : Bool}
end
end Go.Proofs.YtaielfghgmghgaaW.PrintLast
