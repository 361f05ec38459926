/- Words of this seat's proofs (printed by the kit for this claim, cut down to what is used). No condition. -/
import Derived.Test.YtloigmonfbfieaaWTab
namespace Go.Proofs.YtloigmonfbfieaaW.PrintLast
section
variable {P : Program} {ops : Array Oper} {Q : Exit → Act → World → Prop} {md : Region.Mode} {S : World → Prop} {ds : List Nat} {T : Bool × List (List Nat × List Nat)}
end
end Go.Proofs.YtloigmonfbfieaaW.PrintLast
