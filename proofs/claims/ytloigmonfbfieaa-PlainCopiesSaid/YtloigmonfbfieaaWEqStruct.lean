/- Words of this seat's proofs (printed by the kit for this claim, cut down to what is used). No condition. -/
import Derived.Test.YtloigmonfbfieaaWWords
import Derived.Laws.StructEq
namespace Go.Proofs.YtloigmonfbfieaaW.PrintWords
open Go.RowKit
section
variable {P : Program} {d : Nat} {xs ys : Array Value} {f : Field} {fs : List Field} {a b : Value} {r s : Bool} {w : World}
end
end Go.Proofs.YtloigmonfbfieaaW.PrintWords
