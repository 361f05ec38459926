/- Words of this seat's proofs (printed by the kit for this claim, cut down to what is used). No condition. -/
import Derived.Test.YtloigmonfbfieaaWApart
import Derived.Test.YtloigmonfbfieaaWArr
namespace Go.Proofs.YtloigmonfbfieaaW.PrintWords
open Go.RowKit
section
variable {P : Program}
end
namespace Kd
section
variable {P : Program} {ops : Array Oper} {rest : List Oper} {o : Oper} {a : Act} {Q : Exit → Act → World → Prop} {Kc : Act → World → Prop} {α : Type}
end
section
variable {α : Type} {d : Kd α} {e : Nat} {w : World} {base : Nat} {ok : Nat → Prop} {v : Value} {xs : List α}
end
section
variable {P : Program} {ops : Array Oper} {rest : List Oper} {o : Oper} {a : Act} {Q : Exit → Act → World → Prop} {Kc : Act → World → Prop} {α : Type}
end
end Kd
end Go.Proofs.YtloigmonfbfieaaW.PrintWords
