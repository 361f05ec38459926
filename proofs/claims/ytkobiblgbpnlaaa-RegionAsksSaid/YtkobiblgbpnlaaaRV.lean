/- The examples answer true. No condition. -/
import Derived.Test.YtkobiblgbpnlaaaRU
import Derived.Test.YtkobiblgbpnlaaaXx21
namespace Go.Proofs.Ytkobiblgbpnlaaa.RT
open Go.Proofs.Ytkobiblgbpnlaaa Go.Proofs.Ytkobiblgbpnlaaa.X Go.RowKit Go.Proofs.YtkobiblgbpnlaaaW.PrintWords Go.Proofs.YtkobiblgbpnlaaaW.PrintLast Go.Proofs.YtkobiblgbpnlaaaW.PrintMore
theorem works_f (k : Nat) (hk : 200 ≤ k) : miradorlaw15_works.f k = some true := at_rounds (g := fun k => miradorlaw15_works.f k) miradorlaw15_works.mono hk miradorlaw15_works.at0
end Go.Proofs.Ytkobiblgbpnlaaa.RT
