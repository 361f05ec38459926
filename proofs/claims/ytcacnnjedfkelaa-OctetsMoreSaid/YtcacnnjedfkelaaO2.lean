/- The chapter's examples come out right. No condition. -/
import Derived.Test.YtcacnnjedfkelaaO1
namespace Go.Proofs.Ytcacnnjedfkelaa.O
open Go.RowKit Go.Proofs.Ytcacnnjedfkelaa.X Go.Proofs.Ytcacnnjedfkelaa.B Go.Proofs.YtcacnnjedfkelaaW.PrintWords Go.Proofs.YtcacnnjedfkelaaW.PrintLast Go.Proofs.YtcacnnjedfkelaaW.PrintMore
set_option linter.unusedVariables false
set_option linter.unusedSimpArgs false
theorem works10 : miradorlaw01_works.f 10 = some true := by kernel_rfl
theorem works_f {k : Nat} (hk : 10 ≤ k) : miradorlaw01_works.f k = some true := by
  induction hk with
  | refl => exact works10
  | step h ih => exact miradorlaw01_works.mono _ _ ih
end Go.Proofs.Ytcacnnjedfkelaa.O
