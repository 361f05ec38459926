/- A number with a sign, in four bytes. No condition. -/
import Derived.Test.YtclikkhkhoicfaaOA
import Derived.Test.YtclikkhkhoicfaaXx12
namespace Go.Proofs.Ytclikkhkhoicfaa.O
open Go.RowKit Go.Proofs.Ytclikkhkhoicfaa.X Go.Proofs.Ytclikkhkhoicfaa.B Go.Proofs.YtclikkhkhoicfaaW.PrintWords Go.Proofs.YtclikkhkhoicfaaW.PrintLast Go.Proofs.YtclikkhkhoicfaaW.PrintMore
set_option linter.unusedVariables false
set_option linter.unusedSimpArgs false
/-- In four bytes, perhaps below 0. -/
def sgL (n : Int) : ByteArray := if -2147483648 ≤ n ∧ n ≤ 2147483647 then strOfNums (beL 4 (n % 4294967296)) else ⟨#[]⟩
theorem Signed_f {k : Nat} (hk : 8 ≤ k) (n : Int) (h0 : -9223372036854775808 ≤ n) (h1 : n ≤ 9223372036854775807) : octets_Signed.f k n = some (sgL n) := by
  unfold octets_Signed.f sgL
  rw [Put_f hk]
  by_cases h : -2147483648 ≤ n ∧ n ≤ 2147483647
  · rw [if_pos (by unfold wrap64 wrap32; omega), if_pos h, if_pos (by unfold fits; omega)]
    rfl
  · rw [if_neg (by unfold wrap64 wrap32; omega), if_neg h]

end Go.Proofs.Ytclikkhkhoicfaa.O
