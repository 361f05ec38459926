/- The document's number with a sign. No condition. -/
import Derived.Test.YtpackckoblpbfaaOAP
import Derived.Test.YtpackckoblpbfaaOS
import Derived.Test.YtpackckoblpbfaaXx32
namespace Go.Proofs.Ytpackckoblpbfaa.O
open Go.RowKit Go.Proofs.Ytpackckoblpbfaa.X Go.Proofs.Ytpackckoblpbfaa.B Go.Proofs.YtpackckoblpbfaaW.PrintWords Go.Proofs.YtpackckoblpbfaaW.PrintLast Go.Proofs.YtpackckoblpbfaaW.PrintMore
set_option linter.unusedVariables false
set_option linter.unusedSimpArgs false
theorem rSigned_f {k : Nat} (hk : 9 ≤ k) (n : Int) (h0 : -9223372036854775808 ≤ n) (h1 : n ≤ 9223372036854775807) : miradorref01_Signed.f k n = some (sgL n) := by
  obtain ⟨k, rfl⟩ : ∃ m, k = m + 1 := ⟨k - 1, by omega⟩
  unfold miradorref01_Signed.f sgL
  by_cases h : n < -2147483648
  · rw [if_pos h, miradorref01_Signed.j0, if_pos rfl, if_neg (by omega)]
  · rw [if_neg h, miradorref01_Signed.j0]
    by_cases h2 : n > 2147483647
    · rw [if_pos (decide_eq_true h2), if_neg (by omega)]
    · rw [if_neg (by simpa using h2)]
      rw [if_pos (show -2147483648 ≤ n ∧ n ≤ 2147483647 by omega)]
      by_cases h3 : n < 0
      · rw [if_pos h3, w64 (by omega) (by omega), rPut_f (by omega) _ _ (by omega), if_pos (by unfold fits; omega), show n % 4294967296 = n + 4294967296 by omega]
        rfl
      · rw [if_neg h3, rPut_f (by omega) _ _ (by omega), if_pos (by unfold fits; omega), show n % 4294967296 = n by omega]
        rfl
end Go.Proofs.Ytpackckoblpbfaa.O
