/- Two rows are the same (package miradorref12), in plain lists. No condition. -/
import Derived.Test.YtloigmonfbfieaaB0
import Derived.Test.YtloigmonfbfieaaXx5
namespace Go.Proofs.Ytloigmonfbfieaa.F
open Go.RowKit Go.Proofs.YtloigmonfbfieaaW.PrintWords Go.Proofs.YtloigmonfbfieaaW.PrintLast Go.Proofs.YtloigmonfbfieaaW.PrintMore Go.Proofs.Ytloigmonfbfieaa.B
set_option linter.unusedVariables false
set_option linter.unusedSimpArgs false
theorem row_same (l : List Int) (hl : l.length ≤ 1000000000000) (k : Nat) (hk : l.length + 2 ≤ k) : X.miradorref12_Row.f k l l = some true := by
  have key : ∀ (d i k : Nat), i + d = l.length → d + 1 ≤ k → X.miradorref12_Row.l0 k l l (i : Int) = some true := by
    intro d
    induction d with
    | zero =>
      intro i k hi hk
      obtain ⟨k, rfl⟩ : ∃ q, k = q + 1 := ⟨k - 1, by omega⟩
      simp only [X.miradorref12_Row.l0]
      rw [if_neg (by omega)]
    | succ d ih =>
      intro i k hi hk
      obtain ⟨k, rfl⟩ : ∃ q, k = q + 1 := ⟨k - 1, by omega⟩
      have e2 : wrap64 ((i : Int) + 1) = ((i + 1 : Nat) : Int) := by rw [w64 (by omega) (by omega)]; push_cast; rfl
      simp only [X.miradorref12_Row.l0]
      rw [if_pos (by omega), if_pos (by omega), if_pos (by omega), if_true, e2]
      exact ih (i + 1) k (by omega) (by omega)
  unfold X.miradorref12_Row.f
  rw [if_pos rfl]
  exact key l.length 0 k (by omega) (by omega)
end Go.Proofs.Ytloigmonfbfieaa.F
