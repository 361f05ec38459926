/- What is left of a colour: the program's function. No condition. -/
import Derived.Test.YtloigmonfbfieaaFM5
import Derived.Test.YtloigmonfbfieaaXx5
namespace Go.Proofs.Ytloigmonfbfieaa.F
open Go.RowKit Go.Proofs.YtloigmonfbfieaaW.PrintWords Go.Proofs.YtloigmonfbfieaaW.PrintLast Go.Proofs.YtloigmonfbfieaaW.PrintMore Go.Proofs.Ytloigmonfbfieaa.B
set_option linter.unusedVariables false
set_option linter.unusedSimpArgs false
theorem quant_f {n d : Int} {tr : Bool} {m1 m2 m3 s1 s2 s3 : Int} (hv : Vd n d tr m1 m2 m3 s1 s2 s3) (bg : Bool) (c : Int) (hb : X.format_Valid.f n d bg tr m1 m2 m3 s1 s2 s3 = some true) :
    X.format_Quant.f n d bg tr m1 m2 m3 s1 s2 s3 c = some (qI m1 m2 m3 c) ∧ X.format_Colour.f n d bg tr m1 m2 m3 s1 s2 s3 ((plN (cp c 0) m1 s1 + plN (cp c 1) m2 s2 + plN (cp c 2) m3 s3 : Nat) : Int) = some (qI m1 m2 m3 c) := by
  have h2 := colour_f hv bg ((plN (cp c 0) m1 s1 + plN (cp c 1) m2 s2 + plN (cp c 2) m3 s3 : Nat) : Int) hb
  obtain ⟨a1, a2, a3⟩ := vp_all hv c
  rw [a1, a2, a3] at h2
  refine ⟨?_, h2⟩
  unfold X.format_Quant.f
  rw [value_f hv bg c hb]
  simp only [Option.bind_some]
  rw [h2]; rfl
end Go.Proofs.Ytloigmonfbfieaa.F
