/- A format: how many bytes a value has; its bytes. No condition. -/
import Derived.Test.YtloigmonfbfieaaFM7
import Derived.Test.YtloigmonfbfieaaXx2
import Derived.Test.YtloigmonfbfieaaXx1
namespace Go.Proofs.Ytloigmonfbfieaa.F
open Go.RowKit Go.Proofs.YtloigmonfbfieaaW.PrintWords Go.Proofs.YtloigmonfbfieaaW.PrintLast Go.Proofs.YtloigmonfbfieaaW.PrintMore Go.Proofs.Ytloigmonfbfieaa.B
set_option linter.unusedVariables false
set_option linter.unusedSimpArgs false
theorem size_f {n d : Int} {tr : Bool} {m1 m2 m3 s1 s2 s3 : Int} (hv : Vd n d tr m1 m2 m3 s1 s2 s3) (bg : Bool) (hb : X.format_Valid.f n d bg tr m1 m2 m3 s1 s2 s3 = some true) : ∃ z : Nat, z ≤ 4 ∧ n = 8 * z ∧ X.format_Size.f n d bg tr m1 m2 m3 s1 s2 s3 = some (z : Int) := by
  have e : X.format_Size.f n d bg tr m1 m2 m3 s1 s2 s3 = some (wrap64 (Int.tdiv n 8)) := by unfold X.format_Size.f; rw [hb]; rfl
  rw [e]
  rcases hv.bits with rfl | rfl | rfl
  · exact ⟨1, by omega, by omega, congrArg some (by rw [w64 (by decide) (by decide)]; decide)⟩
  · exact ⟨2, by omega, by omega, congrArg some (by rw [w64 (by decide) (by decide)]; decide)⟩
  · exact ⟨4, by omega, by omega, congrArg some (by rw [w64 (by decide) (by decide)]; decide)⟩
theorem put_all {n d : Int} {tr : Bool} {m1 m2 m3 s1 s2 s3 : Int} (hv : Vd n d tr m1 m2 m3 s1 s2 s3) (bg : Bool) (hb : X.format_Valid.f n d bg tr m1 m2 m3 s1 s2 s3 = some true) (k : Nat) (hk : 20 ≤ k) (v : Int) :
    ∃ z : Nat, z ≤ 4 ∧ n = 8 * z ∧ X.format_Put.f k n d bg tr m1 m2 m3 s1 s2 s3 v = some (strOfNums (if bg = true then (leB v z).reverse else leB v z)) := by
  obtain ⟨z, hz, hn8, hs⟩ := size_f hv bg hb
  refine ⟨z, hz, hn8, ?_⟩
  unfold X.format_Put.f
  rw [hs]
  simp only [Option.bind_some]
  rw [put_f k hk n d bg tr m1 m2 m3 s1 s2 s3 z hz v]
  simp only [Option.bind_some]
end Go.Proofs.Ytloigmonfbfieaa.F
