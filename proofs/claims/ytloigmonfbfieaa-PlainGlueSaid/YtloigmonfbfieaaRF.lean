/- Parameters of the format's laws: a format. No condition. -/
import Derived.Test.YtloigmonfbfieaaFL
import Derived.WalkKit
import Derived.OpenShut
import Derived.Lib.SmallJoins
namespace Go.Proofs.Ytloigmonfbfieaa.RC
open Go.ChangeShapes Go.WideShapes Go.RowKit
set_option linter.unusedVariables false
set_option linter.unusedSimpArgs false
theorem open_format {H : Type} {enc : TypeId × Value → H} {w : World} {base b0 : Nat} {spare : Nat → Bool} {held : Bool} {v : Value} {d : DataW H} {p : List MemPlace} (hv : Value.okWide Try.prog w .any b0 23 v)
    (h : DataW.Trod enc Try.prog w base spare held 23 v d p) : ∃ (x0 : Int) (x1 : Int) (x2 : Bool) (x3 : Bool) (x4 : Int) (x5 : Int) (x6 : Int) (x7 : Int) (x8 : Int) (x9 : Int), v = .agg #[.int .i64 x0, .int .i64 x1, .bool x2, .bool x3, .int .i64 x4, .int .i64 x5, .int .i64 x6, .int .i64 x7, .int .i64 x8, .int .i64 x9] ∧ (Lit.int .i64 x0).wf = true ∧ (Lit.int .i64 x1).wf = true ∧ (Lit.int .i64 x4).wf = true ∧ (Lit.int .i64 x5).wf = true ∧ (Lit.int .i64 x6).wf = true ∧ (Lit.int .i64 x7).wf = true ∧ (Lit.int .i64 x8).wf = true ∧ (Lit.int .i64 x9).wf = true := by
  obtain ⟨cs, rfl, hsz⟩ := okWide_struct Try.underlying23 hv
  obtain ⟨fuel, hf⟩ := h
  have hf' : DataW.trod enc Try.prog w base spare held fuel 23 cs.toList = some (d, p) := by simpa [Value.cells] using hf
  have hC : Try.prog.cellsOf 23 = 10 := by kernel_rfl
  rw [hC] at hsz
  obtain ⟨x0, e0, w0⟩ := FL.leaf_int hf' 0 3 Try.underlying3 (by kernel_rfl)
  obtain ⟨x1, e1, w1⟩ := FL.leaf_int hf' 1 3 Try.underlying3 (by kernel_rfl)
  obtain ⟨x2, e2⟩ := FL.leaf_bool hf' 2 4 Try.underlying4 (by kernel_rfl)
  obtain ⟨x3, e3⟩ := FL.leaf_bool hf' 3 4 Try.underlying4 (by kernel_rfl)
  obtain ⟨x4, e4, w4⟩ := FL.leaf_int hf' 4 3 Try.underlying3 (by kernel_rfl)
  obtain ⟨x5, e5, w5⟩ := FL.leaf_int hf' 5 3 Try.underlying3 (by kernel_rfl)
  obtain ⟨x6, e6, w6⟩ := FL.leaf_int hf' 6 3 Try.underlying3 (by kernel_rfl)
  obtain ⟨x7, e7, w7⟩ := FL.leaf_int hf' 7 3 Try.underlying3 (by kernel_rfl)
  obtain ⟨x8, e8, w8⟩ := FL.leaf_int hf' 8 3 Try.underlying3 (by kernel_rfl)
  obtain ⟨x9, e9, w9⟩ := FL.leaf_int hf' 9 3 Try.underlying3 (by kernel_rfl)
  refine ⟨x0, x1, x2, x3, x4, x5, x6, x7, x8, x9, ?_, w0, w1, w4, w5, w6, w7, w8, w9⟩
  obtain ⟨l⟩ := cs
  simp only [List.size_toArray] at hsz
  match l, hsz with
  | [c0, c1, c2, c3, c4, c5, c6, c7, c8, c9], _ =>
    simp at e0 e1 e2 e3 e4 e5 e6 e7 e8 e9
    simp only [e0, e1, e2, e3, e4, e5, e6, e7, e8, e9]
end Go.Proofs.Ytloigmonfbfieaa.RC
