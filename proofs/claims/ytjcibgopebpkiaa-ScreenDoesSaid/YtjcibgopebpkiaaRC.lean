/- Parameters of the screen's laws: a rectangle. No condition. -/
import Derived.Test.YtjcibgopebpkiaaFL
import Derived.WalkKit
import Derived.OpenShut
import Derived.Lib.SmallJoins
namespace Go.Proofs.Ytjcibgopebpkiaa.RC
open Go.ChangeShapes Go.WideShapes Go.RowKit
set_option linter.unusedVariables false
set_option linter.unusedSimpArgs false
theorem open_rect {H : Type} {enc : TypeId × Value → H} {w : World} {base b0 : Nat} {spare : Nat → Bool} {held : Bool} {v : Value} {d : DataW H} {p : List MemPlace} (hv : Value.okWide Try.prog w .any b0 30 v)
    (h : DataW.Trod enc Try.prog w base spare held 30 v d p) : ∃ (x0 : Int) (x1 : Int) (x2 : Int) (x3 : Int), v = .agg #[.int .i64 x0, .int .i64 x1, .int .i64 x2, .int .i64 x3] ∧ (Lit.int .i64 x0).wf = true ∧ (Lit.int .i64 x1).wf = true ∧ (Lit.int .i64 x2).wf = true ∧ (Lit.int .i64 x3).wf = true := by
  obtain ⟨cs, rfl, hsz⟩ := okWide_struct Try.underlying30 hv
  obtain ⟨fuel, hf⟩ := h
  have hf' : DataW.trod enc Try.prog w base spare held fuel 30 cs.toList = some (d, p) := by simpa [Value.cells] using hf
  have hC : Try.prog.cellsOf 30 = 4 := by kernel_rfl
  rw [hC] at hsz
  obtain ⟨x0, e0, w0⟩ := FL.leaf_int hf' 0 3 Try.underlying3 (by kernel_rfl)
  obtain ⟨x1, e1, w1⟩ := FL.leaf_int hf' 1 3 Try.underlying3 (by kernel_rfl)
  obtain ⟨x2, e2, w2⟩ := FL.leaf_int hf' 2 3 Try.underlying3 (by kernel_rfl)
  obtain ⟨x3, e3, w3⟩ := FL.leaf_int hf' 3 3 Try.underlying3 (by kernel_rfl)
  refine ⟨x0, x1, x2, x3, ?_, w0, w1, w2, w3⟩
  obtain ⟨l⟩ := cs
  simp only [List.size_toArray] at hsz
  match l, hsz with
  | [c0, c1, c2, c3], _ =>
    simp at e0 e1 e2 e3
    simp only [e0, e1, e2, e3]
end Go.Proofs.Ytjcibgopebpkiaa.RC
