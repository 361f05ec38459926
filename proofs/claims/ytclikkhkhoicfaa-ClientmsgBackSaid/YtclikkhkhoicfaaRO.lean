/- Parameters of the laws: structs. No condition. -/
import Derived.Test.YtclikkhkhoicfaaFLI
import Derived.WalkKit
import Derived.OpenShut
import Derived.Lib.SmallJoins
namespace Go.Proofs.Ytclikkhkhoicfaa.RC
open Go.ChangeShapes Go.WideShapes Go.RowKit Go.Proofs.YtclikkhkhoicfaaW.PrintWords Go.Proofs.YtclikkhkhoicfaaW.PrintLast Go.Proofs.YtclikkhkhoicfaaW.PrintMore
set_option linter.unusedVariables false
set_option linter.unusedSimpArgs false
set_option maxRecDepth 100000
theorem open_msg {H : Type} {enc : TypeId × Value → H} {w : World} {base b0 : Nat} {held : Bool} {v : Value} {d : DataW H} {p : List MemPlace} (hv : Value.okWide Try.prog w .any b0 30 v)
    (h : DataW.Trod enc Try.prog w base (fun _ => true) held 30 v d p) : ∃ (x0 : Int) (x1 : Bool) (x2 : Int) (x3 : Int) (x4 : Int) (x5 : Int) (x6 : Int) (x7 : Int) (x8 : Int) (x9 : Bool) (x10 : Bool) (x11 : Int) (x12 : Int) (x13 : Int) (x14 : Int) (x15 : Int) (x16 : Int) (A17 : Option Addr) (x17 : List Int) (c17 : Nat) (x18 : ByteArray), v = .agg #[.int .i64 x0, .bool x1, .int .i64 x2, .int .i64 x3, .int .i64 x4, .int .i64 x5, .int .i64 x6, .int .i64 x7, .int .i64 x8, .bool x9, .bool x10, .int .i64 x11, .int .i64 x12, .int .i64 x13, .int .i64 x14, .int .i64 x15, .int .i64 x16, .slice A17 x17.length c17, .string x18] ∧ (Lit.int .i64 x0).wf = true ∧ (Lit.int .i64 x2).wf = true ∧ (Lit.int .i64 x3).wf = true ∧ (Lit.int .i64 x4).wf = true ∧ (Lit.int .i64 x5).wf = true ∧ (Lit.int .i64 x6).wf = true ∧ (Lit.int .i64 x7).wf = true ∧ (Lit.int .i64 x8).wf = true ∧ (Lit.int .i64 x11).wf = true ∧ (Lit.int .i64 x12).wf = true ∧ (Lit.int .i64 x13).wf = true ∧ (Lit.int .i64 x14).wf = true ∧ (Lit.int .i64 x15).wf = true ∧ (Lit.int .i64 x16).wf = true ∧ Kd.C (Kd.int .i64) w A17 x17.length x17 ∧ x17.length ≤ c17 ∧ (∀ n ∈ x17, (Lit.int .i64 n).wf = true) ∧ x18.size ≤ maxLen := by
  obtain ⟨cs, rfl, hsz⟩ := okWide_struct Try.underlying30 hv
  obtain ⟨fuel, hf⟩ := h
  have hf' : DataW.trod enc Try.prog w base (fun _ => true) held fuel 30 cs.toList = some (d, p) := by simpa [Value.cells] using hf
  have hC : Try.prog.cellsOf 30 = 19 := by kernel_rfl
  rw [hC] at hsz
  obtain ⟨x0, e0, w0⟩ := FL.leaf_int hf' 0 23 Try.underlying23 (by kernel_rfl)
  obtain ⟨x1, e1⟩ := FL.leaf_bool hf' 1 4 Try.underlying4 (by kernel_rfl)
  obtain ⟨x2, e2, w2⟩ := FL.leaf_int hf' 2 3 Try.underlying3 (by kernel_rfl)
  obtain ⟨x3, e3, w3⟩ := FL.leaf_int hf' 3 3 Try.underlying3 (by kernel_rfl)
  obtain ⟨x4, e4, w4⟩ := FL.leaf_int hf' 4 3 Try.underlying3 (by kernel_rfl)
  obtain ⟨x5, e5, w5⟩ := FL.leaf_int hf' 5 3 Try.underlying3 (by kernel_rfl)
  obtain ⟨x6, e6, w6⟩ := FL.leaf_int hf' 6 3 Try.underlying3 (by kernel_rfl)
  obtain ⟨x7, e7, w7⟩ := FL.leaf_int hf' 7 3 Try.underlying3 (by kernel_rfl)
  obtain ⟨x8, e8, w8⟩ := FL.leaf_int hf' 8 3 Try.underlying3 (by kernel_rfl)
  obtain ⟨x9, e9⟩ := FL.leaf_bool hf' 9 4 Try.underlying4 (by kernel_rfl)
  obtain ⟨x10, e10⟩ := FL.leaf_bool hf' 10 4 Try.underlying4 (by kernel_rfl)
  obtain ⟨x11, e11, w11⟩ := FL.leaf_int hf' 11 3 Try.underlying3 (by kernel_rfl)
  obtain ⟨x12, e12, w12⟩ := FL.leaf_int hf' 12 3 Try.underlying3 (by kernel_rfl)
  obtain ⟨x13, e13, w13⟩ := FL.leaf_int hf' 13 3 Try.underlying3 (by kernel_rfl)
  obtain ⟨x14, e14, w14⟩ := FL.leaf_int hf' 14 3 Try.underlying3 (by kernel_rfl)
  obtain ⟨x15, e15, w15⟩ := FL.leaf_int hf' 15 3 Try.underlying3 (by kernel_rfl)
  obtain ⟨x16, e16, w16⟩ := FL.leaf_int hf' 16 3 Try.underlying3 (by kernel_rfl)
  obtain ⟨A17, x17, c17, e17, w17, y17, u17⟩ := FL.leaf_ints_w hf' 17 28 Try.underlying28 Try.underlying3 (by kernel_rfl) (by kernel_rfl)
  obtain ⟨x18, e18, w18⟩ := FL.leaf_str hf' 18 9 Try.underlying9 (by kernel_rfl)
  refine ⟨x0, x1, x2, x3, x4, x5, x6, x7, x8, x9, x10, x11, x12, x13, x14, x15, x16, A17, x17, c17, x18, ?_, w0, w2, w3, w4, w5, w6, w7, w8, w11, w12, w13, w14, w15, w16, w17, y17, u17, w18⟩
  obtain ⟨l⟩ := cs
  simp only [List.size_toArray] at hsz
  match l, hsz with
  | [c0, c1, c2, c3, c4, c5, c6, c7, c8, c9, c10, c11, c12, c13, c14, c15, c16, c17, c18], _ =>
    simp at e0 e1 e2 e3 e4 e5 e6 e7 e8 e9 e10 e11 e12 e13 e14 e15 e16 e17 e18
    simp only [e0, e1, e2, e3, e4, e5, e6, e7, e8, e9, e10, e11, e12, e13, e14, e15, e16, e17, e18]
end Go.Proofs.Ytclikkhkhoicfaa.RC
