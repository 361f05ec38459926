/- Messages as records, and a slice of them as a parameter. No condition. -/
import Derived.Test.YtclikkhkhoicfaaFLI
import Derived.Test.YtclikkhkhoicfaaRows
import Derived.WalkKit
import Derived.OpenShut
import Derived.Lib.SmallJoins
namespace Go.Proofs.Ytclikkhkhoicfaa.RC
open Go.ChangeShapes Go.WideShapes Go.RowKit Go.Proofs.YtclikkhkhoicfaaW.PrintWords Go.Proofs.YtclikkhkhoicfaaW.PrintLast Go.Proofs.YtclikkhkhoicfaaW.PrintMore Go.Proofs.Ytclikkhkhoicfaa.FL
set_option linter.unusedVariables false
set_option linter.unusedSimpArgs false
set_option maxRecDepth 100000
/-- A message: its fields, in order; of the slice: where it lies, what it holds, its capacity. -/
structure MsgR where
  k : Int
  fl : Bool
  n : Int
  r0 : Int
  r1 : Int
  r2 : Int
  r3 : Int
  f0 : Int
  f1 : Int
  b0 : Bool
  b1 : Bool
  f2 : Int
  f3 : Int
  f4 : Int
  f5 : Int
  f6 : Int
  f7 : Int
  A : Option Addr
  xs : List Int
  c : Nat
  x : ByteArray
instance : Inhabited MsgR := ⟨⟨0, false, 0, 0, 0, 0, 0, 0, 0, false, false, 0, 0, 0, 0, 0, 0, none, [], 0, ⟨#[]⟩⟩⟩
def MsgR.row (m : MsgR) : List Value := [.int .i64 m.k, .bool m.fl, .int .i64 m.n, .int .i64 m.r0, .int .i64 m.r1, .int .i64 m.r2, .int .i64 m.r3, .int .i64 m.f0, .int .i64 m.f1, .bool m.b0, .bool m.b1, .int .i64 m.f2, .int .i64 m.f3, .int .i64 m.f4, .int .i64 m.f5, .int .i64 m.f6, .int .i64 m.f7, .slice m.A m.xs.length m.c, .string m.x]
/-- What holds of a message that is handed in. -/
structure MsgR.Ok (m : MsgR) (w : World) : Prop where
  w_k : (Lit.int .i64 m.k).wf = true
  w_n : (Lit.int .i64 m.n).wf = true
  w_r0 : (Lit.int .i64 m.r0).wf = true
  w_r1 : (Lit.int .i64 m.r1).wf = true
  w_r2 : (Lit.int .i64 m.r2).wf = true
  w_r3 : (Lit.int .i64 m.r3).wf = true
  w_f0 : (Lit.int .i64 m.f0).wf = true
  w_f1 : (Lit.int .i64 m.f1).wf = true
  w_f2 : (Lit.int .i64 m.f2).wf = true
  w_f3 : (Lit.int .i64 m.f3).wf = true
  w_f4 : (Lit.int .i64 m.f4).wf = true
  w_f5 : (Lit.int .i64 m.f5).wf = true
  w_f6 : (Lit.int .i64 m.f6).wf = true
  w_f7 : (Lit.int .i64 m.f7).wf = true
  c_ : Kd.C (Kd.int .i64) w m.A m.xs.length m.xs
  cc : m.xs.length ≤ m.c
  wx : ∀ n ∈ m.xs, (Lit.int .i64 n).wf = true
  z : m.x.size ≤ maxLen
theorem open_msgs {H : Type} {enc : TypeId × Value → H} {w : World} {base b0 : Nat} {held : Bool} {v : Value} {d : DataW H} {p : List MemPlace} (hv : Value.okWide Try.prog w .any b0 43 v)
    (h : DataW.Trod enc Try.prog w base (fun _ => true) held 43 v d p) : ∃ (a : Option Addr) (len cap : Nat) (zs : List MsgR), v = .slice a len cap ∧ zs.length = len ∧ len ≤ cap ∧ cap ≤ maxLen ∧ (∀ m ∈ zs, MsgR.Ok m w) ∧ (∀ i, i < zs.length → ∃ ad, a = some ad ∧ ∀ o u, (zs.getD i default).row[o]? = some u → w.cell? (ad.add (i * 19 + o)) = some u) := by
  obtain ⟨a, len, cap, rfl⟩ := okWide_slice Try.underlying43 hv
  obtain ⟨fuel, hf⟩ := h
  obtain ⟨⟨h1, h2⟩, h0, hel⟩ := open_elems Try.underlying43 (show DataW.trod enc Try.prog w base (fun _ => true) held fuel _ [.slice a len cap] = some _ from by simpa [Value.cells] using hf)
  have hC : Try.prog.cellsOf 30 = 19 := by kernel_rfl
  obtain ⟨zs, hz, hr⟩ := exists_list (fun i (z : MsgR) => (∃ ad, a = some ad ∧ ∀ o u, z.row[o]? = some u → w.cell? (ad.add (i * 19 + o)) = some u) ∧ z.Ok w) len (fun i hi => by
    obtain ⟨ad, rfl⟩ : ∃ ad, a = some ad := by
      cases a with
      | none => exact absurd (h0 rfl) (by omega)
      | some ad => exact ⟨ad, rfl⟩
    obtain ⟨cs, f', y, hl, hc, ht⟩ := hel ad rfl i hi
    rw [hC] at hc hl
    obtain ⟨n0, e0, w0⟩ := leaf_int ht 0 23 Try.underlying23 (by kernel_rfl)
    obtain ⟨n1, e1⟩ := leaf_bool ht 1 4 Try.underlying4 (by kernel_rfl)
    obtain ⟨n2, e2, w2⟩ := leaf_int ht 2 3 Try.underlying3 (by kernel_rfl)
    obtain ⟨n3, e3, w3⟩ := leaf_int ht 3 3 Try.underlying3 (by kernel_rfl)
    obtain ⟨n4, e4, w4⟩ := leaf_int ht 4 3 Try.underlying3 (by kernel_rfl)
    obtain ⟨n5, e5, w5⟩ := leaf_int ht 5 3 Try.underlying3 (by kernel_rfl)
    obtain ⟨n6, e6, w6⟩ := leaf_int ht 6 3 Try.underlying3 (by kernel_rfl)
    obtain ⟨n7, e7, w7⟩ := leaf_int ht 7 3 Try.underlying3 (by kernel_rfl)
    obtain ⟨n8, e8, w8⟩ := leaf_int ht 8 3 Try.underlying3 (by kernel_rfl)
    obtain ⟨n9, e9⟩ := leaf_bool ht 9 4 Try.underlying4 (by kernel_rfl)
    obtain ⟨n10, e10⟩ := leaf_bool ht 10 4 Try.underlying4 (by kernel_rfl)
    obtain ⟨n11, e11, w11⟩ := leaf_int ht 11 3 Try.underlying3 (by kernel_rfl)
    obtain ⟨n12, e12, w12⟩ := leaf_int ht 12 3 Try.underlying3 (by kernel_rfl)
    obtain ⟨n13, e13, w13⟩ := leaf_int ht 13 3 Try.underlying3 (by kernel_rfl)
    obtain ⟨n14, e14, w14⟩ := leaf_int ht 14 3 Try.underlying3 (by kernel_rfl)
    obtain ⟨n15, e15, w15⟩ := leaf_int ht 15 3 Try.underlying3 (by kernel_rfl)
    obtain ⟨n16, e16, w16⟩ := leaf_int ht 16 3 Try.underlying3 (by kernel_rfl)
    obtain ⟨A17, n17, c17, e17, w17, y17, v17⟩ := leaf_ints_w ht 17 28 Try.underlying28 Try.underlying3 (by kernel_rfl) (by kernel_rfl)
    obtain ⟨n18, e18, w18⟩ := leaf_str ht 18 9 Try.underlying9 (by kernel_rfl)
    refine ⟨⟨n0, n1, n2, n3, n4, n5, n6, n7, n8, n9, n10, n11, n12, n13, n14, n15, n16, A17, n17, c17, n18⟩, ⟨ad, rfl, fun o u ho => ?_⟩, ⟨w0, w2, w3, w4, w5, w6, w7, w8, w11, w12, w13, w14, w15, w16, w17, y17, v17, w18⟩⟩
    refine hc o u ?_
    match o, ho with
    | 0, ho => rw [e0]; exact ho
    | 1, ho => rw [e1]; exact ho
    | 2, ho => rw [e2]; exact ho
    | 3, ho => rw [e3]; exact ho
    | 4, ho => rw [e4]; exact ho
    | 5, ho => rw [e5]; exact ho
    | 6, ho => rw [e6]; exact ho
    | 7, ho => rw [e7]; exact ho
    | 8, ho => rw [e8]; exact ho
    | 9, ho => rw [e9]; exact ho
    | 10, ho => rw [e10]; exact ho
    | 11, ho => rw [e11]; exact ho
    | 12, ho => rw [e12]; exact ho
    | 13, ho => rw [e13]; exact ho
    | 14, ho => rw [e14]; exact ho
    | 15, ho => rw [e15]; exact ho
    | 16, ho => rw [e16]; exact ho
    | 17, ho => rw [e17]; exact ho
    | 18, ho => rw [e18]; exact ho
    | o + 19, ho => simp [MsgR.row] at ho)
  subst hz
  refine ⟨a, zs.length, cap, zs, rfl, rfl, h1, h2, fun m hm => ?_, fun i hi => (hr i hi).1⟩
  obtain ⟨i, hi, rfl⟩ := List.mem_iff_getElem.1 hm
  have := (hr i hi).2
  rw [List.getD_eq_getElem?_getD, List.getElem?_eq_getElem hi] at this
  exact this
end Go.Proofs.Ytclikkhkhoicfaa.RC
