/- Parameters of the regions' laws: a slice of rectangles. No condition. -/
import Derived.Test.YtkobiblgbpnlaaaFL
import Derived.WalkKit
import Derived.OpenShut
import Derived.Lib.SmallJoins
import Derived.Test.YtkobiblgbpnlaaaXx0
namespace Go.Proofs.Ytkobiblgbpnlaaa.RQ
open Go.ChangeShapes Go.WideShapes Go.RowKit Go.Proofs.YtkobiblgbpnlaaaW.PrintWords Go.Proofs.YtkobiblgbpnlaaaW.PrintLast Go.Proofs.YtkobiblgbpnlaaaW.PrintMore Go.Proofs.Ytkobiblgbpnlaaa.FL
set_option linter.unusedVariables false
set_option linter.unusedSimpArgs false
instance : Inhabited X.S26 := ⟨X.z26⟩
theorem open_rects {H : Type} {enc : TypeId × Value → H} {w : World} {base b0 : Nat} {spare : Nat → Bool} {held : Bool} {v : Value} {d : DataW H} {p : List MemPlace} (hv : Value.okWide Try.prog w .any b0 22 v)
    (h : DataW.Trod enc Try.prog w base spare held 22 v d p) : ∃ a cap zs, v = .slice a (List.length zs) cap ∧ zs.length ≤ cap ∧ Kd.C X.k26 w a zs.length zs := by
  obtain ⟨a, len, cap, rfl⟩ := okWide_slice Try.underlying22 hv
  obtain ⟨fuel, hf⟩ := h
  obtain ⟨⟨h1, h2⟩, h0, hel⟩ := open_elems Try.underlying22 (show DataW.trod enc Try.prog w base spare held fuel _ [.slice a len cap] = some _ from by simpa [Value.cells] using hf)
  have hC : Try.prog.cellsOf 26 = 4 := by kernel_rfl
  obtain ⟨zs, hz, hr⟩ := exists_list (fun i (z : X.S26) => ∃ ad c, a = some ad ∧ c.length = 4 ∧ X.k26.K w z c ∧ ∀ o u, c[o]? = some u → w.cell? (ad.add (i * 4 + o)) = some u) len (fun i hi => by
    obtain ⟨ad, rfl⟩ : ∃ ad, a = some ad := by
      cases a with
      | none => exact absurd (h0 rfl) (by omega)
      | some ad => exact ⟨ad, rfl⟩
    obtain ⟨cs, f', y, hl, hc, ht⟩ := hel ad rfl i hi
    rw [hC] at hc hl
    obtain ⟨n0, e0, w0⟩ := leaf_int ht 0 3 Try.underlying3 (by kernel_rfl)
    obtain ⟨n1, e1, w1⟩ := leaf_int ht 1 3 Try.underlying3 (by kernel_rfl)
    obtain ⟨n2, e2, w2⟩ := leaf_int ht 2 3 Try.underlying3 (by kernel_rfl)
    obtain ⟨n3, e3, w3⟩ := leaf_int ht 3 3 Try.underlying3 (by kernel_rfl)
    refine ⟨⟨n0, n1, n2, n3⟩, ad, [.int .i64 n0, .int .i64 n1, .int .i64 n2, .int .i64 n3], rfl, rfl, ⟨_, _, rfl, rfl, ⟨_, _, rfl, rfl, ⟨_, _, rfl, rfl, rfl⟩⟩⟩, fun o u ho => ?_⟩
    refine hc o u ?_
    match o, ho with
    | 0, ho => rw [e0]; exact ho
    | 1, ho => rw [e1]; exact ho
    | 2, ho => rw [e2]; exact ho
    | 3, ho => rw [e3]; exact ho
    | o + 4, ho => simp at ho)
  subst hz
  have hm : zs.length ≤ 9223372036854775807 := by unfold maxLen at h2; omega
  refine ⟨a, cap, zs, rfl, h1, ⟨rfl, hm, fun hn => ?_⟩⟩
  obtain ⟨ad, _, ha, _⟩ := hr 0 hn
  refine ⟨ad, ha, fun j p hp => ?_⟩
  obtain ⟨hj, hpe⟩ := List.getElem?_eq_some_iff.1 hp
  obtain ⟨ad', c, ha', hc, hK, hcell⟩ := hr j hj
  rw [ha] at ha'
  obtain rfl := Option.some.inj ha'
  have hpz : zs.getD j default = p := by rw [List.getD_eq_getElem?_getD, hp]; rfl
  rw [hpz] at hK
  exact ⟨c, hc, hK, hcell⟩
end Go.Proofs.Ytkobiblgbpnlaaa.RQ
