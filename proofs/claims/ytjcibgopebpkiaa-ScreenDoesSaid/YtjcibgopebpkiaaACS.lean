/- Parameters of the screen's laws: a slice of acts. No condition. -/
import Derived.Test.YtjcibgopebpkiaaRC
import Derived.Test.YtjcibgopebpkiaaSCD
namespace Go.Proofs.Ytjcibgopebpkiaa.RC
open Go.ChangeShapes Go.WideShapes Go.RowKit Go.Proofs.YtjcibgopebpkiaaW.PrintWords Go.Proofs.YtjcibgopebpkiaaW.PrintLast Go.Proofs.YtjcibgopebpkiaaW.PrintMore Go.Proofs.Ytjcibgopebpkiaa.FL
set_option linter.unusedVariables false
set_option linter.unusedSimpArgs false
instance : Inhabited X.S52 := ⟨X.z52⟩
theorem open_acts {H : Type} {enc : TypeId × Value → H} {w : World} {base b0 : Nat} {spare : Nat → Bool} {held : Bool} {v : Value} {d : DataW H} {p : List MemPlace} (hv : Value.okWide Try.prog w .any b0 48 v)
    (h : DataW.Trod enc Try.prog w base spare held 48 v d p) : ∃ a len cap zs, v = .slice a len cap ∧ zs.length = len ∧ len ≤ cap ∧ cap ≤ maxLen ∧ Kd.C X.k52 w a zs.length zs ∧ ∀ i, i < zs.length → (Lit.int .i64 (X.rd_T52 zs (i : Int)).f0).wf = true ∧ (Lit.int .i64 (X.rd_T52 zs (i : Int)).f3).wf = true ∧ ∃ ad A c, a = some ad ∧ w.cell? (ad.add (i * 11 + 10)) = some (.slice A (X.rd_T52 zs (i : Int)).f4.length c) ∧ c ≤ 9223372036854775807 := by
  obtain ⟨a, len, cap, rfl⟩ := okWide_slice Try.underlying48 hv
  obtain ⟨fuel, hf⟩ := h
  obtain ⟨⟨h1, h2⟩, h0, hel⟩ := open_elems Try.underlying48 (show DataW.trod enc Try.prog w base spare held fuel _ [.slice a len cap] = some _ from by simpa [Value.cells] using hf)
  have hC : Try.prog.cellsOf 52 = 11 := by kernel_rfl
  obtain ⟨zs, hz, hr⟩ := exists_list (fun i (z : X.S52) => (∃ ad c, a = some ad ∧ c.length = 11 ∧ X.k52.K w z c ∧ ∀ o u, c[o]? = some u → w.cell? (ad.add (i * 11 + o)) = some u) ∧ (Lit.int .i64 z.f0).wf = true ∧ (Lit.int .i64 z.f3).wf = true ∧ ∃ ad A c, a = some ad ∧ w.cell? (ad.add (i * 11 + 10)) = some (.slice A z.f4.length c) ∧ c ≤ 9223372036854775807) len (fun i hi => by
    obtain ⟨ad, rfl⟩ : ∃ ad, a = some ad := by
      cases a with
      | none => exact absurd (h0 rfl) (by omega)
      | some ad => exact ⟨ad, rfl⟩
    obtain ⟨cs, f', y, hl, hc, ht⟩ := hel ad rfl i hi
    rw [hC] at hc hl
    obtain ⟨n0, e0, w0⟩ := leaf_int ht 0 3 Try.underlying3 (by kernel_rfl)
    obtain ⟨n1, e1, w1⟩ := leaf_int ht 1 3 Try.underlying3 (by kernel_rfl)
    obtain ⟨n2, e2, w2⟩ := leaf_int ht 2 3 Try.underlying3 (by kernel_rfl)
    obtain ⟨n3, e3, w3⟩ := leaf_int ht 3 3 Try.underlying3 (by kernel_rfl)
    obtain ⟨n4, e4, w4⟩ := leaf_int ht 4 3 Try.underlying3 (by kernel_rfl)
    obtain ⟨n5, e5, w5⟩ := leaf_int ht 5 3 Try.underlying3 (by kernel_rfl)
    obtain ⟨n6, e6, w6⟩ := leaf_int ht 6 3 Try.underlying3 (by kernel_rfl)
    obtain ⟨n7, e7, w7⟩ := leaf_int ht 7 3 Try.underlying3 (by kernel_rfl)
    obtain ⟨n8, e8, w8⟩ := leaf_int ht 8 3 Try.underlying3 (by kernel_rfl)
    obtain ⟨n9, e9, w9⟩ := leaf_int ht 9 3 Try.underlying3 (by kernel_rfl)
    obtain ⟨A10, l10, c10, f10, y10, e10, t10⟩ := leaf_slice ht 10 22 Try.underlying22 (by kernel_rfl)
    obtain ⟨⟨b1, b2⟩, b0, bel⟩ := open_elems Try.underlying22 t10
    have hC1 : Try.prog.cellsOf 3 = 1 := by kernel_rfl
    obtain ⟨ps, hps, hpr⟩ := exists_list (fun j (z : Int) => ∃ ad, A10 = some ad ∧ w.cell? (ad.add j) = some (.int .i64 z)) l10 (fun j hj => by
      obtain ⟨ad, rfl⟩ : ∃ ad, A10 = some ad := by
        cases A10 with
        | none => exact absurd (b0 rfl) (by omega)
        | some ad => exact ⟨ad, rfl⟩
      obtain ⟨cs2, f2, y2, hl2, hc2, ht2⟩ := bel ad rfl j hj
      obtain ⟨z, ez, _⟩ := leaf_int ht2 0 3 Try.underlying3 (by kernel_rfl)
      exact ⟨z, ad, rfl, by have := hc2 0 _ ez; rw [hC1, Nat.mul_one, Nat.add_zero] at this; exact this⟩)
    subst hps
    have hci : (Kd.int .i64).C w A10 ps.length ps := Kd.C_of_reads (d := 0) ⟨rfl, by unfold maxLen at b2; omega, fun hn => by
      obtain ⟨ad, ha, _⟩ := hpr 0 hn
      refine ⟨ad, ha, fun j hj => ?_⟩
      obtain ⟨ad', ha', hc'⟩ := hpr j hj
      rw [ha] at ha'
      obtain rfl := Option.some.inj ha'
      exact hc'⟩
    refine ⟨⟨n0, ⟨n1, n2, n3, n4⟩, ⟨n5, n6, n7, n8⟩, n9, ps⟩, ⟨ad, _, rfl, rfl, X.k52_mk w ⟨n0, ⟨n1, n2, n3, n4⟩, ⟨n5, n6, n7, n8⟩, n9, ps⟩ b1 hci, fun o u ho => ?_⟩, w0, w9, ad, A10, c10, rfl, hc 10 _ e10, by unfold maxLen at b2; omega⟩
    refine hc o u ?_
    match o, ho with
    | 0, ho => rw [e0]; exact ho
    | 1, ho => rw [e1]; exact ho
    | 2, ho => rw [e2]; exact ho
    | 3, ho => rw [e3]; exact ho
    | 4, ho => rw [e4]; exact ho
    | 5, ho => rw [e5]; exact ho
    | 6, ho => rw [e6]; exact ho
    | 7, ho => rw [e7]; exact ho
    | 8, ho => rw [e8]; exact ho
    | 9, ho => rw [e9]; exact ho
    | 10, ho => rw [e10]; exact ho
    | o + 11, ho => simp at ho)
  subst hz
  have hm : zs.length ≤ 9223372036854775807 := by unfold maxLen at h2; omega
  have hg : ∀ i, i < zs.length → X.rd_T52 zs (i : Int) = zs.getD i default := fun i hi => by
    unfold X.rd_T52; rw [Int.toNat_natCast]; rfl
  refine ⟨a, zs.length, cap, zs, rfl, rfl, h1, h2, ⟨rfl, hm, fun hn => ?_⟩, fun i hi => by rw [hg i hi]; exact (hr i hi).2⟩
  obtain ⟨⟨ad, _, ha, _⟩, _⟩ := hr 0 hn
  refine ⟨ad, ha, fun j p hp => ?_⟩
  obtain ⟨hj, hpe⟩ := List.getElem?_eq_some_iff.1 hp
  obtain ⟨⟨ad', c, ha', hc, hK, hcell⟩, _⟩ := hr j hj
  rw [ha] at ha'
  obtain rfl := Option.some.inj ha'
  have hpz : zs.getD j default = p := by rw [List.getD_eq_getElem?_getD, hp]; rfl
  rw [hpz] at hK
  exact ⟨c, hc, hK, hcell⟩
end Go.Proofs.Ytjcibgopebpkiaa.RC
