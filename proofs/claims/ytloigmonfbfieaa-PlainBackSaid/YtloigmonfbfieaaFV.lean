/- A colour's value, and what its bits are. No condition. -/
import Derived.Test.YtloigmonfbfieaaFM6
namespace Go.Proofs.Ytloigmonfbfieaa.F
open Go.RowKit Go.Proofs.YtloigmonfbfieaaW.PrintWords Go.Proofs.YtloigmonfbfieaaW.PrintLast Go.Proofs.YtloigmonfbfieaaW.PrintMore Go.Proofs.Ytloigmonfbfieaa.B
set_option linter.unusedVariables false
set_option linter.unusedSimpArgs false
/-- All bits of the parts. -/
def allN (m1 m2 m3 s1 s2 s3 : Int) : Nat := mkN m1 s1 ||| mkN m2 s2 ||| mkN m3 s3
theorem sub_self (k S y : Nat) (hy : y ≤ 2 ^ k - 1) : (y * 2 ^ S) &&& ((2 ^ k - 1) * 2 ^ S) = y * 2 ^ S := by
  have a := Nat.two_pow_pos k
  rw [← part_at, Nat.mul_div_cancel _ (Nat.two_pow_pos S), Nat.and_two_pow_sub_one_eq_mod, Nat.mod_eq_of_lt (by omega)]
theorem plN_sub {n x m s : Int} (hn : n ≤ 32) (h : okP n m s) (hx : 0 ≤ x ∧ x ≤ 255) : plN x m s &&& mkN m s = plN x m s := by
  obtain ⟨k, S, hM, rfl, hs⟩ := h
  have hb := dn_bd hx (isM_bd hM)
  obtain ⟨u, hu⟩ : ∃ u : Nat, dn x m = u := ⟨(dn x m).toNat, by omega⟩
  have q := hM.2.2
  have t := Nat.two_pow_pos k
  rw [plN_nat hM hu, mkN_nat hM]
  exact sub_self k S u (by omega)
theorem sub_left {a M X : Nat} (h : a &&& M = a) : a &&& (M ||| X) = a := by
  apply Nat.eq_of_testBit_eq; intro i
  have h1 := congrArg (fun q => Nat.testBit q i) h
  simp only [Nat.testBit_and, Nat.testBit_or] at h1 ⊢
  cases ha : a.testBit i <;> cases hb : M.testBit i <;> cases hc : X.testBit i <;> simp_all
theorem sub_right {a M X : Nat} (h : a &&& M = a) : a &&& (X ||| M) = a := by rw [Nat.or_comm]; exact sub_left h
/-- A colour's value, as a Nat. -/
def valN (m1 m2 m3 s1 s2 s3 c : Int) : Nat := plN (cp c 0) m1 s1 + plN (cp c 1) m2 s2 + plN (cp c 2) m3 s3
theorem valN_sub {n d : Int} {tr : Bool} {m1 m2 m3 s1 s2 s3 : Int} (hv : Vd n d tr m1 m2 m3 s1 s2 s3) (c : Int) : valN m1 m2 m3 s1 s2 s3 c &&& allN m1 m2 m3 s1 s2 s3 = valN m1 m2 m3 s1 s2 s3 c := by
  have hn : n ≤ 32 := by have := hv.bits; omega
  have l1 := (plN_bd hn hv.p1 (cp_bd c 0)).2
  have l2 := (plN_bd hn hv.p2 (cp_bd c 1)).2
  have l3 := (plN_bd hn hv.p3 (cp_bd c 2)).2
  have a12 := pl_apart hn hv.p1 hv.p2 (cp_bd c 0) (cp_bd c 1) hv.a12
  have a13 := pl_apart hn hv.p1 hv.p3 (cp_bd c 0) (cp_bd c 2) hv.a13
  have a23 := pl_apart hn hv.p2 hv.p3 (cp_bd c 1) (cp_bd c 2) hv.a23
  have h12 := or_add (a := plN (cp c 0) m1 s1) (b := plN (cp c 1) m2 s2) (by omega) (by omega) a12
  have h123 := or_add (a := plN (cp c 0) m1 s1 ||| plN (cp c 1) m2 s2) (b := plN (cp c 2) m3 s3) (by omega) (by omega) (or_and.2 ⟨a13, a23⟩)
  have e : valN m1 m2 m3 s1 s2 s3 c = plN (cp c 0) m1 s1 ||| plN (cp c 1) m2 s2 ||| plN (cp c 2) m3 s3 := by unfold valN; omega
  have b1 : plN (cp c 0) m1 s1 &&& allN m1 m2 m3 s1 s2 s3 = plN (cp c 0) m1 s1 := sub_left (sub_left (plN_sub hn hv.p1 (cp_bd c 0)))
  have b2 : plN (cp c 1) m2 s2 &&& allN m1 m2 m3 s1 s2 s3 = plN (cp c 1) m2 s2 := sub_left (sub_right (plN_sub hn hv.p2 (cp_bd c 1)))
  have b3 : plN (cp c 2) m3 s3 &&& allN m1 m2 m3 s1 s2 s3 = plN (cp c 2) m3 s3 := sub_right (plN_sub hn hv.p3 (cp_bd c 2))
  rw [e, Nat.and_or_distrib_right, Nat.and_or_distrib_right, b1, b2, b3]
/-- A value's colour. -/
def colI (m1 m2 m3 s1 s2 s3 v : Int) : Int := upI (vp v m1 s1) m1 * 65536 + upI (vp v m2 s2) m2 * 256 + upI (vp v m3 s3) m3
theorem valN_f {n d : Int} {tr : Bool} {m1 m2 m3 s1 s2 s3 : Int} (hv : Vd n d tr m1 m2 m3 s1 s2 s3) (bg : Bool) (c : Int) (hb : X.format_Valid.f n d bg tr m1 m2 m3 s1 s2 s3 = some true) : X.format_Value.f n d bg tr m1 m2 m3 s1 s2 s3 c = some (valN m1 m2 m3 s1 s2 s3 c : Int) := value_f hv bg c hb
theorem rvalN_f {n d : Int} {tr : Bool} {m1 m2 m3 s1 s2 s3 : Int} (hv : Vd n d tr m1 m2 m3 s1 s2 s3) (bg : Bool) (c : Int) : X.miradorref13_Value.f n d bg tr m1 m2 m3 s1 s2 s3 c = some (valN m1 m2 m3 s1 s2 s3 c : Int) := rvalue_f hv bg c
theorem colI_f {n d : Int} {tr : Bool} {m1 m2 m3 s1 s2 s3 : Int} (hv : Vd n d tr m1 m2 m3 s1 s2 s3) (bg : Bool) (c : Int) (hb : X.format_Valid.f n d bg tr m1 m2 m3 s1 s2 s3 = some true) : X.format_Colour.f n d bg tr m1 m2 m3 s1 s2 s3 c = some (colI m1 m2 m3 s1 s2 s3 c) := colour_f hv bg c hb
theorem rcolI_f {n d : Int} {tr : Bool} {m1 m2 m3 s1 s2 s3 : Int} (hv : Vd n d tr m1 m2 m3 s1 s2 s3) (bg : Bool) (c : Int) : X.miradorref13_Colour.f n d bg tr m1 m2 m3 s1 s2 s3 c = some (colI m1 m2 m3 s1 s2 s3 c) := rcolour_f hv bg c
/-- What is left of a colour is its value's colour. -/
theorem colI_val {n d : Int} {tr : Bool} {m1 m2 m3 s1 s2 s3 : Int} (hv : Vd n d tr m1 m2 m3 s1 s2 s3) (c : Int) : colI m1 m2 m3 s1 s2 s3 (valN m1 m2 m3 s1 s2 s3 c : Int) = qI m1 m2 m3 c := by
  obtain ⟨a1, a2, a3⟩ := vp_all hv c
  have e : (valN m1 m2 m3 s1 s2 s3 c : Int) = ((plN (cp c 0) m1 s1 + plN (cp c 1) m2 s2 + plN (cp c 2) m3 s3 : Nat) : Int) := rfl
  unfold colI
  rw [e, a1, a2, a3]
  rfl
/-- A value of what is left is the value, if the parts are small. -/
theorem valN_left {n d : Int} {tr : Bool} {m1 m2 m3 s1 s2 s3 : Int} (hv : Vd n d tr m1 m2 m3 s1 s2 s3) (bg : Bool) (hb : X.format_Valid.f n d bg tr m1 m2 m3 s1 s2 s3 = some true) (h1 : m1 ≤ 255) (h2 : m2 ≤ 255) (h3 : m3 ≤ 255) (c : Int) : valN m1 m2 m3 s1 s2 s3 (qI m1 m2 m3 c) = valN m1 m2 m3 s1 s2 s3 c := by
  obtain ⟨C, e1, e2⟩ := value_back hv bg hb h1 h2 h3 (valN m1 m2 m3 s1 s2 s3 c) (valN_sub hv c)
  rw [colI_f hv bg _ hb, colI_val hv] at e1
  obtain rfl := Option.some.inj e1
  rw [valN_f hv bg _ hb] at e2
  have := Option.some.inj e2
  omega
end Go.Proofs.Ytloigmonfbfieaa.F
