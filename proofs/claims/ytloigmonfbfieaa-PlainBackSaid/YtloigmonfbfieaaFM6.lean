/- A format: a value of parts up to 255 leads back to itself. No condition. -/
import Derived.Test.YtloigmonfbfieaaFM5
namespace Go.Proofs.Ytloigmonfbfieaa.F
open Go.RowKit Go.Proofs.YtloigmonfbfieaaW.PrintWords Go.Proofs.YtloigmonfbfieaaW.PrintLast Go.Proofs.YtloigmonfbfieaaW.PrintMore Go.Proofs.Ytloigmonfbfieaa.B
set_option linter.unusedVariables false
set_option linter.unusedSimpArgs false
theorem and_nat (a : Int) (M : Nat) (hM : M < 2 ^ 62) : Go.bits .and .i64 a (M : Int) = (((a % 18446744073709551616).toNat &&& M : Nat) : Int) := by
  have h1 : Go.bits .and .i64 a (M : Int) = IntKind.i64.wrap (((BitVec.ofInt 64 a &&& BitVec.ofInt 64 (M : Int)).toNat : Nat) : Int) := rfl
  have h2 : (BitVec.ofInt 64 a &&& BitVec.ofInt 64 (M : Int)).toNat = (a % 18446744073709551616).toNat &&& M := by
    rw [BitVec.toNat_and, BitVec.ofInt_natCast, BitVec.toNat_ofNat, Nat.mod_eq_of_lt (show M < 2 ^ 64 by omega), BitVec.toNat_ofInt]
    rfl
  have h3 : (a % 18446744073709551616).toNat &&& M ≤ M := Nat.and_le_right
  rw [h1, h2, wrapsI _ (by omega) (by omega)]
/-- A value's part, as a Nat, at its place. -/
theorem vp_at {n m s : Int} (hn : n ≤ 32) (h : okP n m s) (v : Nat) (hv : v < 2 ^ 62) : vp (v : Int) m s * 2 ^ s.toNat = ((v &&& mkN m s : Nat) : Int) := by
  obtain ⟨k, S, hM, rfl, hs⟩ := h
  have := hM.1
  have hp := pow_le16 hM.2.1
  rw [mkN_nat hM, ← part_at]
  unfold vp
  rw [Int.toNat_natCast, Nat.min_eq_left (by omega), hM.2.2, show (((v : Nat) : Int) / 2 ^ S) = ((v / 2 ^ S : Nat) : Int) by rw [Int.natCast_ediv]; push_cast; rfl, andI _ _ (Nat.lt_of_le_of_lt (Nat.div_le_self _ _) hv) (by omega)]
  push_cast; rfl
theorem plN_up {n m s : Int} (hn : n ≤ 32) (h : okP n m s) (hm : m ≤ 255) (v : Nat) (hv : v < 2 ^ 62) : plN (upI (vp (v : Int) m s) m) m s = v &&& mkN m s := by
  have h1 := vp_at hn h v hv
  obtain ⟨k, S, hM, hs⟩ := h
  have hb := vp_bd (v : Int) (s := s) (isM_bd hM)
  unfold plN
  rw [dn_up hM (isM_small hM hm) hb, h1, Int.toNat_natCast]
theorem value_back {n d : Int} {tr : Bool} {m1 m2 m3 s1 s2 s3 : Int} (hv : Vd n d tr m1 m2 m3 s1 s2 s3) (bg : Bool) (hb : X.format_Valid.f n d bg tr m1 m2 m3 s1 s2 s3 = some true) (h1 : m1 ≤ 255) (h2 : m2 ≤ 255) (h3 : m3 ≤ 255) (v : Nat) (hM : v &&& (mkN m1 s1 ||| mkN m2 s2 ||| mkN m3 s3) = v) :
    ∃ C : Int, X.format_Colour.f n d bg tr m1 m2 m3 s1 s2 s3 (v : Int) = some C ∧ X.format_Value.f n d bg tr m1 m2 m3 s1 s2 s3 C = some (v : Int) := by
  have hn : n ≤ 32 := by have := hv.bits; omega
  have l1 := (mkN_bd hn hv.p1).2.2.1
  have l2 := (mkN_bd hn hv.p2).2.2.1
  have l3 := (mkN_bd hn hv.p3).2.2.1
  have lM : (mkN m1 s1 ||| mkN m2 s2) ||| mkN m3 s3 < 2 ^ 33 := Nat.or_lt_two_pow (Nat.or_lt_two_pow (by omega) (by omega)) (by omega)
  have lv : v < 2 ^ 62 := by
    have : v &&& (mkN m1 s1 ||| mkN m2 s2 ||| mkN m3 s3) ≤ (mkN m1 s1 ||| mkN m2 s2 ||| mkN m3 s3) := Nat.and_le_right
    omega
  have b1 := okP_bd hv.p1
  have b2 := okP_bd hv.p2
  have b3 := okP_bd hv.p3
  refine ⟨_, colour_f hv bg (v : Int) hb, ?_⟩
  have u1 := upI_bd b1 (vp_bd (v : Int) (s := s1) b1)
  have u2 := upI_bd b2 (vp_bd (v : Int) (s := s2) b2)
  have u3 := upI_bd b3 (vp_bd (v : Int) (s := s3) b3)
  have p1 := plN_up hn hv.p1 h1 v lv
  have p2 := plN_up hn hv.p2 h2 v lv
  have p3 := plN_up hn hv.p3 h3 v lv
  obtain ⟨g1, hg1⟩ : ∃ g, upI (vp (v : Int) m1 s1) m1 = g := ⟨_, rfl⟩
  obtain ⟨g2, hg2⟩ : ∃ g, upI (vp (v : Int) m2 s2) m2 = g := ⟨_, rfl⟩
  obtain ⟨g3, hg3⟩ : ∃ g, upI (vp (v : Int) m3 s3) m3 = g := ⟨_, rfl⟩
  rw [hg1] at u1 p1 ⊢
  rw [hg2] at u2 p2 ⊢
  rw [hg3] at u3 p3 ⊢
  rw [value_f hv bg _ hb]
  have c0 : cp (g1 * 65536 + g2 * 256 + g3) 0 = g1 := by rw [cp0]; omega
  have c1 : cp (g1 * 65536 + g2 * 256 + g3) 1 = g2 := by rw [cp1]; omega
  have c2 : cp (g1 * 65536 + g2 * 256 + g3) 2 = g3 := by rw [cp2]; omega
  rw [c0, c1, c2, p1, p2, p3]
  have z12 : (v &&& mkN m1 s1) &&& (v &&& mkN m2 s2) = 0 := by
    apply Nat.eq_of_testBit_eq; intro i
    have h := congrArg (fun q => Nat.testBit q i) hv.a12
    simp only [Nat.testBit_and, Nat.zero_testBit] at h ⊢
    cases ha : (mkN m1 s1).testBit i <;> cases hb : (mkN m2 s2).testBit i <;> simp_all
  have z13 : (v &&& mkN m1 s1) &&& (v &&& mkN m3 s3) = 0 := by
    apply Nat.eq_of_testBit_eq; intro i
    have h := congrArg (fun q => Nat.testBit q i) hv.a13
    simp only [Nat.testBit_and, Nat.zero_testBit] at h ⊢
    cases ha : (mkN m1 s1).testBit i <;> cases hb : (mkN m3 s3).testBit i <;> simp_all
  have z23 : (v &&& mkN m2 s2) &&& (v &&& mkN m3 s3) = 0 := by
    apply Nat.eq_of_testBit_eq; intro i
    have h := congrArg (fun q => Nat.testBit q i) hv.a23
    simp only [Nat.testBit_and, Nat.zero_testBit] at h ⊢
    cases ha : (mkN m2 s2).testBit i <;> cases hb : (mkN m3 s3).testBit i <;> simp_all
  have r1 : v &&& mkN m1 s1 ≤ mkN m1 s1 := Nat.and_le_right
  have r2 : v &&& mkN m2 s2 ≤ mkN m2 s2 := Nat.and_le_right
  have r3 : v &&& mkN m3 s3 ≤ mkN m3 s3 := Nat.and_le_right
  have e12 := or_add (a := v &&& mkN m1 s1) (b := v &&& mkN m2 s2) (by omega) (by omega) z12
  have e123 := or_add (a := (v &&& mkN m1 s1) ||| (v &&& mkN m2 s2)) (b := v &&& mkN m3 s3) (by omega) (by omega) (or_and.2 ⟨z13, z23⟩)
  have e : (v &&& mkN m1 s1) ||| (v &&& mkN m2 s2) ||| (v &&& mkN m3 s3) = v := by
    rw [← Nat.and_or_distrib_left, ← Nat.and_or_distrib_left]; exact hM
  congr 2
  omega
end Go.Proofs.Ytloigmonfbfieaa.F
