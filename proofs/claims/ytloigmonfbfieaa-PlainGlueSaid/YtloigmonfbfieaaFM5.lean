/- A format: what is left of a colour, whole. No condition. -/
import Derived.Test.YtloigmonfbfieaaFM4
namespace Go.Proofs.Ytloigmonfbfieaa.F
open Go.RowKit Go.Proofs.YtloigmonfbfieaaW.PrintWords Go.Proofs.YtloigmonfbfieaaW.PrintLast Go.Proofs.YtloigmonfbfieaaW.PrintMore Go.Proofs.Ytloigmonfbfieaa.B
set_option linter.unusedVariables false
set_option linter.unusedSimpArgs false
theorem and_any (a : Int) (i : Nat) (hi : i ≤ 40) : Go.bits .and .i64 a ((2 ^ i - 1 : Nat) : Int) = (((a % 18446744073709551616).toNat % 2 ^ i : Nat) : Int) := by
  have hp : 2 ^ i ≤ 2 ^ 40 := Nat.pow_le_pow_right (by decide) hi
  have hp2 : (2 : Nat) ^ 40 = 1099511627776 := by decide
  have hpos := Nat.two_pow_pos i
  have h1 : Go.bits .and .i64 a ((2 ^ i - 1 : Nat) : Int) = IntKind.i64.wrap (((BitVec.ofInt 64 a &&& BitVec.ofInt 64 ((2 ^ i - 1 : Nat) : Int)).toNat : Nat) : Int) := rfl
  have h2 : (BitVec.ofInt 64 a &&& BitVec.ofInt 64 ((2 ^ i - 1 : Nat) : Int)).toNat = (a % 18446744073709551616).toNat % 2 ^ i := by
    rw [BitVec.toNat_and, BitVec.ofInt_natCast, BitVec.toNat_ofNat, Nat.mod_eq_of_lt (show 2 ^ i - 1 < 2 ^ 64 by omega), BitVec.toNat_ofInt, Nat.and_two_pow_sub_one_eq_mod]
    rfl
  have h3 := Nat.mod_lt (a % 18446744073709551616).toNat hpos
  rw [h1, h2, wrapsI _ (by omega) (by omega)]
theorem and255 (a : Int) : Go.bits .and .i64 a 255 = a % 256 := by
  have := and_any a 8 (by decide)
  rw [show ((2 ^ 8 - 1 : Nat) : Int) = 255 from rfl] at this
  rw [this, show (2 : Nat) ^ 8 = 256 from rfl]
  omega
theorem and24 (a : Int) : Go.bits .and .i64 a 16777215 = a % 16777216 := by
  have := and_any a 24 (by decide)
  rw [show ((2 ^ 24 - 1 : Nat) : Int) = 16777215 from rfl] at this
  rw [this, show (2 : Nat) ^ 24 = 16777216 from rfl]
  omega
theorem cp0 (c : Int) : cp c 0 = c / 65536 % 256 := by unfold cp; rw [and255]; rfl
theorem cp1 (c : Int) : cp c 1 = c / 256 % 256 := by unfold cp; rw [and255]; rfl
theorem cp2 (c : Int) : cp c 2 = c % 256 := by unfold cp; rw [and255, show c / 2 ^ (8 * (2 - 2)) = c by simp]
/-- What is left of a colour. -/
def qI (m1 m2 m3 c : Int) : Int := upI (dn (cp c 0) m1) m1 * 65536 + upI (dn (cp c 1) m2) m2 * 256 + upI (dn (cp c 2) m3) m3
theorem okP_bd {n m s : Int} (h : okP n m s) : 1 ≤ m ∧ m ≤ 65535 := by obtain ⟨_, _, h, _⟩ := h; exact isM_bd h
theorem g_bd {m : Int} (hm : 1 ≤ m ∧ m ≤ 65535) (c : Int) (i : Nat) : 0 ≤ upI (dn (cp c i) m) m ∧ upI (dn (cp c i) m) m ≤ 255 := upI_bd hm (dn_bd (cp_bd c i) hm)
theorem vp_all {n d : Int} {tr : Bool} {m1 m2 m3 s1 s2 s3 : Int} (hv : Vd n d tr m1 m2 m3 s1 s2 s3) (c : Int) :
    vp ((plN (cp c 0) m1 s1 + plN (cp c 1) m2 s2 + plN (cp c 2) m3 s3 : Nat) : Int) m1 s1 = dn (cp c 0) m1 ∧ vp ((plN (cp c 0) m1 s1 + plN (cp c 1) m2 s2 + plN (cp c 2) m3 s3 : Nat) : Int) m2 s2 = dn (cp c 1) m2 ∧ vp ((plN (cp c 0) m1 s1 + plN (cp c 1) m2 s2 + plN (cp c 2) m3 s3 : Nat) : Int) m3 s3 = dn (cp c 2) m3 := by
  have hn : n ≤ 32 := by have := hv.bits; omega
  refine ⟨vp_one hn hv.p1 hv.p2 hv.p3 (cp_bd c 0) (cp_bd c 1) (cp_bd c 2) hv.a12 hv.a13 hv.a23, ?_, ?_⟩
  · have := vp_one hn hv.p2 hv.p1 hv.p3 (cp_bd c 1) (cp_bd c 0) (cp_bd c 2) (by rw [Nat.and_comm]; exact hv.a12) hv.a23 hv.a13
    rw [Nat.add_comm (plN (cp c 1) m2 s2)] at this
    exact this
  · have := vp_one hn hv.p3 hv.p1 hv.p2 (cp_bd c 2) (cp_bd c 0) (cp_bd c 1) (by rw [Nat.and_comm]; exact hv.a13) (by rw [Nat.and_comm]; exact hv.a23) hv.a12
    rw [show plN (cp c 2) m3 s3 + plN (cp c 0) m1 s1 + plN (cp c 1) m2 s2 = plN (cp c 0) m1 s1 + plN (cp c 1) m2 s2 + plN (cp c 2) m3 s3 by omega] at this
    exact this
theorem qI_bd {m1 m2 m3 : Int} (h1 : 1 ≤ m1 ∧ m1 ≤ 65535) (h2 : 1 ≤ m2 ∧ m2 ≤ 65535) (h3 : 1 ≤ m3 ∧ m3 ≤ 65535) (c : Int) : 0 ≤ qI m1 m2 m3 c ∧ qI m1 m2 m3 c ≤ 16777215 := by
  have a := g_bd h1 c 0
  have b := g_bd h2 c 1
  have d := g_bd h3 c 2
  unfold qI
  omega
theorem qI_cp {m1 m2 m3 : Int} (h1 : 1 ≤ m1 ∧ m1 ≤ 65535) (h2 : 1 ≤ m2 ∧ m2 ≤ 65535) (h3 : 1 ≤ m3 ∧ m3 ≤ 65535) (c : Int) : cp (qI m1 m2 m3 c) 0 = upI (dn (cp c 0) m1) m1 ∧ cp (qI m1 m2 m3 c) 1 = upI (dn (cp c 1) m2) m2 ∧ cp (qI m1 m2 m3 c) 2 = upI (dn (cp c 2) m3) m3 := by
  have a := g_bd h1 c 0
  have b := g_bd h2 c 1
  have d := g_bd h3 c 2
  rw [cp0 (qI m1 m2 m3 c), cp1 (qI m1 m2 m3 c), cp2 (qI m1 m2 m3 c)]
  unfold qI
  omega
theorem qI_twice {n d : Int} {tr : Bool} {m1 m2 m3 s1 s2 s3 : Int} (hv : Vd n d tr m1 m2 m3 s1 s2 s3) (c : Int) : qI m1 m2 m3 (qI m1 m2 m3 c) = qI m1 m2 m3 c := by
  obtain ⟨a, b, d⟩ := qI_cp (okP_bd hv.p1) (okP_bd hv.p2) (okP_bd hv.p3) c
  have e : qI m1 m2 m3 (qI m1 m2 m3 c) = upI (dn (cp (qI m1 m2 m3 c) 0) m1) m1 * 65536 + upI (dn (cp (qI m1 m2 m3 c) 1) m2) m2 * 256 + upI (dn (cp (qI m1 m2 m3 c) 2) m3) m3 := rfl
  obtain ⟨_, _, M1, _⟩ := hv.p1
  obtain ⟨_, _, M2, _⟩ := hv.p2
  obtain ⟨_, _, M3, _⟩ := hv.p3
  rw [e, a, b, d, up_dn_up M1 (cp_bd c 0), up_dn_up M2 (cp_bd c 1), up_dn_up M3 (cp_bd c 2)]
  rfl
theorem qI_low (m1 m2 m3 c : Int) : qI m1 m2 m3 c = qI m1 m2 m3 (c % 16777216) := by
  have a : cp c 0 = cp (c % 16777216) 0 := by rw [cp0, cp0]; omega
  have b : cp c 1 = cp (c % 16777216) 1 := by rw [cp1, cp1]; omega
  have d : cp c 2 = cp (c % 16777216) 2 := by rw [cp2, cp2]; omega
  unfold qI
  rw [a, b, d]
theorem isM_large {m : Int} {k : Nat} (h : isM m k) (hm : 255 ≤ m) : 8 ≤ k := by
  rcases Nat.lt_or_ge k 8 with h1 | h1
  · have := Nat.pow_le_pow_right (show 0 < 2 by decide) (show k ≤ 7 by omega)
    have := h.2.2
    omega
  · exact h1
theorem isM_small {m : Int} {k : Nat} (h : isM m k) (hm : m ≤ 255) : k ≤ 8 := by
  rcases Nat.lt_or_ge 8 k with h1 | h1
  · have := Nat.pow_le_pow_right (show 0 < 2 by decide) (show 9 ≤ k by omega)
    have := h.2.2
    omega
  · exact h1
theorem qI_large {n d : Int} {tr : Bool} {m1 m2 m3 s1 s2 s3 : Int} (hv : Vd n d tr m1 m2 m3 s1 s2 s3) (h1 : 255 ≤ m1) (h2 : 255 ≤ m2) (h3 : 255 ≤ m3) (c : Int) (hc : 0 ≤ c ∧ c < 16777216) : qI m1 m2 m3 c = c := by
  obtain ⟨_, _, M1, _⟩ := hv.p1
  obtain ⟨_, _, M2, _⟩ := hv.p2
  obtain ⟨_, _, M3, _⟩ := hv.p3
  unfold qI
  rw [up_dn M1 (isM_large M1 h1) (cp_bd c 0), up_dn M2 (isM_large M2 h2) (cp_bd c 1), up_dn M3 (isM_large M3 h3) (cp_bd c 2), cp0, cp1, cp2]
  omega
/-- A part of a value, at its place. -/
theorem part_at {v k S : Nat} : ((v / 2 ^ S) &&& (2 ^ k - 1)) * 2 ^ S = v &&& ((2 ^ k - 1) * 2 ^ S) := by
  apply Nat.eq_of_testBit_eq
  intro i
  rw [Nat.mul_comm, Nat.mul_comm (2 ^ k - 1), Nat.testBit_and, Nat.testBit_two_pow_mul, Nat.testBit_two_pow_mul, Nat.testBit_and, Nat.testBit_div_two_pow]
  by_cases hi : i ≥ S
  · rw [decide_eq_true hi, Nat.sub_add_cancel hi]; simp
  · rw [decide_eq_false hi]; simp
end Go.Proofs.Ytloigmonfbfieaa.F
