/- A format: what is left of a colour, in plain numbers. No condition. -/
import Derived.Test.YtloigmonfbfieaaFM3
namespace Go.Proofs.Ytloigmonfbfieaa.F
open Go.RowKit Go.Proofs.YtloigmonfbfieaaW.PrintWords Go.Proofs.YtloigmonfbfieaaW.PrintLast Go.Proofs.YtloigmonfbfieaaW.PrintMore Go.Proofs.Ytloigmonfbfieaa.B
set_option linter.unusedVariables false
set_option linter.unusedSimpArgs false
def dnN (x m : Nat) : Nat := (x * m + 127) / 255
def upN (v m : Nat) : Nat := (v * 255 + m / 2) / m
theorem small_all : ((List.range 8).all fun j => (List.range (2 ^ (j + 1))).all fun v => dnN (upN v (2 ^ (j + 1) - 1)) (2 ^ (j + 1) - 1) == v) = true := by decide +kernel
theorem large_all : ((List.range 9).all fun j => (List.range 256).all fun x => upN (dnN x (2 ^ (j + 8) - 1)) (2 ^ (j + 8) - 1) == x) = true := by decide +kernel
theorem dn_nat (x m : Nat) : dn (x : Int) (m : Int) = (dnN x m : Int) := by unfold dn dnN; rw [Int.natCast_ediv, Int.natCast_add, Int.natCast_mul]; rfl
theorem up_nat (v m : Nat) : upI (v : Int) (m : Int) = (upN v m : Int) := by unfold upI upN; rw [Int.natCast_ediv, Int.natCast_add, Int.natCast_mul, Int.natCast_ediv]; rfl
/-- A value's part leads back to itself. -/
theorem dn_up {m v : Int} {k : Nat} (hM : isM m k) (hk : k ≤ 8) (hv : 0 ≤ v ∧ v ≤ m) : dn (upI v m) m = v := by
  obtain ⟨v, rfl⟩ : ∃ q : Nat, v = q := ⟨v.toNat, by omega⟩
  obtain ⟨h1, h2, rfl⟩ := hM
  rw [up_nat, dn_nat]
  have h := small_all
  rw [List.all_eq_true] at h
  have h3 := h (k - 1) (List.mem_range.2 (by omega))
  rw [List.all_eq_true] at h3
  have e : k - 1 + 1 = k := by omega
  rw [e] at h3
  have hp := Nat.two_pow_pos k
  have h4 := h3 v (List.mem_range.2 (by omega))
  rw [beq_iff_eq] at h4
  rw [h4]
/-- A colour's part is not lost. -/
theorem up_dn {m x : Int} {k : Nat} (hM : isM m k) (hk : 8 ≤ k) (hx : 0 ≤ x ∧ x ≤ 255) : upI (dn x m) m = x := by
  obtain ⟨x, rfl⟩ : ∃ q : Nat, x = q := ⟨x.toNat, by omega⟩
  obtain ⟨h1, h2, rfl⟩ := hM
  rw [dn_nat, up_nat]
  have h := large_all
  rw [List.all_eq_true] at h
  have h3 := h (k - 8) (List.mem_range.2 (by omega))
  rw [List.all_eq_true] at h3
  have e : k - 8 + 8 = k := by omega
  rw [e] at h3
  have h4 := h3 x (List.mem_range.2 (by omega))
  rw [beq_iff_eq] at h4
  rw [h4]
/-- What is left of a part, twice, is as once. -/
theorem up_dn_up {m x : Int} {k : Nat} (hM : isM m k) (hx : 0 ≤ x ∧ x ≤ 255) : upI (dn (upI (dn x m) m) m) m = upI (dn x m) m := by
  have hd := dn_bd hx (isM_bd hM)
  rcases Nat.lt_or_ge k 9 with h | h
  · rw [dn_up hM (by omega) hd]
  · have hu := upI_bd (isM_bd hM) hd
    exact up_dn hM (by omega) hu
/-- A part alone, out of three that lie apart. -/
theorem part_out {k j S T y z : Nat} (hy : y ≤ 2 ^ k - 1) (hz : z ≤ 2 ^ j - 1) (h : ((2 ^ k - 1) * 2 ^ S) &&& ((2 ^ j - 1) * 2 ^ T) = 0) (i : Nat) (hi : i < k) : (z * 2 ^ T).testBit (i + S) = false := by
  have a := Nat.two_pow_pos k
  have b := Nat.two_pow_pos j
  have h1 := congrArg (fun q => Nat.testBit q (i + S)) h
  simp only [Nat.zero_testBit, Nat.testBit_and] at h1
  rw [Nat.mul_comm (2 ^ k - 1), Nat.mul_comm (2 ^ j - 1), Nat.testBit_two_pow_mul, Nat.testBit_two_pow_mul, Nat.testBit_two_pow_sub_one, Nat.testBit_two_pow_sub_one, decide_eq_true (show i + S ≥ S by omega), decide_eq_true (show i + S - S < k by omega)] at h1
  rw [Nat.mul_comm z, Nat.testBit_two_pow_mul]
  by_cases hc : i + S - T < j
  · rw [decide_eq_true hc] at h1
    cases hT : decide (i + S ≥ T) with
    | false => simp
    | true => rw [hT] at h1; simp at h1
  · rw [Nat.testBit_lt_two_pow (x := z) (i := i + S - T) (by
      have := Nat.pow_le_pow_right (show 0 < 2 by decide) (show j ≤ i + S - T by omega)
      omega)]
    simp
theorem extract1 {k S y : Nat} {rest : Nat} (hy : y ≤ 2 ^ k - 1) (hr : ∀ i, i < k → rest.testBit (i + S) = false) : ((y * 2 ^ S ||| rest) / 2 ^ S) &&& (2 ^ k - 1) = y := by
  have a := Nat.two_pow_pos k
  apply Nat.eq_of_testBit_eq
  intro i
  rw [Nat.testBit_and, Nat.testBit_two_pow_sub_one, Nat.testBit_div_two_pow, Nat.testBit_or, Nat.mul_comm y, Nat.testBit_two_pow_mul]
  by_cases hi : i < k
  · rw [hr i hi, decide_eq_true hi]
    simp
  · rw [decide_eq_false hi, Bool.and_false]
    exact (Nat.testBit_lt_two_pow (by
      have := Nat.pow_le_pow_right (show 0 < 2 by decide) (show k ≤ i by omega)
      omega)).symm
theorem plN_nat {m x : Int} {k S u : Nat} (hM : isM m k) (hu : dn x m = u) : plN x m (S : Int) = u * 2 ^ S := by
  unfold plN
  rw [hu, Int.toNat_natCast, show ((u : Int) * 2 ^ S) = ((u * 2 ^ S : Nat) : Int) by push_cast; rfl, Int.toNat_natCast]
theorem mkN_nat {m : Int} {k S : Nat} (hM : isM m k) : mkN m (S : Int) = (2 ^ k - 1) * 2 ^ S := by
  unfold mkN
  rw [hM.2.2, Int.toNat_natCast, show (((2 ^ k - 1 : Nat) : Int) * 2 ^ S) = (((2 ^ k - 1) * 2 ^ S : Nat) : Int) by push_cast; rfl, Int.toNat_natCast]
/-- One part of a value that is three. -/
theorem vp_one {n m1 s1 m2 s2 m3 s3 x1 x2 x3 : Int} (hn : n ≤ 32) (h1 : okP n m1 s1) (h2 : okP n m2 s2) (h3 : okP n m3 s3) (hx1 : 0 ≤ x1 ∧ x1 ≤ 255) (hx2 : 0 ≤ x2 ∧ x2 ≤ 255) (hx3 : 0 ≤ x3 ∧ x3 ≤ 255)
    (a12 : mkN m1 s1 &&& mkN m2 s2 = 0) (a13 : mkN m1 s1 &&& mkN m3 s3 = 0) (a23 : mkN m2 s2 &&& mkN m3 s3 = 0) : vp ((plN x1 m1 s1 + plN x2 m2 s2 + plN x3 m3 s3 : Nat) : Int) m1 s1 = dn x1 m1 := by
  have l1 := (plN_bd hn h1 hx1).2
  have l2 := (plN_bd hn h2 hx2).2
  have l3 := (plN_bd hn h3 hx3).2
  have p12 := pl_apart hn h1 h2 hx1 hx2 a12
  have p13 := pl_apart hn h1 h3 hx1 hx3 a13
  have p23 := pl_apart hn h2 h3 hx2 hx3 a23
  have e23 := or_add (a := plN x2 m2 s2) (b := plN x3 m3 s3) (by omega) (by omega) p23
  have hz : plN x1 m1 s1 &&& (plN x2 m2 s2 ||| plN x3 m3 s3) = 0 := by
    rw [Nat.and_comm]
    exact or_and.2 ⟨by rw [Nat.and_comm]; exact p12, by rw [Nat.and_comm]; exact p13⟩
  have e123 := or_add (a := plN x1 m1 s1) (b := plN x2 m2 s2 ||| plN x3 m3 s3) (by omega) (by omega) hz
  rw [show plN x1 m1 s1 + plN x2 m2 s2 + plN x3 m3 s3 = plN x1 m1 s1 ||| (plN x2 m2 s2 ||| plN x3 m3 s3) by rw [e123, e23]; omega]
  obtain ⟨k1, S1, hM1, rfl, hs1⟩ := h1
  obtain ⟨k2, S2, hM2, rfl, hs2⟩ := h2
  obtain ⟨k3, S3, hM3, rfl, hs3⟩ := h3
  have b1 := dn_bd hx1 (isM_bd hM1)
  have b2 := dn_bd hx2 (isM_bd hM2)
  have b3 := dn_bd hx3 (isM_bd hM3)
  obtain ⟨u1, hu1⟩ : ∃ u : Nat, dn x1 m1 = u := ⟨(dn x1 m1).toNat, by omega⟩
  obtain ⟨u2, hu2⟩ : ∃ u : Nat, dn x2 m2 = u := ⟨(dn x2 m2).toNat, by omega⟩
  obtain ⟨u3, hu3⟩ : ∃ u : Nat, dn x3 m3 = u := ⟨(dn x3 m3).toNat, by omega⟩
  have q1 := hM1.2.2
  have q2 := hM2.2.2
  have q3 := hM3.2.2
  have t1 := Nat.two_pow_pos k1
  have t2 := Nat.two_pow_pos k2
  have t3 := Nat.two_pow_pos k3
  rw [mkN_nat hM1, mkN_nat hM2] at a12
  rw [mkN_nat hM1, mkN_nat hM3] at a13
  rw [plN_nat hM1 hu1, plN_nat hM2 hu2, plN_nat hM3 hu3, hu1]
  rw [plN_nat hM1 hu1, plN_nat hM2 hu2, plN_nat hM3 hu3] at e123
  rw [plN_nat hM2 hu2, plN_nat hM3 hu3] at e23
  rw [plN_nat hM1 hu1] at l1
  rw [plN_nat hM2 hu2] at l2
  rw [plN_nat hM3 hu3] at l3
  have hx := extract1 (k := k1) (S := S1) (y := u1) (rest := u2 * 2 ^ S2 ||| u3 * 2 ^ S3) (by omega) (fun i hi => by
    rw [Nat.testBit_or, part_out (y := u1) (by omega) (show u2 ≤ 2 ^ k2 - 1 by omega) a12 i hi, part_out (y := u1) (by omega) (show u3 ≤ 2 ^ k3 - 1 by omega) a13 i hi]; rfl)
  unfold vp
  rw [Int.toNat_natCast, Nat.min_eq_left (by omega), q1]
  have hlt : (u1 * 2 ^ S1 ||| (u2 * 2 ^ S2 ||| u3 * 2 ^ S3)) < 2 ^ 62 := by rw [e123, e23]; omega
  rw [show (((u1 * 2 ^ S1 ||| (u2 * 2 ^ S2 ||| u3 * 2 ^ S3) : Nat) : Int) / 2 ^ S1) = (((u1 * 2 ^ S1 ||| (u2 * 2 ^ S2 ||| u3 * 2 ^ S3)) / 2 ^ S1 : Nat) : Int) by rw [Int.natCast_ediv]; push_cast; rfl]
  rw [andI _ _ (Nat.lt_of_le_of_lt (Nat.div_le_self _ _) hlt) (by have := pow_le16 hM1.2.1; omega), hx]
end Go.Proofs.Ytloigmonfbfieaa.F
