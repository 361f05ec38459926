/- A format: which may be, in the program as in the document. No condition. -/
import Derived.Test.YtclikkhkhoicfaaFM1
namespace Go.Proofs.Ytclikkhkhoicfaa.F
open Go.RowKit Go.Proofs.YtclikkhkhoicfaaW.PrintWords Go.Proofs.YtclikkhkhoicfaaW.PrintLast Go.Proofs.YtclikkhkhoicfaaW.PrintMore Go.Proofs.Ytclikkhkhoicfaa.B
set_option linter.unusedVariables false
set_option linter.unusedSimpArgs false
/-- A part's bits. -/
def mkN (m s : Int) : Nat := (m * 2 ^ s.toNat).toNat
theorem mkN_bd {n m s : Int} (hn : n ≤ 32) (h : okP n m s) : m * 2 ^ s.toNat = (mkN m s : Int) ∧ mkN m s < 2 ^ n.toNat ∧ mkN m s < 4294967296 ∧ 0 ≤ s ∧ s ≤ 32 := by
  obtain ⟨k, S, hM, rfl, hs⟩ := h
  have hk := hM.1
  have h0 : (0 : Int) ≤ m * 2 ^ S := Int.mul_nonneg (by have := isM_bd hM; omega) (Int.le_of_lt (Int.pow_pos (by decide)))
  have h1 : m * 2 ^ S = (((2 ^ k - 1) * 2 ^ S : Nat) : Int) := by rw [hM.2.2]; push_cast; rfl
  have h2 : (2 ^ k - 1) * 2 ^ S < 2 ^ (k + S) := by
    rw [Nat.pow_add]
    exact Nat.mul_lt_mul_of_pos_right (Nat.sub_lt (Nat.two_pow_pos _) (by decide)) (Nat.two_pow_pos _)
  have h3 : 2 ^ (k + S) ≤ 2 ^ n.toNat := Nat.pow_le_pow_right (by decide) (by omega)
  have h4 : 2 ^ n.toNat ≤ 2 ^ 32 := Nat.pow_le_pow_right (by decide) (by omega)
  have h5 : mkN m (S : Int) = (2 ^ k - 1) * 2 ^ S := by unfold mkN; rw [Int.toNat_natCast, h1, Int.toNat_natCast]
  rw [Int.toNat_natCast]
  refine ⟨by rw [h1, h5], by omega, ?_, by omega, by omega⟩
  have h6 : (2 : Nat) ^ 32 = 4294967296 := by decide
  omega
theorem mask_f {n m s : Int} (hn : n ≤ 32) (h : okP n m s) : X.format_part_mask.f m s = some (mkN m s : Int) ∧ X.miradorref13_mask.f m s = some (mkN m s : Int) := by
  obtain ⟨h1, h2, h3, h4, h5⟩ := mkN_bd hn h
  have e : shl .i64 m s = (mkN m s : Int) := by
    unfold shl
    rw [Nat.min_eq_left (by show s.toNat ≤ 64; omega), h1, IntKind.wrap_i64]; omega
  unfold X.format_part_mask.f X.miradorref13_mask.f
  rw [if_pos h4, e]
  exact ⟨rfl, rfl⟩
/-- A format that may be. -/
structure Vd (n d : Int) (tr : Bool) (m1 m2 m3 s1 s2 s3 : Int) : Prop where
  bits : n = 8 ∨ n = 16 ∨ n = 32
  depth : 1 ≤ d ∧ d ≤ n
  true_ : tr = true
  p1 : okP n m1 s1
  p2 : okP n m2 s2
  p3 : okP n m3 s3
  a12 : mkN m1 s1 &&& mkN m2 s2 = 0
  a13 : mkN m1 s1 &&& mkN m3 s3 = 0
  a23 : mkN m2 s2 &&& mkN m3 s3 = 0
theorem bool_eq {a b : Bool} {p : Prop} (h : a = true ↔ p) (k : b = true ↔ p) : a = b := by
  cases a <;> cases b <;> simp_all
theorem or_and {a b c : Nat} : ((a ||| b) &&& c = 0) ↔ (a &&& c = 0 ∧ b &&& c = 0) := by
  rw [Nat.and_or_distrib_right]
  constructor
  · intro h
    exact ⟨by have : a &&& c ≤ (a &&& c) ||| (b &&& c) := Nat.left_le_or; omega, by have : b &&& c ≤ (a &&& c) ||| (b &&& c) := Nat.right_le_or; omega⟩
  · rintro ⟨h1, h2⟩
    rw [h1, h2]; rfl
/-- Which formats may be, in the program. -/
theorem valid_p (n d : Int) (bg tr : Bool) (m1 m2 m3 s1 s2 s3 : Int) : ∃ b, X.format_Valid.f n d bg tr m1 m2 m3 s1 s2 s3 = some b ∧ (b = true ↔ Vd n d tr m1 m2 m3 s1 s2 s3) := by
  unfold X.format_Valid.f
  by_cases hn : n = 8 ∨ n = 16 ∨ n = 32
  · have hn2 : 0 ≤ n ∧ n ≤ 32 := by omega
    rw [if_pos hn]
    by_cases h1 : d < 1
    · rw [if_pos h1]
      exact ⟨false, rfl, by simp, fun h => by have := h.depth; omega⟩
    · by_cases h2 : d > n
      · rw [if_neg h1, if_pos h2]
        exact ⟨false, rfl, by simp, fun h => by have := h.depth; omega⟩
      · rw [if_neg h1, if_neg h2]
        cases tr with
        | false =>
          rw [if_neg (by decide)]
          exact ⟨false, rfl, by simp, fun h => by have := h.true_; cases this⟩
        | true =>
          rw [if_pos rfl]
          obtain ⟨b1, r1, i1⟩ := right_f m1 s1 n hn2
          obtain ⟨b2, r2, i2⟩ := right_f m2 s2 n hn2
          obtain ⟨b3, r3, i3⟩ := right_f m3 s3 n hn2
          simp only [X.format_okF]
          rw [r1]
          simp only [Option.bind_some]
          cases b1 with
          | false =>
            rw [if_neg (by decide)]
            exact ⟨false, rfl, by simp, fun h => i1.2 h.p1⟩
          | true =>
            have o1 := i1.1 rfl
            obtain ⟨e1, f1⟩ := mask_f hn2.2 o1
            have l1 := (mkN_bd hn2.2 o1).2.2.1
            rw [if_pos rfl, e1]
            simp only [Option.bind_some]
            have z0 : Go.bits .and .i64 0 (mkN m1 s1 : Int) = 0 := by have := andI 0 (mkN m1 s1) (by decide) (by omega); rw [Nat.zero_and] at this; exact this
            have z1 : Go.bits .or .i64 0 (mkN m1 s1 : Int) = mkN m1 s1 := by have := orI 0 (mkN m1 s1) (by decide) (by omega); rw [Nat.zero_or] at this; exact this
            rw [if_pos z0, z1, r2]
            simp only [Option.bind_some]
            cases b2 with
            | false =>
              rw [if_neg (by decide)]
              exact ⟨false, rfl, by simp, fun h => i2.2 h.p2⟩
            | true =>
              have o2 := i2.1 rfl
              obtain ⟨e2, f2⟩ := mask_f hn2.2 o2
              have l2 := (mkN_bd hn2.2 o2).2.2.1
              rw [if_pos rfl, e2]
              simp only [Option.bind_some]
              rw [andI _ _ (by omega) (by omega), orI _ _ (by omega) (by omega), r3]
              simp only [Option.bind_some]
              cases b3 with
              | false =>
                refine ⟨false, ?_, by simp, fun h => i3.2 h.p3⟩
                split
                · rw [if_neg (by decide)]
                · rfl
              | true =>
                have o3 := i3.1 rfl
                obtain ⟨e3, f3⟩ := mask_f hn2.2 o3
                have l3 := (mkN_bd hn2.2 o3).2.2.1
                have l12 : mkN m1 s1 ||| mkN m2 s2 < 2 ^ 62 := Nat.or_lt_two_pow (by omega) (by omega)
                simp only [if_true]
                rw [e3]
                simp only [Option.bind_some, if_true]
                rw [andI _ _ l12 (by omega)]
                by_cases a12 : mkN m1 s1 &&& mkN m2 s2 = 0
                · rw [if_pos (show ((mkN m1 s1 &&& mkN m2 s2 : Nat) : Int) = 0 by rw [a12]; rfl)]
                  by_cases a13 : mkN m1 s1 &&& mkN m3 s3 = 0
                  · by_cases a23 : mkN m2 s2 &&& mkN m3 s3 = 0
                    · rw [if_pos (show (((mkN m1 s1 ||| mkN m2 s2) &&& mkN m3 s3 : Nat) : Int) = 0 by rw [or_and.2 ⟨a13, a23⟩]; rfl)]
                      exact ⟨true, rfl, fun _ => ⟨hn, by omega, rfl, o1, o2, o3, a12, a13, a23⟩, fun _ => rfl⟩
                    · rw [if_neg (show ¬ (((mkN m1 s1 ||| mkN m2 s2) &&& mkN m3 s3 : Nat) : Int) = 0 from fun h => a23 <| (or_and (a := mkN m1 s1) (b := mkN m2 s2) (c := mkN m3 s3)).1 (by omega) |>.2)]
                      exact ⟨false, rfl, by simp, fun h => absurd h.a23 a23⟩
                  · rw [if_neg (show ¬ (((mkN m1 s1 ||| mkN m2 s2) &&& mkN m3 s3 : Nat) : Int) = 0 from fun h => a13 <| (or_and (a := mkN m1 s1) (b := mkN m2 s2) (c := mkN m3 s3)).1 (by omega) |>.1)]
                    exact ⟨false, rfl, by simp, fun h => absurd h.a13 a13⟩
                · rw [if_neg (show ¬ ((mkN m1 s1 &&& mkN m2 s2 : Nat) : Int) = 0 by omega)]
                  exact ⟨false, rfl, by simp, fun h => absurd h.a12 a12⟩
  · rw [if_neg hn]
    exact ⟨false, rfl, by simp, fun h => absurd h.bits hn⟩
end Go.Proofs.Ytclikkhkhoicfaa.F
