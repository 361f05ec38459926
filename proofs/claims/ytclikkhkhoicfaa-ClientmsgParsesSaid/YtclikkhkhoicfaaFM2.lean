/- A format: which may be, in the program as in the document. No condition. -/
import Derived.Test.YtclikkhkhoicfaaFM2A
import Derived.Test.YtclikkhkhoicfaaXx26
import Derived.Test.YtclikkhkhoicfaaXx27
namespace Go.Proofs.Ytclikkhkhoicfaa.F
open Go.RowKit Go.Proofs.YtclikkhkhoicfaaW.PrintWords Go.Proofs.YtclikkhkhoicfaaW.PrintLast Go.Proofs.YtclikkhkhoicfaaW.PrintMore Go.Proofs.Ytclikkhkhoicfaa.B
set_option linter.unusedVariables false
set_option linter.unusedSimpArgs false
theorem valid_f (K : Nat) (hK : 30 ≤ K) (n d : Int) (bg tr : Bool) (m1 m2 m3 s1 s2 s3 : Int) : ∃ b, X.format_Valid.f n d bg tr m1 m2 m3 s1 s2 s3 = some b ∧ X.miradorref13_Valid.f K n d bg tr m1 m2 m3 s1 s2 s3 = some b ∧ (b = true ↔ Vd n d tr m1 m2 m3 s1 s2 s3) := by
  obtain ⟨K, rfl⟩ : ∃ q, K = q + 2 := ⟨K - 2, by omega⟩
  have jt : X.miradorref13_Valid.j0 (K + 2) true n d bg tr m1 m2 m3 s1 s2 s3 = some false := by simp only [X.miradorref13_Valid.j0, if_true]
  have j1t : X.miradorref13_Valid.j1 (K + 1) true n d bg tr m1 m2 m3 s1 s2 s3 = some false := by simp only [X.miradorref13_Valid.j1, if_true]
  unfold X.format_Valid.f
  by_cases hn : n = 8 ∨ n = 16 ∨ n = 32
  · have hn2 : 0 ≤ n ∧ n ≤ 32 := by omega
    have href : X.miradorref13_Valid.f (K + 2) n d bg tr m1 m2 m3 s1 s2 s3 = if d < 1 then some false else if d > n then some false else X.miradorref13_Valid.j0 (K + 2) (!tr) n d bg tr m1 m2 m3 s1 s2 s3 := by
      unfold X.miradorref13_Valid.f
      rw [jt]
      rcases hn with rfl | rfl | rfl <;> simp
    rw [href, if_pos hn]
    by_cases h1 : d < 1
    · rw [if_pos h1, if_pos h1]
      exact ⟨false, rfl, rfl, by simp, fun h => by have := h.depth; omega⟩
    · by_cases h2 : d > n
      · rw [if_neg h1, if_neg h1, if_pos h2, if_pos h2]
        exact ⟨false, rfl, rfl, by simp, fun h => by have := h.depth; omega⟩
      · rw [if_neg h1, if_neg h1, if_neg h2, if_neg h2]
        cases tr with
        | false =>
          rw [if_neg (by decide)]
          exact ⟨false, rfl, jt, by simp, fun h => by have := h.true_; cases this⟩
        | true =>
          rw [if_pos rfl]
          obtain ⟨b1, r1, i1⟩ := right_f m1 s1 n hn2
          obtain ⟨c1, q1, k1⟩ := part_f (K + 1) (by omega) m1 s1 n hn2
          obtain ⟨b2, r2, i2⟩ := right_f m2 s2 n hn2
          obtain ⟨c2, q2, k2⟩ := part_f (K + 1) (by omega) m2 s2 n hn2
          obtain ⟨b3, r3, i3⟩ := right_f m3 s3 n hn2
          obtain ⟨c3, q3, k3⟩ := part_f (K + 1) (by omega) m3 s3 n hn2
          obtain rfl := bool_eq i1 k1
          obtain rfl := bool_eq i2 k2
          obtain rfl := bool_eq i3 k3
          simp only [X.format_okF, X.miradorref13_Valid.j0, Bool.not_true]
          rw [if_neg (by decide), r1, q1]
          simp only [Option.bind_some]
          cases b1 with
          | false =>
            rw [if_neg (by decide), if_neg (by decide)]
            exact ⟨false, rfl, j1t, by simp, fun h => i1.2 h.p1⟩
          | true =>
            have o1 := i1.1 rfl
            obtain ⟨e1, f1⟩ := mask_f hn2.2 o1
            have l1 := (mkN_bd hn2.2 o1).2.2.1
            rw [if_pos rfl, if_pos rfl, q2, e1]
            simp only [Option.bind_some]
            have z0 : Go.bits .and .i64 0 (mkN m1 s1 : Int) = 0 := by have := andI 0 (mkN m1 s1) (by decide) (by omega); rw [Nat.zero_and] at this; exact this
            have z1 : Go.bits .or .i64 0 (mkN m1 s1 : Int) = mkN m1 s1 := by have := orI 0 (mkN m1 s1) (by decide) (by omega); rw [Nat.zero_or] at this; exact this
            rw [if_pos z0, z1, r2]
            simp only [Option.bind_some]
            cases b2 with
            | false =>
              rw [if_neg (by decide), if_neg (by decide)]
              exact ⟨false, rfl, j1t, by simp, fun h => i2.2 h.p2⟩
            | true =>
              have o2 := i2.1 rfl
              obtain ⟨e2, f2⟩ := mask_f hn2.2 o2
              have l2 := (mkN_bd hn2.2 o2).2.2.1
              rw [if_pos rfl, if_pos rfl, q3, e2]
              simp only [Option.bind_some]
              rw [andI _ _ (by omega) (by omega), orI _ _ (by omega) (by omega), r3]
              simp only [Option.bind_some]
              cases b3 with
              | false =>
                refine ⟨false, ?_, j1t, by simp, fun h => i3.2 h.p3⟩
                split
                · rw [if_neg (by decide)]
                · rfl
              | true =>
                have o3 := i3.1 rfl
                obtain ⟨e3, f3⟩ := mask_f hn2.2 o3
                have l3 := (mkN_bd hn2.2 o3).2.2.1
                have l12 : mkN m1 s1 ||| mkN m2 s2 < 2 ^ 62 := Nat.or_lt_two_pow (by omega) (by omega)
                simp only [X.miradorref13_Valid.j1, Bool.not_true]
                rw [if_neg (show ¬ (false = true) by decide), f1, f2, f3]
                simp only [Option.bind_some, if_true]
                rw [e3]
                simp only [Option.bind_some, if_true]
                rw [andI _ _ l12 (by omega), andI (mkN m1 s1) (mkN m2 s2) (by omega) (by omega), andI (mkN m1 s1) (mkN m3 s3) (by omega) (by omega), andI (mkN m2 s2) (mkN m3 s3) (by omega) (by omega)]
                by_cases a12 : mkN m1 s1 &&& mkN m2 s2 = 0
                · rw [if_pos (show ((mkN m1 s1 &&& mkN m2 s2 : Nat) : Int) = 0 by rw [a12]; rfl), if_pos (show ((mkN m1 s1 &&& mkN m2 s2 : Nat) : Int) = 0 by rw [a12]; rfl)]
                  by_cases a13 : mkN m1 s1 &&& mkN m3 s3 = 0
                  · rw [if_pos (show ((mkN m1 s1 &&& mkN m3 s3 : Nat) : Int) = 0 by rw [a13]; rfl)]
                    by_cases a23 : mkN m2 s2 &&& mkN m3 s3 = 0
                    · rw [if_pos (show (((mkN m1 s1 ||| mkN m2 s2) &&& mkN m3 s3 : Nat) : Int) = 0 by rw [or_and.2 ⟨a13, a23⟩]; rfl), a23]
                      exact ⟨true, rfl, rfl, fun _ => ⟨hn, by omega, rfl, o1, o2, o3, a12, a13, a23⟩, fun _ => rfl⟩
                    · rw [if_neg (show ¬ (((mkN m1 s1 ||| mkN m2 s2) &&& mkN m3 s3 : Nat) : Int) = 0 from fun h => a23 <| (or_and (a := mkN m1 s1) (b := mkN m2 s2) (c := mkN m3 s3)).1 (by omega) |>.2)]
                      refine ⟨false, rfl, ?_, by simp, fun h => absurd h.a23 a23⟩
                      simp; omega
                  · rw [if_neg (show ¬ ((mkN m1 s1 &&& mkN m3 s3 : Nat) : Int) = 0 by omega), if_neg (show ¬ (((mkN m1 s1 ||| mkN m2 s2) &&& mkN m3 s3 : Nat) : Int) = 0 from fun h => a13 <| (or_and (a := mkN m1 s1) (b := mkN m2 s2) (c := mkN m3 s3)).1 (by omega) |>.1)]
                    exact ⟨false, rfl, rfl, by simp, fun h => absurd h.a13 a13⟩
                · rw [if_neg (show ¬ ((mkN m1 s1 &&& mkN m2 s2 : Nat) : Int) = 0 by omega), if_neg (show ¬ ((mkN m1 s1 &&& mkN m2 s2 : Nat) : Int) = 0 by omega)]
                  exact ⟨false, rfl, rfl, by simp, fun h => absurd h.a12 a12⟩
  · rw [if_neg hn]
    refine ⟨false, rfl, ?_, by simp, fun h => absurd h.bits hn⟩
    unfold X.miradorref13_Valid.f
    rw [if_neg (by omega), if_neg (by omega), if_neg (by omega)]
    exact jt
end Go.Proofs.Ytclikkhkhoicfaa.F
