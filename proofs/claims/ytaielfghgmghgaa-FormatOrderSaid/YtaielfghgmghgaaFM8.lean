/- A format: as few bytes as a value needs, in plain lists; the same the other way round. No condition. -/
import Derived.Test.YtaielfghgmghgaaFM7
namespace Go.Proofs.Ytaielfghgmghgaa.F
open Go.RowKit Go.Proofs.YtaielfghgmghgaaW.PrintWords Go.Proofs.YtaielfghgmghgaaW.PrintLast Go.Proofs.YtaielfghgmghgaaW.PrintMore Go.Proofs.Ytaielfghgmghgaa.B
set_option linter.unusedVariables false
set_option linter.unusedSimpArgs false
theorem size_f {n d : Int} {tr : Bool} {m1 m2 m3 s1 s2 s3 : Int} (hv : Vd n d tr m1 m2 m3 s1 s2 s3) (bg : Bool) (hb : X.format_Valid.f n d bg tr m1 m2 m3 s1 s2 s3 = some true) : ∃ z : Nat, z ≤ 4 ∧ n = 8 * z ∧ X.format_Size.f n d bg tr m1 m2 m3 s1 s2 s3 = some (z : Int) := by
  have e : X.format_Size.f n d bg tr m1 m2 m3 s1 s2 s3 = some (wrap64 (Int.tdiv n 8)) := by unfold X.format_Size.f; rw [hb]; rfl
  rw [e]
  rcases hv.bits with rfl | rfl | rfl
  · exact ⟨1, by omega, by omega, congrArg some (by rw [w64 (by decide) (by decide)]; decide)⟩
  · exact ⟨2, by omega, by omega, congrArg some (by rw [w64 (by decide) (by decide)]; decide)⟩
  · exact ⟨4, by omega, by omega, congrArg some (by rw [w64 (by decide) (by decide)]; decide)⟩
/-- All bits of the parts. -/
def allN (m1 m2 m3 s1 s2 s3 : Int) : Nat := mkN m1 s1 ||| mkN m2 s2 ||| mkN m3 s3
theorem allF {n d : Int} {tr : Bool} {m1 m2 m3 s1 s2 s3 : Int} (hv : Vd n d tr m1 m2 m3 s1 s2 s3) : X.format_aF [(m1, s1), (m2, s2), (m3, s3)] 0 = some (allN m1 m2 m3 s1 s2 s3 : Int) := by
  have hn : n ≤ 32 := by have := hv.bits; omega
  have l1 := (mkN_bd hn hv.p1).2.2.1
  have l2 := (mkN_bd hn hv.p2).2.2.1
  have l3 := (mkN_bd hn hv.p3).2.2.1
  have l12 : mkN m1 s1 ||| mkN m2 s2 < 2 ^ 62 := Nat.or_lt_two_pow (by omega) (by omega)
  simp only [X.format_aF]
  rw [(mask_f hn hv.p1).1]
  simp only [Option.bind_some]
  rw [(mask_f hn hv.p2).1]
  simp only [Option.bind_some]
  rw [(mask_f hn hv.p3).1]
  simp only [Option.bind_some]
  have z1 : Go.bits .or .i64 0 (mkN m1 s1 : Int) = mkN m1 s1 := by have := orI 0 (mkN m1 s1) (by decide) (by omega); rw [Nat.zero_or] at this; exact this
  rw [z1, orI _ _ (by omega) (by omega), orI _ _ l12 (by omega)]
  rfl
/-- How many bytes, and the shift. -/
theorem compact_f {n d : Int} {tr : Bool} {m1 m2 m3 s1 s2 s3 : Int} (hv : Vd n d tr m1 m2 m3 s1 s2 s3) (bg : Bool) (hb : X.format_Valid.f n d bg tr m1 m2 m3 s1 s2 s3 = some true) :
    ∃ z s : Nat, z ≤ 4 ∧ 1 ≤ z ∧ X.format_Compact.f n d bg tr m1 m2 m3 s1 s2 s3 = some ((z : Int), (s : Int)) ∧ ((n = 32 ∧ d ≤ 24 ∧ allN m1 m2 m3 s1 s2 s3 < 16777216 ∧ z = 3 ∧ s = 0) ∨ (n = 32 ∧ d ≤ 24 ∧ ¬ allN m1 m2 m3 s1 s2 s3 < 16777216 ∧ allN m1 m2 m3 s1 s2 s3 % 256 = 0 ∧ z = 3 ∧ s = 8) ∨ (¬ (n = 32 ∧ d ≤ 24 ∧ (allN m1 m2 m3 s1 s2 s3 < 16777216 ∨ allN m1 m2 m3 s1 s2 s3 % 256 = 0)) ∧ n = 8 * z ∧ s = 0)) := by
  obtain ⟨z, hz, hn8, hs⟩ := size_f hv bg hb
  have hzb := hv.bits
  have hall : Go.bits .and .i64 (allN m1 m2 m3 s1 s2 s3 : Int) 255 = ((allN m1 m2 m3 s1 s2 s3 % 256 : Nat) : Int) := by rw [and255]; omega
  unfold X.format_Compact.f
  rw [hb]
  simp only [Option.bind_some, if_true]
  rw [allF hv]
  simp only [Option.bind_some]
  unfold X.format_compactF
  rw [hs, hall]
  simp only [Option.bind_some]
  by_cases c1 : n < 32
  · rw [if_pos c1]
    exact ⟨z, 0, hz, by omega, rfl, .inr (.inr ⟨by omega, hn8, rfl⟩)⟩
  · rw [if_neg c1]
    by_cases c2 : d > 24
    · rw [if_pos c2]
      exact ⟨z, 0, hz, by omega, rfl, .inr (.inr ⟨by omega, hn8, rfl⟩)⟩
    · rw [if_neg c2]
      by_cases c3 : allN m1 m2 m3 s1 s2 s3 < 16777216
      · rw [if_pos (by omega)]
        exact ⟨3, 0, by omega, by omega, rfl, .inl ⟨by omega, by omega, c3, rfl, rfl⟩⟩
      · rw [if_neg (by omega)]
        by_cases c4 : allN m1 m2 m3 s1 s2 s3 % 256 = 0
        · rw [if_pos (by omega)]
          exact ⟨3, 8, by omega, by omega, rfl, .inr (.inl ⟨by omega, by omega, c3, c4, rfl, rfl⟩)⟩
        · rw [if_neg (by omega)]
          exact ⟨z, 0, hz, by omega, rfl, .inr (.inr ⟨by omega, hn8, rfl⟩)⟩
theorem put_all {n d : Int} {tr : Bool} {m1 m2 m3 s1 s2 s3 : Int} (hv : Vd n d tr m1 m2 m3 s1 s2 s3) (bg : Bool) (hb : X.format_Valid.f n d bg tr m1 m2 m3 s1 s2 s3 = some true) (k : Nat) (hk : 20 ≤ k) (v : Int) :
    ∃ z : Nat, z ≤ 4 ∧ n = 8 * z ∧ X.format_Put.f k n d bg tr m1 m2 m3 s1 s2 s3 v = some (strOfNums (if bg = true then (leB v z).reverse else leB v z)) := by
  obtain ⟨z, hz, hn8, hs⟩ := size_f hv bg hb
  refine ⟨z, hz, hn8, ?_⟩
  unfold X.format_Put.f
  rw [hs]
  simp only [Option.bind_some]
  rw [put_f k hk n d bg tr m1 m2 m3 s1 s2 s3 z hz v]
  simp only [Option.bind_some]
/-- A value cut to a format's bits, and shifted. -/
def cutI (n v : Int) (s : Nat) : Int := Go.bits .and .i64 v (wrap64 ((shl .i64 1 (wrap64 n)) - 1)) / 2 ^ s
theorem cut_shr (n v : Int) (s : Nat) (h : s ≤ 8) : shr .i64 (Go.bits .and .i64 v (wrap64 ((shl .i64 1 (wrap64 n)) - 1))) (s : Int) = cutI n v s := by
  unfold cutI
  generalize Go.bits .and .i64 v (wrap64 ((shl .i64 1 (wrap64 n)) - 1)) = x
  unfold shr
  rw [Int.toNat_natCast, Nat.min_eq_left (Nat.le_trans h (by decide))]
theorem cput_all {n d : Int} {tr : Bool} {m1 m2 m3 s1 s2 s3 : Int} (hv : Vd n d tr m1 m2 m3 s1 s2 s3) (bg : Bool) (hb : X.format_Valid.f n d bg tr m1 m2 m3 s1 s2 s3 = some true) (k : Nat) (hk : 20 ≤ k) (v : Int) (z s : Nat) (hz : z ≤ 4) (hs8 : s ≤ 8) (hc : X.format_Compact.f n d bg tr m1 m2 m3 s1 s2 s3 = some ((z : Int), (s : Int))) :
    X.format_CPut.f k n d bg tr m1 m2 m3 s1 s2 s3 v = some (strOfNums (if bg = true then (leB (cutI n v s) z).reverse else leB (cutI n v s) z)) := by
  obtain ⟨z', hz', hn8, hs⟩ := size_f hv bg hb
  have hzb := hv.bits
  have h1 : 0 ≤ wrap64 (8 * (z' : Int)) := by rw [w64 (by omega) (by omega)]; omega
  have h2 : (0 : Int) ≤ ((z : Int), (s : Int)).2 := Int.natCast_nonneg s
  unfold X.format_CPut.f
  refine bind_eq hc ?_
  refine bind_eq hs ?_
  refine (if_pos h1).trans ?_
  refine (if_pos h2).trans ?_
  refine bind_eq ?_ rfl
  have e := cut_shr n v s hs8
  rw [hn8] at e
  have e2 := put_f k hk n d bg tr m1 m2 m3 s1 s2 s3 z hz (cutI (8 * (z' : Int)) v s)
  rw [← e] at e2
  rw [hn8]
  rw [hn8] at e2
  rw [← e]
  exact e2
theorem compact_flip (n d : Int) (bg bg' tr : Bool) (m1 m2 m3 s1 s2 s3 : Int) : X.format_Compact.f n d bg tr m1 m2 m3 s1 s2 s3 = X.format_Compact.f n d bg' tr m1 m2 m3 s1 s2 s3 := rfl
theorem valid_flip (n d : Int) (bg bg' tr : Bool) (m1 m2 m3 s1 s2 s3 : Int) : X.format_Valid.f n d bg tr m1 m2 m3 s1 s2 s3 = X.format_Valid.f n d bg' tr m1 m2 m3 s1 s2 s3 := rfl
end Go.Proofs.Ytaielfghgmghgaa.F
