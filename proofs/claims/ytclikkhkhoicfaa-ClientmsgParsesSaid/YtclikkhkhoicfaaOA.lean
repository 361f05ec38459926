/- What the functions of package octets and of its reference answer, in plain words. No condition. -/
import Derived.Test.YtclikkhkhoicfaaXx3
import Derived.Test.YtclikkhkhoicfaaXx11
import Derived.Test.YtclikkhkhoicfaaXx6
import Derived.Test.YtclikkhkhoicfaaXx12
import Derived.Test.YtclikkhkhoicfaaB0
namespace Go.Proofs.Ytclikkhkhoicfaa.O
open Go.RowKit Go.Proofs.Ytclikkhkhoicfaa.X Go.Proofs.Ytclikkhkhoicfaa.B Go.Proofs.YtclikkhkhoicfaaW.PrintWords Go.Proofs.YtclikkhkhoicfaaW.PrintLast Go.Proofs.YtclikkhkhoicfaaW.PrintMore
set_option linter.unusedVariables false
set_option linter.unusedSimpArgs false

/-- May n be written in s bytes? -/
def fits (s n : Int) : Prop := (s = 1 ∧ 0 ≤ n ∧ n < 256) ∨ (s = 2 ∧ 0 ≤ n ∧ n < 65536) ∨ (s = 4 ∧ 0 ≤ n ∧ n < 4294967296)
instance (s n : Int) : Decidable (fits s n) := by unfold fits; infer_instance
/-- Its bytes, the greatest one first. -/
def beL (s n : Int) : List Int := if s = 1 then [n] else if s = 2 then [n / 256, n % 256] else [n / 16777216, n / 65536 % 256, n / 256 % 256, n % 256]
theorem wide_f (s : Int) : octets_wide.f s = some (decide (s = 1 ∨ s = 2 ∨ s = 4)) := by
  unfold octets_wide.f
  split
  · simp [*]
  · split
    · simp [*]
    · simp [*]
      rw [Bool.eq_iff_iff]; simp
theorem beL_range {s n : Int} (h : fits s n) : ∀ x ∈ beL s n, 0 ≤ x ∧ x < 256 := by
  rcases h with ⟨rfl, h⟩ | ⟨rfl, h⟩ | ⟨rfl, h⟩ <;> simp [beL] <;> omega
theorem beL_length {s n : Int} (h : fits s n) : ((beL s n).length : Int) = s := by
  rcases h with ⟨rfl, h⟩ | ⟨rfl, h⟩ | ⟨rfl, h⟩ <;> simp [beL]
theorem Little_f {k : Nat} (hk : 8 ≤ k) (s n : Int) : octets_Little.f k s n = some (if fits s n then (strOfNums (beL s n).reverse, 0) else ((⟨#[]⟩ : ByteArray), 1)) := by
  obtain ⟨m, rfl⟩ : ∃ m, k = m + 8 := ⟨k - 8, by omega⟩
  unfold octets_Little.f
  rw [wide_f]
  simp only [Option.bind_some]
  by_cases hw : s = 1 ∨ s = 2 ∨ s = 4
  · rw [if_pos (by simpa using hw)]
    by_cases hn : n < 0
    · rw [if_pos hn, octets_Little.j0, if_pos rfl, if_neg (by unfold fits; omega)]
    · rw [if_neg hn]
      rcases hw with rfl | rfl | rfl
      · rw [if_pos (by simp [wrap64])]
        by_cases hf : fits 1 n
        · have hz : shr .i64 n (wrap64 (8 * 1)) = 0 := by simp [shr, wrap64, IntKind.bits]; unfold fits at hf; omega
          rw [hz, if_pos hf, octets_Little.j0]
          simp [octets_Little.l0, wrap64, shr, beL]
          rw [show n % 256 = n by unfold fits at hf; omega]
        · have hz : (shr .i64 n (wrap64 (8 * 1)) != 0) = true := by simp [shr, wrap64, IntKind.bits]; unfold fits at hf; omega
          rw [hz, if_neg hf, octets_Little.j0, if_pos rfl]
      · rw [if_pos (by simp [wrap64])]
        by_cases hf : fits 2 n
        · have hz : shr .i64 n (wrap64 (8 * 2)) = 0 := by simp [shr, wrap64, IntKind.bits]; unfold fits at hf; omega
          rw [hz, if_pos hf, octets_Little.j0]
          simp [octets_Little.l0, wrap64, shr, IntKind.bits, beL, List.replicate]
          rw [show n / 256 % 256 = n / 256 by unfold fits at hf; omega]
        · have hz : (shr .i64 n (wrap64 (8 * 2)) != 0) = true := by simp [shr, wrap64, IntKind.bits]; unfold fits at hf; omega
          rw [hz, if_neg hf, octets_Little.j0, if_pos rfl]
      · rw [if_pos (by simp [wrap64])]
        by_cases hf : fits 4 n
        · have hz : shr .i64 n (wrap64 (8 * 4)) = 0 := by simp [shr, wrap64, IntKind.bits]; unfold fits at hf; omega
          rw [hz, if_pos hf, octets_Little.j0]
          simp [octets_Little.l0, wrap64, shr, IntKind.bits, beL, List.replicate]
          rw [show n / 16777216 % 256 = n / 16777216 by unfold fits at hf; omega]
        · have hz : (shr .i64 n (wrap64 (8 * 4)) != 0) = true := by simp [shr, wrap64, IntKind.bits]; unfold fits at hf; omega
          rw [hz, if_neg hf, octets_Little.j0, if_pos rfl]
  · rw [if_neg (by simpa using hw), octets_Little.j0, if_pos rfl, if_neg (by unfold fits; omega)]
theorem turned_f (xs : List Int) (h : ∀ x ∈ xs, 0 ≤ x ∧ x < 256) (hl : xs.length ≤ 1000) : octets_turned.f (strOfNums xs) = some (strOfNums xs.reverse) := by
  unfold octets_turned.f
  rw [if_pos (by rw [strOfNums_size]; omega), bytes_str h]
theorem Put_f {k : Nat} (hk : 8 ≤ k) (s n : Int) : octets_Put.f k s n = some (if fits s n then (strOfNums (beL s n), 0) else ((⟨#[]⟩ : ByteArray), 1)) := by
  unfold octets_Put.f
  rw [Little_f hk]
  simp only [Option.bind_some]
  by_cases hf : fits s n
  · simp only [if_pos hf]
    rw [turned_f _ (fun x hx => beL_range hf x (List.mem_reverse.mp hx)) (by rw [List.length_reverse]; have := beL_length hf; unfold fits at hf; omega)]
    simp
  · simp only [if_neg hf]
    rfl
end Go.Proofs.Ytclikkhkhoicfaa.O
