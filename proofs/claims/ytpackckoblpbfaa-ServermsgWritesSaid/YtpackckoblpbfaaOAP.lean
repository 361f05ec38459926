/- What the document's functions on numbers as bytes answer, in plain words. No condition. -/
import Derived.Test.YtpackckoblpbfaaOA
import Derived.Test.YtpackckoblpbfaaXx21
import Derived.Test.YtpackckoblpbfaaXx22
namespace Go.Proofs.Ytpackckoblpbfaa.O
open Go.RowKit Go.Proofs.Ytpackckoblpbfaa.X Go.Proofs.Ytpackckoblpbfaa.B Go.Proofs.YtpackckoblpbfaaW.PrintWords Go.Proofs.YtpackckoblpbfaaW.PrintLast Go.Proofs.YtpackckoblpbfaaW.PrintMore
set_option linter.unusedVariables false
set_option linter.unusedSimpArgs false
theorem rSize_f (s : Int) : miradorref01_Size.f s = some (decide (s = 1 ∨ s = 2 ∨ s = 4)) := by
  unfold miradorref01_Size.f
  split
  · simp [*]
  · split
    · simp [*]
    · simp [*]
      rw [Bool.eq_iff_iff]; simp
theorem rmost_f (s : Int) (h : s = 1 ∨ s = 2 ∨ s = 4) : miradorref01_most.f s = some (if s = 1 then 255 else if s = 2 then 65535 else 4294967295) := by
  unfold miradorref01_most.f
  rcases h with rfl | rfl | rfl <;> rfl
theorem rPut_step (m : Nat) (s n : Int) (xs : List Int) (i : Int) (hi : i < s) (h0 : 0 ≤ i) (hs : s ≤ 4) (hn : 0 ≤ n) (hn1 : n ≤ 9223372036854775807) (hx : xs.length ≤ 10) :
    miradorref01_Put.l0 (m + 1) s n (strOfNums xs) i = miradorref01_Put.l0 m s (n / 256) (strOfNums (n % 256 :: xs)) (i + 1) := by
  rw [miradorref01_Put.l0, if_pos hi, Option.bind_some, if_pos (by rw [strOfNums_size, strOfNums_size]; simp; omega), Int.tmod_eq_emod_of_nonneg hn, Int.tdiv_eq_ediv_of_nonneg hn, str_append,
    w64 (x := n / 256) (by omega) (by omega), w64 (x := i + 1) (by omega) (by omega), Int.emod_emod_of_dvd n (Int.dvd_refl 256)]
  rfl
theorem rPut_end (m : Nat) (s n : Int) (x : ByteArray) (i : Int) (hi : ¬ i < s) : miradorref01_Put.l0 (m + 1) s n x i = some (x, 0) := by
  rw [miradorref01_Put.l0, if_neg hi]
theorem rPut_f {k : Nat} (hk : 8 ≤ k) (s n : Int) (h1 : n ≤ 9223372036854775807) : miradorref01_Put.f k s n = some (if fits s n then (strOfNums (beL s n), 0) else ((⟨#[]⟩ : ByteArray), 1)) := by
  obtain ⟨m, rfl⟩ : ∃ m, k = m + 8 := ⟨k - 8, by omega⟩
  unfold miradorref01_Put.f
  rw [rSize_f]
  simp only [Option.bind_some]
  by_cases hw : s = 1 ∨ s = 2 ∨ s = 4
  · rw [if_pos (by simpa using hw)]
    by_cases hn : n < 0
    · rw [if_pos hn, miradorref01_Put.j0, if_pos rfl, if_neg (by unfold fits; omega)]
    · rw [if_neg hn, rmost_f s hw]
      simp only [Option.bind_some]
      by_cases hf : fits s n
      · have hz : decide (n > (if s = 1 then 255 else if s = 2 then 65535 else 4294967295)) = false := by
          unfold fits at hf; rw [decide_eq_false_iff_not]; rcases hf with ⟨rfl, h⟩ | ⟨rfl, h⟩ | ⟨rfl, h⟩ <;> simp <;> omega
        rw [hz, if_pos hf, miradorref01_Put.j0, if_neg (by decide), ← str_nil]
        unfold fits at hf
        rcases hf with ⟨rfl, h⟩ | ⟨rfl, h⟩ | ⟨rfl, h⟩
        · rw [rPut_step _ _ _ _ _ (by omega) (by omega) (by omega) (by omega) (by omega) (by simp), rPut_end _ _ _ _ _ (by omega), show n % 256 = n by omega]
          rfl
        · rw [rPut_step _ _ _ _ _ (by omega) (by omega) (by omega) (by omega) (by omega) (by simp), rPut_step _ _ _ _ _ (by omega) (by omega) (by omega) (by omega) (by omega) (by simp), rPut_end _ _ _ _ _ (by omega), show n / 256 % 256 = n / 256 by omega]
          rfl
        · rw [rPut_step _ _ _ _ _ (by omega) (by omega) (by omega) (by omega) (by omega) (by simp), rPut_step _ _ _ _ _ (by omega) (by omega) (by omega) (by omega) (by omega) (by simp),
            rPut_step _ _ _ _ _ (by omega) (by omega) (by omega) (by omega) (by omega) (by simp), rPut_step _ _ _ _ _ (by omega) (by omega) (by omega) (by omega) (by omega) (by simp), rPut_end _ _ _ _ _ (by omega),
            show n / 256 / 256 / 256 % 256 = n / 16777216 by omega, show n / 256 / 256 % 256 = n / 65536 % 256 by omega]
          rfl
      · have hz : decide (n > (if s = 1 then 255 else if s = 2 then 65535 else 4294967295)) = true := by
          unfold fits at hf; rw [decide_eq_true_iff]; rcases hw with rfl | rfl | rfl <;> simp at hf ⊢ <;> omega
        rw [hz, if_neg hf, miradorref01_Put.j0, if_pos rfl]
  · rw [if_neg (by simpa using hw), miradorref01_Put.j0, if_pos rfl, if_neg (by unfold fits; omega)]
end Go.Proofs.Ytpackckoblpbfaa.O
