/- A format: the bytes of a number, in plain lists. No condition. -/
import Derived.Test.YtloigmonfbfieaaFM6
import Derived.Test.YtloigmonfbfieaaXx2
namespace Go.Proofs.Ytloigmonfbfieaa.F
open Go.RowKit Go.Proofs.YtloigmonfbfieaaW.PrintWords Go.Proofs.YtloigmonfbfieaaW.PrintLast Go.Proofs.YtloigmonfbfieaaW.PrintMore Go.Proofs.Ytloigmonfbfieaa.B
set_option linter.unusedVariables false
set_option linter.unusedSimpArgs false
/-- The lowest z bytes of a number, the lowest first. -/
def leB (n : Int) (z : Nat) : List Int := (List.range z).map fun (i : Nat) => n / 2 ^ (8 * i) % 256
theorem leB_length (n : Int) (z : Nat) : (leB n z).length = z := by simp [leB]
theorem leB_succ (n : Int) (z : Nat) : leB n (z + 1) = leB n z ++ [n / 2 ^ (8 * z) % 256] := by simp [leB, List.range_succ]
theorem leB_range (n : Int) (z : Nat) : ∀ x ∈ leB n z, 0 ≤ x ∧ x < 256 := by
  intro x hx
  obtain ⟨i, _, rfl⟩ := List.mem_map.1 hx
  omega
theorem reverse_f (k : Nat) (hk : 6 ≤ k) (l : List Int) (hl : l.length ≤ 4) : X.slices_Reverse_byte_byte.f k l = some l.reverse := by
  obtain ⟨k, rfl⟩ : ∃ q, k = q + 6 := ⟨k - 6, by omega⟩
  unfold X.slices_Reverse_byte_byte.f
  match l, hl with
  | [], _ => simp [X.slices_Reverse_byte_byte.l0, wrap64]
  | [a], _ => simp [X.slices_Reverse_byte_byte.l0, wrap64]
  | [a, b], _ => simp [X.slices_Reverse_byte_byte.l0, wrap64, rd]
  | [a, b, c], _ => simp [X.slices_Reverse_byte_byte.l0, wrap64, rd]
  | [a, b, c, d], _ => simp [X.slices_Reverse_byte_byte.l0, wrap64, rd]
theorem put_f (k : Nat) (hk : 20 ≤ k) (a0 a1 : Int) (bg tr : Bool) (a4 a5 a6 a7 a8 a9 : Int) (z : Nat) (hz : z ≤ 4) (n : Int) :
    X.format_put.f k a0 a1 bg tr a4 a5 a6 a7 a8 a9 (z : Int) n = some (strOfNums (if bg = true then (leB n z).reverse else leB n z)) := by
  have key : ∀ (d i k : Nat), i + d = z → d + 8 ≤ k → X.format_put.l0 k n (leB n i) (z : Int) (i : Int) a0 a1 bg tr a4 a5 a6 a7 a8 a9 = some (strOfNums (if bg = true then (leB n z).reverse else leB n z)) := by
    intro d
    induction d with
    | zero =>
      intro i k hi hk
      obtain ⟨k, rfl⟩ : ∃ q, k = q + 1 := ⟨k - 1, by omega⟩
      obtain rfl : i = z := by omega
      simp only [X.format_put.l0]
      rw [if_neg (by omega)]
      cases bg with
      | true =>
        rw [if_pos rfl, reverse_f k (by omega) _ (by rw [leB_length]; omega)]
        rfl
      | false => rfl
    | succ d ih =>
      intro i k hi hk
      obtain ⟨k, rfl⟩ : ∃ q, k = q + 1 := ⟨k - 1, by omega⟩
      have h := ih (i + 1) k (by omega) (by omega)
      rw [leB_succ] at h
      have e1 : wrap64 (8 * (i : Int)) = ((8 * i : Nat) : Int) := by rw [w64 (by omega) (by omega)]; push_cast; rfl
      have e2 : wrap64 ((i : Int) + 1) = ((i + 1 : Nat) : Int) := by rw [w64 (by omega) (by omega)]; push_cast; rfl
      have e3 : shr .i64 n ((8 * i : Nat) : Int) = n / 2 ^ (8 * i) := by
        unfold shr
        rw [Int.toNat_natCast, Nat.min_eq_left (by show 8 * i ≤ 64; omega)]
      simp only [X.format_put.l0]
      rw [if_pos (by omega), e1, if_pos (by omega), if_pos (by rw [leB_length]; omega), e2, e3]
      exact h
  unfold X.format_put.f
  exact key z 0 k (by omega) (by omega)
end Go.Proofs.Ytloigmonfbfieaa.F
