/- Colours of a screen by their places: plain facts. No condition. -/
import Derived.Test.YtjcibgopebpkiaaRows
namespace Go.Proofs.Ytjcibgopebpkiaa.SCP
set_option linter.unusedVariables false
/-- Is place i of a screen w wide in the rectangle? -/
def inR (w x y rw rh : Int) (i : Nat) : Bool := decide (x ≤ (i : Int) % w ∧ (i : Int) % w < x + rw ∧ y ≤ (i : Int) / w ∧ (i : Int) / w < y + rh)
theorem row_iff {w x rw r : Int} {i : Nat} (hw : 0 < w) (hx : 0 ≤ x) (hxw : x + rw ≤ w) : (r * w + x ≤ i ∧ (i : Int) < r * w + x + rw) ↔ ((i : Int) / w = r ∧ x ≤ (i : Int) % w ∧ (i : Int) % w < x + rw) := by
  have h1 := Int.mul_ediv_add_emod (i : Int) w
  have h2 := Int.emod_nonneg (i : Int) (show w ≠ 0 by omega)
  have h3 := Int.emod_lt_of_pos (i : Int) hw
  constructor
  · rintro ⟨a, b⟩
    have hq : (i : Int) / w = r := by
      have := (Int.ediv_emod_unique (a := (i : Int)) (b := w) (r := (i : Int) - r * w) (q := r) hw).2 ⟨by rw [Int.mul_comm]; omega, by omega, by omega⟩
      exact this.1
    rw [hq, Int.mul_comm] at h1
    exact ⟨hq, by omega, by omega⟩
  · rintro ⟨a, b, c⟩
    rw [a, Int.mul_comm] at h1
    omega
theorem inR_zero (w x y rw : Int) (i : Nat) : inR w x y rw 0 i = false := decide_eq_false (by omega)
theorem inR_succ {w x y rw : Int} (k : Nat) (i : Nat) (hw : 0 < w) (hx : 0 ≤ x) (hxw : x + rw ≤ w) : inR w x y rw (k + 1 : Nat) i = (inR w x y rw k i || decide ((y + k) * w + x ≤ i ∧ (i : Int) < (y + k) * w + x + rw)) := by
  have h := @row_iff w x rw (y + k) i hw hx hxw
  unfold inR
  rw [Bool.eq_iff_iff, Bool.or_eq_true, decide_eq_true_iff, decide_eq_true_iff, decide_eq_true_iff, h]
  push_cast
  omega
/-- The place of column j of row k of the rectangle. -/
theorem place_of {w x y rw : Int} {k j : Nat} (hw : 0 < w) (hx : 0 ≤ x) (hy : 0 ≤ y) (hxw : x + rw ≤ w) (hj : (j : Int) < rw) {i : Nat} (hi : (i : Int) = (y + k) * w + x + j) : (i : Int) / w = y + k ∧ (i : Int) % w = x + j := by
  have h := (@row_iff w x rw (y + k) i hw hx hxw).1 ⟨by omega, by omega⟩
  have h1 := Int.mul_ediv_add_emod (i : Int) w
  rw [h.1, Int.mul_comm] at h1
  exact ⟨h.1, by omega⟩
/-- A rectangle's row lies within the colours. -/
theorem row_fits {w h x y rw rh : Int} {k : Nat} (hw : 0 < w) (hx : 0 ≤ x) (hy : 0 ≤ y) (hrw : 0 ≤ rw) (hxw : x + rw ≤ w) (hyh : y + rh ≤ h) (hk : (k : Int) < rh) : 0 ≤ (y + k) * w + x ∧ (y + k) * w + x + rw ≤ w * h := by
  have h1 : 0 ≤ (y + k) * w := Int.mul_nonneg (by omega) (by omega)
  have h2 : (y + k + 1) * w ≤ h * w := Int.mul_le_mul_of_nonneg_right (by omega) (by omega)
  rw [Int.add_mul, Int.one_mul, Int.mul_comm h w] at h2
  omega
end Go.Proofs.Ytjcibgopebpkiaa.SCP
