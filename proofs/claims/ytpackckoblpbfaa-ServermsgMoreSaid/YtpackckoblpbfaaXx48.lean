/- What each Go function that these laws use answers: as a Lean function, with the proof that the machine's call comes to it. Written by a program of this session (xprint.py). -/
import Derived.Test.YtpackckoblpbfaaXx0
namespace Go.Proofs.Ytpackckoblpbfaa.X
open Go.RowKit Go.Proofs.YtpackckoblpbfaaW.PrintWords Go.Proofs.YtpackckoblpbfaaW.PrintLast Go.Proofs.YtpackckoblpbfaaW.PrintMore
attribute [local go_sem] max2_int min2_int max_two min_two max_three min_three max_four min_four   -- for this text's walks alone
set_option linter.unusedVariables false
set_option linter.unusedSimpArgs false

-- NOT PRINTED: function 5 (miradorlaw23_ServermsgReads)

/-! ### miradorlaw23_after: function 31 -/
def miradorlaw23_after.f (a0 : Int) (a1 : Int) (a2 : Int) (a3 : Int) (a4 : Int) : Option (Bool) := if a1 = 0 then (if a3 = 0 then (if a0 = a2 then (some (decide (a0 ≤ a4))) else (some false)) else (some false)) else (if a1 = 2 then (if a0 = 0 then (if a3 = 0 then (some (decide (a2 > a4))) else (some true)) else (some false)) else (if a0 = 0 then (some (a3 == a1)) else (some false)))
set_option maxHeartbeats 8000000 in
set_option maxRecDepth 100000 in
theorem miradorlaw23_after.calls (a0 : Int) (a1 : Int) (a2 : Int) (a3 : Int) (a4 : Int) (r : Bool) (w : World) (h : miradorlaw23_after.f a0 a1 a2 a3 a4 = some r) :
    Calls Try.prog 31 #[.int .i64 a0, .int .i64 a1, .int .i64 a2, .int .i64 a3, .int .i64 a4] w fun e w' => e = .returned (.bool r) ∧ Drawn0 w w' := by
  have H : (if a1 = 0 then (if a3 = 0 then (if a0 = a2 then (some (decide (a0 ≤ a4))) else (some false)) else (some false)) else (if a1 = 2 then (if a0 = 0 then (if a3 = 0 then (some (decide (a2 > a4))) else (some true)) else (some false)) else (if a0 = 0 then (some (a3 == a1)) else (some false)))) = some r := h
  clear h
  by_cases c6 : a1 = 0
  · rw [if_pos c6] at H
    have c6b0 : (a1 == 0) = true := beq_iff_eq.mpr c6
    have c6b1 : (a1 != 0) = false := bne_eq_false_iff_eq.mpr c6
    clear c6
    by_cases c7 : a3 = 0
    · rw [if_pos c7] at H
      have c7b0 : (a3 == 0) = true := beq_iff_eq.mpr c7
      have c7b1 : (a3 != 0) = false := bne_eq_false_iff_eq.mpr c7
      clear c7
      by_cases c8 : a0 = a2
      · rw [if_pos c8] at H
        have c8b0 : (a0 == a2) = true := beq_iff_eq.mpr c8
        have c8b1 : (a0 != a2) = false := bne_eq_false_iff_eq.mpr c8
        clear c8
        obtain rfl := Option.some.inj H
        go_enter Try.func31, Try.ntmps31
        go_wp2
        go_ret
        exact ⟨by first | rfl | (simp; done) | (simp [*]; done), by repeat (first | exact Drawn0.refl _ | apply Drawn0.step)⟩
      · rw [if_neg c8] at H
        have c8b0 : (a0 == a2) = false := beq_eq_false_iff_ne.mpr c8
        have c8b1 : (a0 != a2) = true := bne_iff_ne.mpr c8
        obtain rfl := Option.some.inj H
        go_enter Try.func31, Try.ntmps31
        go_wp2
        go_ret
        exact ⟨by first | rfl | (simp; done) | (simp [*]; done), by repeat (first | exact Drawn0.refl _ | apply Drawn0.step)⟩
    · rw [if_neg c7] at H
      have c7b0 : (a3 == 0) = false := beq_eq_false_iff_ne.mpr c7
      have c7b1 : (a3 != 0) = true := bne_iff_ne.mpr c7
      obtain rfl := Option.some.inj H
      go_enter Try.func31, Try.ntmps31
      go_wp2
      go_ret
      exact ⟨by first | rfl | (simp; done) | (simp [*]; done), by repeat (first | exact Drawn0.refl _ | apply Drawn0.step)⟩
  · rw [if_neg c6] at H
    have c6b0 : (a1 == 0) = false := beq_eq_false_iff_ne.mpr c6
    have c6b1 : (a1 != 0) = true := bne_iff_ne.mpr c6
    by_cases c9 : a1 = 2
    · rw [if_pos c9] at H
      have c9b0 : (a1 == 2) = true := beq_iff_eq.mpr c9
      have c9b1 : (a1 != 2) = false := bne_eq_false_iff_eq.mpr c9
      clear c9
      by_cases c10 : a0 = 0
      · rw [if_pos c10] at H
        have c10b0 : (a0 == 0) = true := beq_iff_eq.mpr c10
        have c10b1 : (a0 != 0) = false := bne_eq_false_iff_eq.mpr c10
        clear c10
        by_cases c11 : a3 = 0
        · rw [if_pos c11] at H
          have c11b0 : (a3 == 0) = true := beq_iff_eq.mpr c11
          have c11b1 : (a3 != 0) = false := bne_eq_false_iff_eq.mpr c11
          clear c11
          obtain rfl := Option.some.inj H
          go_enter Try.func31, Try.ntmps31
          go_wp2
          go_ret
          exact ⟨by first | rfl | (simp; done) | (simp [*]; done), by repeat (first | exact Drawn0.refl _ | apply Drawn0.step)⟩
        · rw [if_neg c11] at H
          have c11b0 : (a3 == 0) = false := beq_eq_false_iff_ne.mpr c11
          have c11b1 : (a3 != 0) = true := bne_iff_ne.mpr c11
          obtain rfl := Option.some.inj H
          go_enter Try.func31, Try.ntmps31
          go_wp2
          go_ret
          exact ⟨by first | rfl | (simp; done) | (simp [*]; done), by repeat (first | exact Drawn0.refl _ | apply Drawn0.step)⟩
      · rw [if_neg c10] at H
        have c10b0 : (a0 == 0) = false := beq_eq_false_iff_ne.mpr c10
        have c10b1 : (a0 != 0) = true := bne_iff_ne.mpr c10
        obtain rfl := Option.some.inj H
        go_enter Try.func31, Try.ntmps31
        go_wp2
        go_ret
        exact ⟨by first | rfl | (simp; done) | (simp [*]; done), by repeat (first | exact Drawn0.refl _ | apply Drawn0.step)⟩
    · rw [if_neg c9] at H
      have c9b0 : (a1 == 2) = false := beq_eq_false_iff_ne.mpr c9
      have c9b1 : (a1 != 2) = true := bne_iff_ne.mpr c9
      by_cases c12 : a0 = 0
      · rw [if_pos c12] at H
        have c12b0 : (a0 == 0) = true := beq_iff_eq.mpr c12
        have c12b1 : (a0 != 0) = false := bne_eq_false_iff_eq.mpr c12
        clear c12
        obtain rfl := Option.some.inj H
        go_enter Try.func31, Try.ntmps31
        go_wp2
        go_ret
        exact ⟨by first | rfl | (simp; done) | (simp [*]; done), by repeat (first | exact Drawn0.refl _ | apply Drawn0.step)⟩
      · rw [if_neg c12] at H
        have c12b0 : (a0 == 0) = false := beq_eq_false_iff_ne.mpr c12
        have c12b1 : (a0 != 0) = true := bne_iff_ne.mpr c12
        obtain rfl := Option.some.inj H
        go_enter Try.func31, Try.ntmps31
        go_wp2
        go_ret
        exact ⟨by first | rfl | (simp; done) | (simp [*]; done), by repeat (first | exact Drawn0.refl _ | apply Drawn0.step)⟩

end Go.Proofs.Ytpackckoblpbfaa.X
