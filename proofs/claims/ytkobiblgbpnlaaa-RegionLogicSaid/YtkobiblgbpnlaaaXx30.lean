/- What each Go function that these laws use answers: as a Lean function, with the proof that the machine's call comes to it. Written by a program of this session (xprint.py). -/
import Derived.Test.YtkobiblgbpnlaaaXx0
import Derived.Test.YtkobiblgbpnlaaaXx19
import Derived.Test.YtkobiblgbpnlaaaXx20
import Derived.Test.YtkobiblgbpnlaaaXx21
import Derived.Test.YtkobiblgbpnlaaaXx28
import Derived.Test.YtkobiblgbpnlaaaXx29
namespace Go.Proofs.Ytkobiblgbpnlaaa.X
open Go.RowKit Go.Proofs.YtkobiblgbpnlaaaW.PrintWords Go.Proofs.YtkobiblgbpnlaaaW.PrintLast Go.Proofs.YtkobiblgbpnlaaaW.PrintMore
attribute [local go_sem] max2_int min2_int max_two min_two max_three min_three max_four min_four   -- for this text's walks alone
set_option linter.unusedVariables false
set_option linter.unusedSimpArgs false

/-! ### miradorlaw15_RegionLogic: function 5 -/
def miradorlaw15_RegionLogic.j0 : Nat → List (S26) → List (S26) → Int → Int → Bool → Bool → Option (Bool)
  | 0, _, _, _, _, _, _ => none
  | k + 1, x0, x1, x2, x3, x9, x22 => if x22 = true then (some x9) else ((region_Has.f k x0 x2 x3).bind fun t428 => ((region_Has.f k x1 x2 x3).bind fun t429 => (if x9 = true then ((region_Make.f x0).bind fun t430 => ((region_Has.f k t430 x2 x3).bind fun t433 => (if (t433 == t428) = true then ((region_Union.f x0 x1).bind fun t434 => ((region_Has.f k t434 x2 x3).bind fun t437 => (if t428 = true then (if (t437 == true) = true then ((region_Minus.f x0 x1).bind fun t438 => ((region_Has.f k t438 x2 x3).bind fun t441 => (if (t441 == (!t429)) = true then ((region_Both.f x0 x1).bind fun t442 => ((region_Has.f k t442 x2 x3).bind fun t445 => (some (t445 == t429)))) else (some false)))) else (some false)) else (if (t437 == t429) = true then ((region_Minus.f x0 x1).bind fun t446 => ((region_Has.f k t446 x2 x3).bind fun t449 => (if (t449 == false) = true then ((region_Both.f x0 x1).bind fun t450 => ((region_Has.f k t450 x2 x3).bind fun t453 => (some (t453 == false)))) else (some false)))) else (some false))))) else (some false)))) else (some false))))
def miradorlaw15_RegionLogic.f (k : Nat) (l0 : List (S26)) (l1 : List (S26)) (a2 : Int) (a3 : Int) : Option (Bool) := (miradorlaw15_works.f k).bind fun t427 => (if t427 = true then (if (l0.length : Int) > 12 then (miradorlaw15_RegionLogic.j0 k l0 l1 a2 a3 t427 true) else (miradorlaw15_RegionLogic.j0 k l0 l1 a2 a3 t427 (decide ((l1.length : Int) > 12)))) else (some false))
theorem miradorlaw15_RegionLogic.mono_l : ∀ k, (∀ y0 y1 y2 y3 y4 y5, LeO (miradorlaw15_RegionLogic.j0 k y0 y1 y2 y3 y4 y5) (miradorlaw15_RegionLogic.j0 (k + 1) y0 y1 y2 y3 y4 y5))
  | 0 => fun _ _ _ _ _ _ r h => by simp [miradorlaw15_RegionLogic.j0] at h
  | k + 1 => by
    have ih0 := miradorlaw15_RegionLogic.mono_l k
    · intro y0 y1 y2 y3 y4 y5
      unfold miradorlaw15_RegionLogic.j0
      repeat' first
      | (with_reducible exact ih0 _ _ _ _ _ _)
      | (with_reducible exact miradorlaw15_works.mono _)
      | (with_reducible exact region_Has.mono _ _ _ _)
      | (with_reducible exact LeO.refl _)
      | (with_reducible exact LeO.none _)
      | (with_reducible refine LeO.ite ?_ ?_)
      | (with_reducible refine LeO.bind ?_ (fun _ => ?_))
      | exact ih0 _ _ _ _ _ _
      | exact miradorlaw15_works.mono _
      | exact region_Has.mono _ _ _ _
      | exact LeO.none _
      | refine LeO.ite ?_ ?_
      | refine LeO.bind ?_ (fun _ => ?_)
theorem miradorlaw15_RegionLogic.mono : ∀ a0 a1 a2 a3 k, LeO (miradorlaw15_RegionLogic.f k a0 a1 a2 a3) (miradorlaw15_RegionLogic.f (k + 1) a0 a1 a2 a3) := by
  intro a0 a1 a2 a3 k
  have ih0 := miradorlaw15_RegionLogic.mono_l k
  unfold miradorlaw15_RegionLogic.f
  repeat' first
      | (with_reducible exact ih0 _ _ _ _ _ _)
      | (with_reducible exact miradorlaw15_works.mono _)
      | (with_reducible exact region_Has.mono _ _ _ _)
      | (with_reducible exact LeO.refl _)
      | (with_reducible exact LeO.none _)
      | (with_reducible refine LeO.ite ?_ ?_)
      | (with_reducible refine LeO.bind ?_ (fun _ => ?_))
      | exact ih0 _ _ _ _ _ _
      | exact miradorlaw15_works.mono _
      | exact region_Has.mono _ _ _ _
      | exact LeO.none _
      | refine LeO.ite ?_ ?_
      | refine LeO.bind ?_ (fun _ => ?_)
set_option maxHeartbeats 8000000 in
set_option maxRecDepth 100000 in
theorem miradorlaw15_RegionLogic.calls1 (k : Nat) (A0 : Option Addr) (c0 : Nat) (l0 : List (S26)) (A1 : Option Addr) (c1 : Nat) (l1 : List (S26)) (a2 : Int) (a3 : Int) (r : Bool) (w : World) (hr0 : Kd.C k26 w A0 l0.length l0) (hc0 : l0.length ≤ c0) (hr1 : Kd.C k26 w A1 l1.length l1) (hc1 : l1.length ≤ c1) (hr_ : r = true) (h : miradorlaw15_RegionLogic.f k l0 l1 a2 a3 = some r) :
    Calls Try.prog 5 #[.slice A0 l0.length c0, .slice A1 l1.length c1, .int .i64 a2, .int .i64 a3] w fun e w' => e = .returned (.bool r) ∧ Below w.heap.size w w' := by
  have HR0 := Aside0.mk hr0
  have HC0 := Aside0.mk hc0
  clear hr0 hc0
  have HR1 := Aside0.mk hr1
  have HC1 := Aside0.mk hc1
  clear hr1 hc1
  have HB := Aside0.mk (Below.refl w.heap.size w)
  have H : ((miradorlaw15_works.f k).bind fun t427 => (if t427 = true then (if (l0.length : Int) > 12 then (miradorlaw15_RegionLogic.j0 k l0 l1 a2 a3 t427 true) else (miradorlaw15_RegionLogic.j0 k l0 l1 a2 a3 t427 (decide ((l1.length : Int) > 12)))) else (some false))) = some r := h
  clear h
  have HRT := Aside0.mk hr_
  clear hr_
  replace H := Option.bind_eq_some_iff.mp H
  obtain ⟨t427, A50, H⟩ := H
  replace H : (if t427 = true then (if (l0.length : Int) > 12 then (miradorlaw15_RegionLogic.j0 k l0 l1 a2 a3 t427 true) else (miradorlaw15_RegionLogic.j0 k l0 l1 a2 a3 t427 (decide ((l1.length : Int) > 12)))) else (some false)) = some r := H
  have A5 := Aside0.mk A50
  clear A50
  by_cases c6 : t427 = true
  · subst c6
    have H1 : (if (l0.length : Int) > 12 then (miradorlaw15_RegionLogic.j0 k l0 l1 a2 a3 true true) else (miradorlaw15_RegionLogic.j0 k l0 l1 a2 a3 true (decide ((l1.length : Int) > 12)))) = some r := by rw [if_pos rfl] at H; exact H
    clear H
    have H := H1
    clear H1
    have HC7 := Aside0.mk H
    clear H
    go_enter Try.func5, Try.ntmps5
    go_upto_region 4 with (first | ((with_reducible refine gate_callee (f := 10) rfl ?_); refine goesL_ (some 12) rfl rfl Try.func10 (by kernel_rfl) rfl #[] rfl (by (try simp only [List.map_toArray, List.map_cons, List.map_nil]); first | done | rfl | (simp only [List.length_drop, List.length_take]; rfl)) ?_; (with_reducible refine (miradorlaw15_works.calls k  true _ A5.out).mono ?_); rintro e w8 ⟨rfl, hb⟩; refine ⟨_, rfl, ?_⟩; have n0_ := Aside0.mk (below_step (by repeat (first | (with_reducible first | exact HB.out | apply below_alloc | apply pw_below_drewN | apply below_drew1) | exact HB.out)) hb); clear HB; have HB := n0_; clear n0_; (try clear hb); (try clear hb2); (try clear hk); (try clear hi)))
    (try simp only [Act.put, List.setIfInBounds_toArray, List.set_cons_zero, List.set_cons_succ])
    go_cut [22] (fun v22 wc => ∃ (kq : Nat) (x22_6 : Bool), v22 = .bool x22_6 ∧ Aside0 (miradorlaw15_RegionLogic.j0 kq l0 l1 a2 a3 true x22_6 = some r) ∧ Aside0 (kq ≤ k) ∧ Aside0 (Below w.heap.size w wc))
    case first =>
      have H := HC7.out
      clear HC7
      by_cases c9 : (l0.length : Int) > 12
      · rw [if_pos c9] at H
        have c9b0 : decide (12 < (l0.length : Int)) = true := decide_eq_true c9
        have c9b1 : decide (12 < l0.length) = true := decide_eq_true (by omega)
        clear c9
        (first | rw [c9b0] | (simp only [i64_w, i32_w]; rw [c9b0]) | skip)
        have H' := Aside0.mk H
        clear H
        go_wp2
        go_meet
        case rel => exact ⟨_, (true), (by first | rfl | (simp; done) | (simp [*]; done)), H', ⟨by first | omega | exact Nat.le_refl _⟩, ⟨by repeat (first | (with_reducible first | exact HB.out | apply below_alloc | apply pw_below_drewN | apply below_drew1) | exact HB.out)⟩⟩
      · rw [if_neg c9] at H
        have c9b0 : decide (12 < (l0.length : Int)) = false := decide_eq_false c9
        have c9b1 : decide (12 < l0.length) = false := decide_eq_false (by omega)
        clear c9
        (first | rw [c9b0] | (simp only [i64_w, i32_w]; rw [c9b0]) | skip)
        have H' := Aside0.mk H
        clear H
        go_wp2
        go_meet
        case rel => exact ⟨_, (decide ((l1.length : Int) > 12)), (by first | rfl | (simp; done) | (simp [*]; done)), H', ⟨by first | omega | exact Nat.le_refl _⟩, ⟨by repeat (first | (with_reducible first | exact HB.out | apply below_alloc | apply pw_below_drewN | apply below_drew1) | exact HB.out)⟩⟩
    case rest =>
      clear HC7
      try clear c1
      try clear p2
      try clear c5
      try clear c6
      try clear c9
      try clear c9b0
      try clear c9b1
      obtain ⟨kq, x22_6, rfl, HA, HJ6, HB⟩ := hcut
      cases kq with
      | zero => exact absurd HA.out (by simp [miradorlaw15_RegionLogic.j0])
      | succ kj6 =>
        have H := HA.out
        clear HA
        simp only [miradorlaw15_RegionLogic.j0] at H
        by_cases c10 : x22_6 = true
        · subst c10
          have H1 : (some true) = some r := by rw [if_pos rfl] at H; exact H
          clear H
          have H := H1
          clear H1
          obtain rfl := Option.some.inj H
          go_wp2
          go_ret
          exact ⟨by first | rfl | (simp [errW_none, errW_some] <;> rfl) | (simp [*, errW_none, errW_some] <;> rfl), by repeat (first | (with_reducible first | exact HB.out | apply below_alloc | apply pw_below_drewN | apply below_drew1) | exact HB.out)⟩
        · replace c10 := Bool.eq_false_iff.mpr c10
          subst c10
          have H1 : ((region_Has.f kj6 l0 a2 a3).bind fun t428 => ((region_Has.f kj6 l1 a2 a3).bind fun t429 => (if true = true then ((region_Make.f l0).bind fun t430 => ((region_Has.f kj6 t430 a2 a3).bind fun t433 => (if (t433 == t428) = true then ((region_Union.f l0 l1).bind fun t434 => ((region_Has.f kj6 t434 a2 a3).bind fun t437 => (if t428 = true then (if (t437 == true) = true then ((region_Minus.f l0 l1).bind fun t438 => ((region_Has.f kj6 t438 a2 a3).bind fun t441 => (if (t441 == (!t429)) = true then ((region_Both.f l0 l1).bind fun t442 => ((region_Has.f kj6 t442 a2 a3).bind fun t445 => (some (t445 == t429)))) else (some false)))) else (some false)) else (if (t437 == t429) = true then ((region_Minus.f l0 l1).bind fun t446 => ((region_Has.f kj6 t446 a2 a3).bind fun t449 => (if (t449 == false) = true then ((region_Both.f l0 l1).bind fun t450 => ((region_Has.f kj6 t450 a2 a3).bind fun t453 => (some (t453 == false)))) else (some false)))) else (some false))))) else (some false)))) else (some false)))) = some r := by rw [if_neg (show ¬ (false = true) by decide)] at H; exact H
          clear H
          have H := H1
          clear H1
          replace H := Option.bind_eq_some_iff.mp H
          obtain ⟨t428, A110, H⟩ := H
          replace H : ((region_Has.f kj6 l1 a2 a3).bind fun t429 => (if true = true then ((region_Make.f l0).bind fun t430 => ((region_Has.f kj6 t430 a2 a3).bind fun t433 => (if (t433 == t428) = true then ((region_Union.f l0 l1).bind fun t434 => ((region_Has.f kj6 t434 a2 a3).bind fun t437 => (if t428 = true then (if (t437 == true) = true then ((region_Minus.f l0 l1).bind fun t438 => ((region_Has.f kj6 t438 a2 a3).bind fun t441 => (if (t441 == (!t429)) = true then ((region_Both.f l0 l1).bind fun t442 => ((region_Has.f kj6 t442 a2 a3).bind fun t445 => (some (t445 == t429)))) else (some false)))) else (some false)) else (if (t437 == t429) = true then ((region_Minus.f l0 l1).bind fun t446 => ((region_Has.f kj6 t446 a2 a3).bind fun t449 => (if (t449 == false) = true then ((region_Both.f l0 l1).bind fun t450 => ((region_Has.f kj6 t450 a2 a3).bind fun t453 => (some (t453 == false)))) else (some false)))) else (some false))))) else (some false)))) else (some false))) = some r := H
          have A11 := Aside0.mk A110
          clear A110
          replace H := Option.bind_eq_some_iff.mp H
          obtain ⟨t429, A120, H⟩ := H
          replace H : (if true = true then ((region_Make.f l0).bind fun t430 => ((region_Has.f kj6 t430 a2 a3).bind fun t433 => (if (t433 == t428) = true then ((region_Union.f l0 l1).bind fun t434 => ((region_Has.f kj6 t434 a2 a3).bind fun t437 => (if t428 = true then (if (t437 == true) = true then ((region_Minus.f l0 l1).bind fun t438 => ((region_Has.f kj6 t438 a2 a3).bind fun t441 => (if (t441 == (!t429)) = true then ((region_Both.f l0 l1).bind fun t442 => ((region_Has.f kj6 t442 a2 a3).bind fun t445 => (some (t445 == t429)))) else (some false)))) else (some false)) else (if (t437 == t429) = true then ((region_Minus.f l0 l1).bind fun t446 => ((region_Has.f kj6 t446 a2 a3).bind fun t449 => (if (t449 == false) = true then ((region_Both.f l0 l1).bind fun t450 => ((region_Has.f kj6 t450 a2 a3).bind fun t453 => (some (t453 == false)))) else (some false)))) else (some false))))) else (some false)))) else (some false)) = some r := H
          have A12 := Aside0.mk A120
          clear A120
          have H1 : ((region_Make.f l0).bind fun t430 => ((region_Has.f kj6 t430 a2 a3).bind fun t433 => (if (t433 == t428) = true then ((region_Union.f l0 l1).bind fun t434 => ((region_Has.f kj6 t434 a2 a3).bind fun t437 => (if t428 = true then (if (t437 == true) = true then ((region_Minus.f l0 l1).bind fun t438 => ((region_Has.f kj6 t438 a2 a3).bind fun t441 => (if (t441 == (!t429)) = true then ((region_Both.f l0 l1).bind fun t442 => ((region_Has.f kj6 t442 a2 a3).bind fun t445 => (some (t445 == t429)))) else (some false)))) else (some false)) else (if (t437 == t429) = true then ((region_Minus.f l0 l1).bind fun t446 => ((region_Has.f kj6 t446 a2 a3).bind fun t449 => (if (t449 == false) = true then ((region_Both.f l0 l1).bind fun t450 => ((region_Has.f kj6 t450 a2 a3).bind fun t453 => (some (t453 == false)))) else (some false)))) else (some false))))) else (some false)))) = some r := by (first | rw [if_pos rfl] at H | rw [if_pos trivial] at H); exact H
          clear H
          have H := H1
          clear H1
          replace H := Option.bind_eq_some_iff.mp H
          obtain ⟨t430, A130, H⟩ := H
          replace H : ((region_Has.f kj6 t430 a2 a3).bind fun t433 => (if (t433 == t428) = true then ((region_Union.f l0 l1).bind fun t434 => ((region_Has.f kj6 t434 a2 a3).bind fun t437 => (if t428 = true then (if (t437 == true) = true then ((region_Minus.f l0 l1).bind fun t438 => ((region_Has.f kj6 t438 a2 a3).bind fun t441 => (if (t441 == (!t429)) = true then ((region_Both.f l0 l1).bind fun t442 => ((region_Has.f kj6 t442 a2 a3).bind fun t445 => (some (t445 == t429)))) else (some false)))) else (some false)) else (if (t437 == t429) = true then ((region_Minus.f l0 l1).bind fun t446 => ((region_Has.f kj6 t446 a2 a3).bind fun t449 => (if (t449 == false) = true then ((region_Both.f l0 l1).bind fun t450 => ((region_Has.f kj6 t450 a2 a3).bind fun t453 => (some (t453 == false)))) else (some false)))) else (some false))))) else (some false))) = some r := H
          have A13 := Aside0.mk A130
          clear A130
          replace H := Option.bind_eq_some_iff.mp H
          obtain ⟨t433, A140, H⟩ := H
          replace H : (if (t433 == t428) = true then ((region_Union.f l0 l1).bind fun t434 => ((region_Has.f kj6 t434 a2 a3).bind fun t437 => (if t428 = true then (if (t437 == true) = true then ((region_Minus.f l0 l1).bind fun t438 => ((region_Has.f kj6 t438 a2 a3).bind fun t441 => (if (t441 == (!t429)) = true then ((region_Both.f l0 l1).bind fun t442 => ((region_Has.f kj6 t442 a2 a3).bind fun t445 => (some (t445 == t429)))) else (some false)))) else (some false)) else (if (t437 == t429) = true then ((region_Minus.f l0 l1).bind fun t446 => ((region_Has.f kj6 t446 a2 a3).bind fun t449 => (if (t449 == false) = true then ((region_Both.f l0 l1).bind fun t450 => ((region_Has.f kj6 t450 a2 a3).bind fun t453 => (some (t453 == false)))) else (some false)))) else (some false))))) else (some false)) = some r := H
          have A14 := Aside0.mk A140
          clear A140
          by_cases c15 : (t433 == t428) = true
          · rw [if_pos c15] at H
            have c15b0 : (t433 == t428) = true := c15
            (try (have c15b1 : decide (t433 = t428) = true := by simpa using c15))
            (try (have c15b2 : (t433 == t428) = true := by simpa using c15))
            clear c15
            replace H := Option.bind_eq_some_iff.mp H
            obtain ⟨t434, A160, H⟩ := H
            replace H : ((region_Has.f kj6 t434 a2 a3).bind fun t437 => (if t428 = true then (if (t437 == true) = true then ((region_Minus.f l0 l1).bind fun t438 => ((region_Has.f kj6 t438 a2 a3).bind fun t441 => (if (t441 == (!t429)) = true then ((region_Both.f l0 l1).bind fun t442 => ((region_Has.f kj6 t442 a2 a3).bind fun t445 => (some (t445 == t429)))) else (some false)))) else (some false)) else (if (t437 == t429) = true then ((region_Minus.f l0 l1).bind fun t446 => ((region_Has.f kj6 t446 a2 a3).bind fun t449 => (if (t449 == false) = true then ((region_Both.f l0 l1).bind fun t450 => ((region_Has.f kj6 t450 a2 a3).bind fun t453 => (some (t453 == false)))) else (some false)))) else (some false)))) = some r := H
            have A16 := Aside0.mk A160
            clear A160
            replace H := Option.bind_eq_some_iff.mp H
            obtain ⟨t437, A170, H⟩ := H
            replace H : (if t428 = true then (if (t437 == true) = true then ((region_Minus.f l0 l1).bind fun t438 => ((region_Has.f kj6 t438 a2 a3).bind fun t441 => (if (t441 == (!t429)) = true then ((region_Both.f l0 l1).bind fun t442 => ((region_Has.f kj6 t442 a2 a3).bind fun t445 => (some (t445 == t429)))) else (some false)))) else (some false)) else (if (t437 == t429) = true then ((region_Minus.f l0 l1).bind fun t446 => ((region_Has.f kj6 t446 a2 a3).bind fun t449 => (if (t449 == false) = true then ((region_Both.f l0 l1).bind fun t450 => ((region_Has.f kj6 t450 a2 a3).bind fun t453 => (some (t453 == false)))) else (some false)))) else (some false))) = some r := H
            have A17 := Aside0.mk A170
            clear A170
            by_cases c18 : t428 = true
            · subst c18
              have H1 : (if (t437 == true) = true then ((region_Minus.f l0 l1).bind fun t438 => ((region_Has.f kj6 t438 a2 a3).bind fun t441 => (if (t441 == (!t429)) = true then ((region_Both.f l0 l1).bind fun t442 => ((region_Has.f kj6 t442 a2 a3).bind fun t445 => (some (t445 == t429)))) else (some false)))) else (some false)) = some r := by rw [if_pos rfl] at H; exact H
              clear H
              have H := H1
              clear H1
              by_cases c19 : (t437 == true) = true
              · rw [if_pos c19] at H
                have c19b0 : (t437 == true) = true := c19
                (try (have c19b1 : decide (t437 = true) = true := by simpa using c19))
                (try (have c19b2 : (t437 == true) = true := by simpa using c19))
                clear c19
                replace H := Option.bind_eq_some_iff.mp H
                obtain ⟨t438, A200, H⟩ := H
                replace H : ((region_Has.f kj6 t438 a2 a3).bind fun t441 => (if (t441 == (!t429)) = true then ((region_Both.f l0 l1).bind fun t442 => ((region_Has.f kj6 t442 a2 a3).bind fun t445 => (some (t445 == t429)))) else (some false))) = some r := H
                have A20 := Aside0.mk A200
                clear A200
                replace H := Option.bind_eq_some_iff.mp H
                obtain ⟨t441, A210, H⟩ := H
                replace H : (if (t441 == (!t429)) = true then ((region_Both.f l0 l1).bind fun t442 => ((region_Has.f kj6 t442 a2 a3).bind fun t445 => (some (t445 == t429)))) else (some false)) = some r := H
                have A21 := Aside0.mk A210
                clear A210
                by_cases c22 : (t441 == (!t429)) = true
                · rw [if_pos c22] at H
                  have c22b0 : (t441 == (!t429)) = true := c22
                  (try (have c22b1 : decide (t441 = (!t429)) = true := by simpa using c22))
                  (try (have c22b2 : (t441 == (!t429)) = true := by simpa using c22))
                  clear c22
                  replace H := Option.bind_eq_some_iff.mp H
                  obtain ⟨t442, A230, H⟩ := H
                  replace H : ((region_Has.f kj6 t442 a2 a3).bind fun t445 => (some (t445 == t429))) = some r := H
                  have A23 := Aside0.mk A230
                  clear A230
                  replace H := Option.bind_eq_some_iff.mp H
                  obtain ⟨t445, A240, H⟩ := H
                  replace H : (some (t445 == t429)) = some r := H
                  have A24 := Aside0.mk A240
                  clear A240
                  obtain rfl := Option.some.inj H
                  go_wp2_with (first | ((with_reducible refine gate_callee (f := 18) rfl ?_); refine goesL_ (some 27) rfl rfl Try.func18 (by kernel_rfl) rfl #[.slice A0 l0.length c0, .int .i64 a2, .int .i64 a3] rfl (by (try simp only [List.map_toArray, List.map_cons, List.map_nil]); first | done | rfl | (simp only [List.length_drop, List.length_take]; rfl)) ?_; (with_reducible refine (region_Has.calls kj6 _ _ l0 a2 a3 true _ ?side1 ?side2 A11.out).mono ?_); (case side1 => repeat (first | exact (Kd.C_below HR0.out HB.out) | (with_reducible refine Kd.C_alloc ?_ _) | (with_reducible refine Kd.C_drewN ?_ _) | (with_reducible refine Kd.C_drew ?_))); (case side2 => exact HC0.out); rintro e w25 ⟨rfl, hb⟩; refine ⟨_, rfl, ?_⟩; have n0_ := Aside0.mk (below_step (by repeat (first | (with_reducible first | exact HB.out | apply below_alloc | apply pw_below_drewN | apply below_drew1) | exact HB.out)) hb); clear HB; have HB := n0_; clear n0_; (try clear hb); (try clear hb2); (try clear hk); (try clear hi)) | ((with_reducible refine gate_callee (f := 18) rfl ?_); refine goesL_ (some 31) rfl rfl Try.func18 (by kernel_rfl) rfl #[.slice A1 l1.length c1, .int .i64 a2, .int .i64 a3] rfl (by (try simp only [List.map_toArray, List.map_cons, List.map_nil]); first | done | rfl | (simp only [List.length_drop, List.length_take]; rfl)) ?_; (with_reducible refine (region_Has.calls kj6 _ _ l1 a2 a3 t429 _ ?side1 ?side2 A12.out).mono ?_); (case side1 => repeat (first | exact (Kd.C_below HR1.out HB.out) | (with_reducible refine Kd.C_alloc ?_ _) | (with_reducible refine Kd.C_drewN ?_ _) | (with_reducible refine Kd.C_drew ?_))); (case side2 => exact HC1.out); rintro e w26 ⟨rfl, hb⟩; refine ⟨_, rfl, ?_⟩; have n0_ := Aside0.mk (below_step (by repeat (first | (with_reducible first | exact HB.out | apply below_alloc | apply pw_below_drewN | apply below_drew1) | exact HB.out)) hb); clear HB; have HB := n0_; clear n0_; (try clear hb); (try clear hb2); (try clear hk); (try clear hi)) | (go_at_call 11; (with_reducible refine (region_Make.calls _ _ l0 t430 _ ?side1 ?side2 A13.out).mono ?_); (case side1 => repeat (first | exact (Kd.C_below HR0.out HB.out) | (with_reducible refine Kd.C_alloc ?_ _) | (with_reducible refine Kd.C_drewN ?_ _) | (with_reducible refine Kd.C_drew ?_))); (case side2 => exact HC0.out); rintro e w27 ⟨v431, rfl, ho0, hb⟩; have n0_ := Aside0.mk (Kd.R_lower ho0 (below_size (by repeat (first | (with_reducible first | exact HB.out | apply below_alloc | apply pw_below_drewN | apply below_drew1) | exact HB.out)))); have n1_ := Aside0.mk (below_step (by repeat (first | (with_reducible first | exact HB.out | apply below_alloc | apply pw_below_drewN | apply below_drew1) | exact HB.out)) hb); clear HB; have HO432 := n0_; have HB := n1_; clear n0_ n1_; (try clear hb); (try clear hb2); (try clear hk); (try clear hi); (try clear ho0); obtain ⟨Ao28, co28, eo28⟩ := Kd.R_slice HO432.out; subst eo28) | (go_at_call 18; (with_reducible refine (region_Has.calls kj6 _ _ t430 a2 a3 t433 _ ?side1 ?side2 A14.out).mono ?_); (case side1 => repeat (first | exact (Kd.R_reads' HO432.out).2.2 | (with_reducible refine Kd.C_alloc ?_ _) | (with_reducible refine Kd.C_drewN ?_ _) | (with_reducible refine Kd.C_drew ?_))); (case side2 => exact (Kd.R_reads' HO432.out).2.1); rintro e w29 ⟨rfl, hb⟩; have n0_ := Aside0.mk (Kd.R_below (by (with_reducible repeat (first | apply Kd.R_alloc | apply Kd.R_drewN | apply Kd.R_drew)); exact HO432.out) hb); have n1_ := Aside0.mk (below_step (by repeat (first | (with_reducible first | exact HB.out | apply below_alloc | apply pw_below_drewN | apply below_drew1) | exact HB.out)) hb); clear HO432; clear HB; have HO432 := n0_; have HB := n1_; clear n0_ n1_; (try clear hb); (try clear hb2); (try clear hk); (try clear hi)) | (go_at_call 15; (with_reducible refine (region_Union.calls _ _ l0 _ _ l1 t434 _ ?side1 ?side2 ?side3 ?side4 A16.out).mono ?_); (case side1 => repeat (first | exact (Kd.C_below HR0.out HB.out) | (with_reducible refine Kd.C_alloc ?_ _) | (with_reducible refine Kd.C_drewN ?_ _) | (with_reducible refine Kd.C_drew ?_))); (case side2 => exact HC0.out); (case side3 => repeat (first | exact (Kd.C_below HR1.out HB.out) | (with_reducible refine Kd.C_alloc ?_ _) | (with_reducible refine Kd.C_drewN ?_ _) | (with_reducible refine Kd.C_drew ?_))); (case side4 => exact HC1.out); rintro e w30 ⟨v435, rfl, ho0, hb⟩; have n0_ := Aside0.mk (Kd.R_elder' (by (with_reducible repeat (first | apply Kd.R_alloc | apply Kd.R_drewN | apply Kd.R_drew)); exact HO432.out) (Kd.R_base ho0) hb); have n1_ := Aside0.mk (Kd.R_lower (Kd.R_new' ho0 (Kd.R_lt (by (with_reducible repeat (first | apply Kd.R_alloc | apply Kd.R_drewN | apply Kd.R_drew)); exact HO432.out))) (below_size (by repeat (first | (with_reducible first | exact HB.out | apply below_alloc | apply pw_below_drewN | apply below_drew1) | exact HB.out)))); have n2_ := Aside0.mk (below_step (by repeat (first | (with_reducible first | exact HB.out | apply below_alloc | apply pw_below_drewN | apply below_drew1) | exact HB.out)) hb); clear HO432; clear HB; have HO432 := n0_; have HO436 := n1_; have HB := n2_; clear n0_ n1_ n2_; (try clear hb); (try clear hb2); (try clear hk); (try clear hi); (try clear ho0); obtain ⟨Ao31, co31, eo31⟩ := Kd.R_slice HO436.out; subst eo31) | (go_at_call 18; (with_reducible refine (region_Has.calls kj6 _ _ t434 a2 a3 t437 _ ?side1 ?side2 A17.out).mono ?_); (case side1 => repeat (first | exact (Kd.R_reads' HO436.out).2.2 | (with_reducible refine Kd.C_alloc ?_ _) | (with_reducible refine Kd.C_drewN ?_ _) | (with_reducible refine Kd.C_drew ?_))); (case side2 => exact (Kd.R_reads' HO436.out).2.1); rintro e w32 ⟨rfl, hb⟩; have n0_ := Aside0.mk (Kd.R_below (by (with_reducible repeat (first | apply Kd.R_alloc | apply Kd.R_drewN | apply Kd.R_drew)); exact HO432.out) hb); have n1_ := Aside0.mk (Kd.R_below (by (with_reducible repeat (first | apply Kd.R_alloc | apply Kd.R_drewN | apply Kd.R_drew)); exact HO436.out) hb); have n2_ := Aside0.mk (below_step (by repeat (first | (with_reducible first | exact HB.out | apply below_alloc | apply pw_below_drewN | apply below_drew1) | exact HB.out)) hb); clear HO432; clear HO436; clear HB; have HO432 := n0_; have HO436 := n1_; have HB := n2_; clear n0_ n1_ n2_; (try clear hb); (try clear hb2); (try clear hk); (try clear hi)) | (go_at_call 16; (with_reducible refine (region_Minus.calls _ _ l0 _ _ l1 t438 _ ?side1 ?side2 ?side3 ?side4 A20.out).mono ?_); (case side1 => repeat (first | exact (Kd.C_below HR0.out HB.out) | (with_reducible refine Kd.C_alloc ?_ _) | (with_reducible refine Kd.C_drewN ?_ _) | (with_reducible refine Kd.C_drew ?_))); (case side2 => exact HC0.out); (case side3 => repeat (first | exact (Kd.C_below HR1.out HB.out) | (with_reducible refine Kd.C_alloc ?_ _) | (with_reducible refine Kd.C_drewN ?_ _) | (with_reducible refine Kd.C_drew ?_))); (case side4 => exact HC1.out); rintro e w33 ⟨v439, rfl, ho0, hb⟩; have n0_ := Aside0.mk (Kd.R_elder' (by (with_reducible repeat (first | apply Kd.R_alloc | apply Kd.R_drewN | apply Kd.R_drew)); exact HO432.out) (Kd.R_base ho0) hb); have n1_ := Aside0.mk (Kd.R_elder' (by (with_reducible repeat (first | apply Kd.R_alloc | apply Kd.R_drewN | apply Kd.R_drew)); exact HO436.out) (Kd.R_base ho0) hb); have n2_ := Aside0.mk (Kd.R_lower (Kd.R_new' (Kd.R_new' ho0 (Kd.R_lt (by (with_reducible repeat (first | apply Kd.R_alloc | apply Kd.R_drewN | apply Kd.R_drew)); exact HO432.out))) (Kd.R_lt (by (with_reducible repeat (first | apply Kd.R_alloc | apply Kd.R_drewN | apply Kd.R_drew)); exact HO436.out))) (below_size (by repeat (first | (with_reducible first | exact HB.out | apply below_alloc | apply pw_below_drewN | apply below_drew1) | exact HB.out)))); have n3_ := Aside0.mk (below_step (by repeat (first | (with_reducible first | exact HB.out | apply below_alloc | apply pw_below_drewN | apply below_drew1) | exact HB.out)) hb); clear HO432; clear HO436; clear HB; have HO432 := n0_; have HO436 := n1_; have HO440 := n2_; have HB := n3_; clear n0_ n1_ n2_ n3_; (try clear hb); (try clear hb2); (try clear hk); (try clear hi); (try clear ho0); obtain ⟨Ao34, co34, eo34⟩ := Kd.R_slice HO440.out; subst eo34) | (go_at_call 18; (with_reducible refine (region_Has.calls kj6 _ _ t438 a2 a3 t441 _ ?side1 ?side2 A21.out).mono ?_); (case side1 => repeat (first | exact (Kd.R_reads' HO440.out).2.2 | (with_reducible refine Kd.C_alloc ?_ _) | (with_reducible refine Kd.C_drewN ?_ _) | (with_reducible refine Kd.C_drew ?_))); (case side2 => exact (Kd.R_reads' HO440.out).2.1); rintro e w35 ⟨rfl, hb⟩; have n0_ := Aside0.mk (Kd.R_below (by (with_reducible repeat (first | apply Kd.R_alloc | apply Kd.R_drewN | apply Kd.R_drew)); exact HO432.out) hb); have n1_ := Aside0.mk (Kd.R_below (by (with_reducible repeat (first | apply Kd.R_alloc | apply Kd.R_drewN | apply Kd.R_drew)); exact HO436.out) hb); have n2_ := Aside0.mk (Kd.R_below (by (with_reducible repeat (first | apply Kd.R_alloc | apply Kd.R_drewN | apply Kd.R_drew)); exact HO440.out) hb); have n3_ := Aside0.mk (below_step (by repeat (first | (with_reducible first | exact HB.out | apply below_alloc | apply pw_below_drewN | apply below_drew1) | exact HB.out)) hb); clear HO432; clear HO436; clear HO440; clear HB; have HO432 := n0_; have HO436 := n1_; have HO440 := n2_; have HB := n3_; clear n0_ n1_ n2_ n3_; (try clear hb); (try clear hb2); (try clear hk); (try clear hi)) | (go_at_call 17; (with_reducible refine (region_Both.calls _ _ l0 _ _ l1 t442 _ ?side1 ?side2 ?side3 ?side4 A23.out).mono ?_); (case side1 => repeat (first | exact (Kd.C_below HR0.out HB.out) | (with_reducible refine Kd.C_alloc ?_ _) | (with_reducible refine Kd.C_drewN ?_ _) | (with_reducible refine Kd.C_drew ?_))); (case side2 => exact HC0.out); (case side3 => repeat (first | exact (Kd.C_below HR1.out HB.out) | (with_reducible refine Kd.C_alloc ?_ _) | (with_reducible refine Kd.C_drewN ?_ _) | (with_reducible refine Kd.C_drew ?_))); (case side4 => exact HC1.out); rintro e w36 ⟨v443, rfl, ho0, hb⟩; have n0_ := Aside0.mk (Kd.R_elder' (by (with_reducible repeat (first | apply Kd.R_alloc | apply Kd.R_drewN | apply Kd.R_drew)); exact HO432.out) (Kd.R_base ho0) hb); have n1_ := Aside0.mk (Kd.R_elder' (by (with_reducible repeat (first | apply Kd.R_alloc | apply Kd.R_drewN | apply Kd.R_drew)); exact HO436.out) (Kd.R_base ho0) hb); have n2_ := Aside0.mk (Kd.R_elder' (by (with_reducible repeat (first | apply Kd.R_alloc | apply Kd.R_drewN | apply Kd.R_drew)); exact HO440.out) (Kd.R_base ho0) hb); have n3_ := Aside0.mk (Kd.R_lower (Kd.R_new' (Kd.R_new' (Kd.R_new' ho0 (Kd.R_lt (by (with_reducible repeat (first | apply Kd.R_alloc | apply Kd.R_drewN | apply Kd.R_drew)); exact HO432.out))) (Kd.R_lt (by (with_reducible repeat (first | apply Kd.R_alloc | apply Kd.R_drewN | apply Kd.R_drew)); exact HO436.out))) (Kd.R_lt (by (with_reducible repeat (first | apply Kd.R_alloc | apply Kd.R_drewN | apply Kd.R_drew)); exact HO440.out))) (below_size (by repeat (first | (with_reducible first | exact HB.out | apply below_alloc | apply pw_below_drewN | apply below_drew1) | exact HB.out)))); have n4_ := Aside0.mk (below_step (by repeat (first | (with_reducible first | exact HB.out | apply below_alloc | apply pw_below_drewN | apply below_drew1) | exact HB.out)) hb); clear HO432; clear HO436; clear HO440; clear HB; have HO432 := n0_; have HO436 := n1_; have HO440 := n2_; have HO444 := n3_; have HB := n4_; clear n0_ n1_ n2_ n3_ n4_; (try clear hb); (try clear hb2); (try clear hk); (try clear hi); (try clear ho0); obtain ⟨Ao37, co37, eo37⟩ := Kd.R_slice HO444.out; subst eo37) | (go_at_call 18; (with_reducible refine (region_Has.calls kj6 _ _ t442 a2 a3 t445 _ ?side1 ?side2 A24.out).mono ?_); (case side1 => repeat (first | exact (Kd.R_reads' HO444.out).2.2 | (with_reducible refine Kd.C_alloc ?_ _) | (with_reducible refine Kd.C_drewN ?_ _) | (with_reducible refine Kd.C_drew ?_))); (case side2 => exact (Kd.R_reads' HO444.out).2.1); rintro e w38 ⟨rfl, hb⟩; have n0_ := Aside0.mk (Kd.R_below (by (with_reducible repeat (first | apply Kd.R_alloc | apply Kd.R_drewN | apply Kd.R_drew)); exact HO432.out) hb); have n1_ := Aside0.mk (Kd.R_below (by (with_reducible repeat (first | apply Kd.R_alloc | apply Kd.R_drewN | apply Kd.R_drew)); exact HO436.out) hb); have n2_ := Aside0.mk (Kd.R_below (by (with_reducible repeat (first | apply Kd.R_alloc | apply Kd.R_drewN | apply Kd.R_drew)); exact HO440.out) hb); have n3_ := Aside0.mk (Kd.R_below (by (with_reducible repeat (first | apply Kd.R_alloc | apply Kd.R_drewN | apply Kd.R_drew)); exact HO444.out) hb); have n4_ := Aside0.mk (below_step (by repeat (first | (with_reducible first | exact HB.out | apply below_alloc | apply pw_below_drewN | apply below_drew1) | exact HB.out)) hb); clear HO432; clear HO436; clear HO440; clear HO444; clear HB; have HO432 := n0_; have HO436 := n1_; have HO440 := n2_; have HO444 := n3_; have HB := n4_; clear n0_ n1_ n2_ n3_ n4_; (try clear hb); (try clear hb2); (try clear hk); (try clear hi)))
                  go_ret
                  exact ⟨by first | rfl | (simp [errW_none, errW_some] <;> rfl) | (simp [*, errW_none, errW_some] <;> rfl), by repeat (first | (with_reducible first | exact HB.out | apply below_alloc | apply pw_below_drewN | apply below_drew1) | exact HB.out)⟩
                · rw [if_neg c22] at H
                  have c22b0 : (t441 == (!t429)) = false := by simpa using c22
                  (try (have c22b1 : decide (t441 = (!t429)) = false := by simpa using c22))
                  (try (have c22b2 : (t441 == (!t429)) = false := by simpa using c22))
                  (try (have c22b3 : ¬ (t441 = (!t429)) := by simpa using c22))
                  clear c22
                  rw [HRT.out] at H
                  exact absurd (Option.some.inj H) (by decide)
              · rw [if_neg c19] at H
                have c19b0 : (t437 == true) = false := by simpa using c19
                (try (have c19b1 : decide (t437 = true) = false := by simpa using c19))
                (try (have c19b2 : (t437 == true) = false := by simpa using c19))
                (try (have c19b3 : ¬ (t437 = true) := by simpa using c19))
                clear c19
                rw [HRT.out] at H
                exact absurd (Option.some.inj H) (by decide)
            · replace c18 := Bool.eq_false_iff.mpr c18
              subst c18
              have H1 : (if (t437 == t429) = true then ((region_Minus.f l0 l1).bind fun t446 => ((region_Has.f kj6 t446 a2 a3).bind fun t449 => (if (t449 == false) = true then ((region_Both.f l0 l1).bind fun t450 => ((region_Has.f kj6 t450 a2 a3).bind fun t453 => (some (t453 == false)))) else (some false)))) else (some false)) = some r := by rw [if_neg (show ¬ (false = true) by decide)] at H; exact H
              clear H
              have H := H1
              clear H1
              by_cases c39 : (t437 == t429) = true
              · rw [if_pos c39] at H
                have c39b0 : (t437 == t429) = true := c39
                (try (have c39b1 : decide (t437 = t429) = true := by simpa using c39))
                (try (have c39b2 : (t437 == t429) = true := by simpa using c39))
                clear c39
                replace H := Option.bind_eq_some_iff.mp H
                obtain ⟨t446, A400, H⟩ := H
                replace H : ((region_Has.f kj6 t446 a2 a3).bind fun t449 => (if (t449 == false) = true then ((region_Both.f l0 l1).bind fun t450 => ((region_Has.f kj6 t450 a2 a3).bind fun t453 => (some (t453 == false)))) else (some false))) = some r := H
                have A40 := Aside0.mk A400
                clear A400
                replace H := Option.bind_eq_some_iff.mp H
                obtain ⟨t449, A410, H⟩ := H
                replace H : (if (t449 == false) = true then ((region_Both.f l0 l1).bind fun t450 => ((region_Has.f kj6 t450 a2 a3).bind fun t453 => (some (t453 == false)))) else (some false)) = some r := H
                have A41 := Aside0.mk A410
                clear A410
                by_cases c42 : (t449 == false) = true
                · rw [if_pos c42] at H
                  have c42b0 : (t449 == false) = true := c42
                  (try (have c42b1 : decide (t449 = false) = true := by simpa using c42))
                  (try (have c42b2 : (t449 == false) = true := by simpa using c42))
                  clear c42
                  replace H := Option.bind_eq_some_iff.mp H
                  obtain ⟨t450, A430, H⟩ := H
                  replace H : ((region_Has.f kj6 t450 a2 a3).bind fun t453 => (some (t453 == false))) = some r := H
                  have A43 := Aside0.mk A430
                  clear A430
                  replace H := Option.bind_eq_some_iff.mp H
                  obtain ⟨t453, A440, H⟩ := H
                  replace H : (some (t453 == false)) = some r := H
                  have A44 := Aside0.mk A440
                  clear A440
                  obtain rfl := Option.some.inj H
                  go_wp2_with (first | ((with_reducible refine gate_callee (f := 18) rfl ?_); refine goesL_ (some 27) rfl rfl Try.func18 (by kernel_rfl) rfl #[.slice A0 l0.length c0, .int .i64 a2, .int .i64 a3] rfl (by (try simp only [List.map_toArray, List.map_cons, List.map_nil]); first | done | rfl | (simp only [List.length_drop, List.length_take]; rfl)) ?_; (with_reducible refine (region_Has.calls kj6 _ _ l0 a2 a3 false _ ?side1 ?side2 A11.out).mono ?_); (case side1 => repeat (first | exact (Kd.C_below HR0.out HB.out) | (with_reducible refine Kd.C_alloc ?_ _) | (with_reducible refine Kd.C_drewN ?_ _) | (with_reducible refine Kd.C_drew ?_))); (case side2 => exact HC0.out); rintro e w45 ⟨rfl, hb⟩; refine ⟨_, rfl, ?_⟩; have n0_ := Aside0.mk (below_step (by repeat (first | (with_reducible first | exact HB.out | apply below_alloc | apply pw_below_drewN | apply below_drew1) | exact HB.out)) hb); clear HB; have HB := n0_; clear n0_; (try clear hb); (try clear hb2); (try clear hk); (try clear hi)) | ((with_reducible refine gate_callee (f := 18) rfl ?_); refine goesL_ (some 31) rfl rfl Try.func18 (by kernel_rfl) rfl #[.slice A1 l1.length c1, .int .i64 a2, .int .i64 a3] rfl (by (try simp only [List.map_toArray, List.map_cons, List.map_nil]); first | done | rfl | (simp only [List.length_drop, List.length_take]; rfl)) ?_; (with_reducible refine (region_Has.calls kj6 _ _ l1 a2 a3 t429 _ ?side1 ?side2 A12.out).mono ?_); (case side1 => repeat (first | exact (Kd.C_below HR1.out HB.out) | (with_reducible refine Kd.C_alloc ?_ _) | (with_reducible refine Kd.C_drewN ?_ _) | (with_reducible refine Kd.C_drew ?_))); (case side2 => exact HC1.out); rintro e w46 ⟨rfl, hb⟩; refine ⟨_, rfl, ?_⟩; have n0_ := Aside0.mk (below_step (by repeat (first | (with_reducible first | exact HB.out | apply below_alloc | apply pw_below_drewN | apply below_drew1) | exact HB.out)) hb); clear HB; have HB := n0_; clear n0_; (try clear hb); (try clear hb2); (try clear hk); (try clear hi)) | (go_at_call 11; (with_reducible refine (region_Make.calls _ _ l0 t430 _ ?side1 ?side2 A13.out).mono ?_); (case side1 => repeat (first | exact (Kd.C_below HR0.out HB.out) | (with_reducible refine Kd.C_alloc ?_ _) | (with_reducible refine Kd.C_drewN ?_ _) | (with_reducible refine Kd.C_drew ?_))); (case side2 => exact HC0.out); rintro e w47 ⟨v431, rfl, ho0, hb⟩; have n0_ := Aside0.mk (Kd.R_lower ho0 (below_size (by repeat (first | (with_reducible first | exact HB.out | apply below_alloc | apply pw_below_drewN | apply below_drew1) | exact HB.out)))); have n1_ := Aside0.mk (below_step (by repeat (first | (with_reducible first | exact HB.out | apply below_alloc | apply pw_below_drewN | apply below_drew1) | exact HB.out)) hb); clear HB; have HO432 := n0_; have HB := n1_; clear n0_ n1_; (try clear hb); (try clear hb2); (try clear hk); (try clear hi); (try clear ho0); obtain ⟨Ao48, co48, eo48⟩ := Kd.R_slice HO432.out; subst eo48) | (go_at_call 18; (with_reducible refine (region_Has.calls kj6 _ _ t430 a2 a3 t433 _ ?side1 ?side2 A14.out).mono ?_); (case side1 => repeat (first | exact (Kd.R_reads' HO432.out).2.2 | (with_reducible refine Kd.C_alloc ?_ _) | (with_reducible refine Kd.C_drewN ?_ _) | (with_reducible refine Kd.C_drew ?_))); (case side2 => exact (Kd.R_reads' HO432.out).2.1); rintro e w49 ⟨rfl, hb⟩; have n0_ := Aside0.mk (Kd.R_below (by (with_reducible repeat (first | apply Kd.R_alloc | apply Kd.R_drewN | apply Kd.R_drew)); exact HO432.out) hb); have n1_ := Aside0.mk (below_step (by repeat (first | (with_reducible first | exact HB.out | apply below_alloc | apply pw_below_drewN | apply below_drew1) | exact HB.out)) hb); clear HO432; clear HB; have HO432 := n0_; have HB := n1_; clear n0_ n1_; (try clear hb); (try clear hb2); (try clear hk); (try clear hi)) | (go_at_call 15; (with_reducible refine (region_Union.calls _ _ l0 _ _ l1 t434 _ ?side1 ?side2 ?side3 ?side4 A16.out).mono ?_); (case side1 => repeat (first | exact (Kd.C_below HR0.out HB.out) | (with_reducible refine Kd.C_alloc ?_ _) | (with_reducible refine Kd.C_drewN ?_ _) | (with_reducible refine Kd.C_drew ?_))); (case side2 => exact HC0.out); (case side3 => repeat (first | exact (Kd.C_below HR1.out HB.out) | (with_reducible refine Kd.C_alloc ?_ _) | (with_reducible refine Kd.C_drewN ?_ _) | (with_reducible refine Kd.C_drew ?_))); (case side4 => exact HC1.out); rintro e w50 ⟨v435, rfl, ho0, hb⟩; have n0_ := Aside0.mk (Kd.R_elder' (by (with_reducible repeat (first | apply Kd.R_alloc | apply Kd.R_drewN | apply Kd.R_drew)); exact HO432.out) (Kd.R_base ho0) hb); have n1_ := Aside0.mk (Kd.R_lower (Kd.R_new' ho0 (Kd.R_lt (by (with_reducible repeat (first | apply Kd.R_alloc | apply Kd.R_drewN | apply Kd.R_drew)); exact HO432.out))) (below_size (by repeat (first | (with_reducible first | exact HB.out | apply below_alloc | apply pw_below_drewN | apply below_drew1) | exact HB.out)))); have n2_ := Aside0.mk (below_step (by repeat (first | (with_reducible first | exact HB.out | apply below_alloc | apply pw_below_drewN | apply below_drew1) | exact HB.out)) hb); clear HO432; clear HB; have HO432 := n0_; have HO436 := n1_; have HB := n2_; clear n0_ n1_ n2_; (try clear hb); (try clear hb2); (try clear hk); (try clear hi); (try clear ho0); obtain ⟨Ao51, co51, eo51⟩ := Kd.R_slice HO436.out; subst eo51) | (go_at_call 18; (with_reducible refine (region_Has.calls kj6 _ _ t434 a2 a3 t437 _ ?side1 ?side2 A17.out).mono ?_); (case side1 => repeat (first | exact (Kd.R_reads' HO436.out).2.2 | (with_reducible refine Kd.C_alloc ?_ _) | (with_reducible refine Kd.C_drewN ?_ _) | (with_reducible refine Kd.C_drew ?_))); (case side2 => exact (Kd.R_reads' HO436.out).2.1); rintro e w52 ⟨rfl, hb⟩; have n0_ := Aside0.mk (Kd.R_below (by (with_reducible repeat (first | apply Kd.R_alloc | apply Kd.R_drewN | apply Kd.R_drew)); exact HO432.out) hb); have n1_ := Aside0.mk (Kd.R_below (by (with_reducible repeat (first | apply Kd.R_alloc | apply Kd.R_drewN | apply Kd.R_drew)); exact HO436.out) hb); have n2_ := Aside0.mk (below_step (by repeat (first | (with_reducible first | exact HB.out | apply below_alloc | apply pw_below_drewN | apply below_drew1) | exact HB.out)) hb); clear HO432; clear HO436; clear HB; have HO432 := n0_; have HO436 := n1_; have HB := n2_; clear n0_ n1_ n2_; (try clear hb); (try clear hb2); (try clear hk); (try clear hi)) | (go_at_call 16; (with_reducible refine (region_Minus.calls _ _ l0 _ _ l1 t446 _ ?side1 ?side2 ?side3 ?side4 A40.out).mono ?_); (case side1 => repeat (first | exact (Kd.C_below HR0.out HB.out) | (with_reducible refine Kd.C_alloc ?_ _) | (with_reducible refine Kd.C_drewN ?_ _) | (with_reducible refine Kd.C_drew ?_))); (case side2 => exact HC0.out); (case side3 => repeat (first | exact (Kd.C_below HR1.out HB.out) | (with_reducible refine Kd.C_alloc ?_ _) | (with_reducible refine Kd.C_drewN ?_ _) | (with_reducible refine Kd.C_drew ?_))); (case side4 => exact HC1.out); rintro e w53 ⟨v447, rfl, ho0, hb⟩; have n0_ := Aside0.mk (Kd.R_elder' (by (with_reducible repeat (first | apply Kd.R_alloc | apply Kd.R_drewN | apply Kd.R_drew)); exact HO432.out) (Kd.R_base ho0) hb); have n1_ := Aside0.mk (Kd.R_elder' (by (with_reducible repeat (first | apply Kd.R_alloc | apply Kd.R_drewN | apply Kd.R_drew)); exact HO436.out) (Kd.R_base ho0) hb); have n2_ := Aside0.mk (Kd.R_lower (Kd.R_new' (Kd.R_new' ho0 (Kd.R_lt (by (with_reducible repeat (first | apply Kd.R_alloc | apply Kd.R_drewN | apply Kd.R_drew)); exact HO432.out))) (Kd.R_lt (by (with_reducible repeat (first | apply Kd.R_alloc | apply Kd.R_drewN | apply Kd.R_drew)); exact HO436.out))) (below_size (by repeat (first | (with_reducible first | exact HB.out | apply below_alloc | apply pw_below_drewN | apply below_drew1) | exact HB.out)))); have n3_ := Aside0.mk (below_step (by repeat (first | (with_reducible first | exact HB.out | apply below_alloc | apply pw_below_drewN | apply below_drew1) | exact HB.out)) hb); clear HO432; clear HO436; clear HB; have HO432 := n0_; have HO436 := n1_; have HO448 := n2_; have HB := n3_; clear n0_ n1_ n2_ n3_; (try clear hb); (try clear hb2); (try clear hk); (try clear hi); (try clear ho0); obtain ⟨Ao54, co54, eo54⟩ := Kd.R_slice HO448.out; subst eo54) | (go_at_call 18; (with_reducible refine (region_Has.calls kj6 _ _ t446 a2 a3 t449 _ ?side1 ?side2 A41.out).mono ?_); (case side1 => repeat (first | exact (Kd.R_reads' HO448.out).2.2 | (with_reducible refine Kd.C_alloc ?_ _) | (with_reducible refine Kd.C_drewN ?_ _) | (with_reducible refine Kd.C_drew ?_))); (case side2 => exact (Kd.R_reads' HO448.out).2.1); rintro e w55 ⟨rfl, hb⟩; have n0_ := Aside0.mk (Kd.R_below (by (with_reducible repeat (first | apply Kd.R_alloc | apply Kd.R_drewN | apply Kd.R_drew)); exact HO432.out) hb); have n1_ := Aside0.mk (Kd.R_below (by (with_reducible repeat (first | apply Kd.R_alloc | apply Kd.R_drewN | apply Kd.R_drew)); exact HO436.out) hb); have n2_ := Aside0.mk (Kd.R_below (by (with_reducible repeat (first | apply Kd.R_alloc | apply Kd.R_drewN | apply Kd.R_drew)); exact HO448.out) hb); have n3_ := Aside0.mk (below_step (by repeat (first | (with_reducible first | exact HB.out | apply below_alloc | apply pw_below_drewN | apply below_drew1) | exact HB.out)) hb); clear HO432; clear HO436; clear HO448; clear HB; have HO432 := n0_; have HO436 := n1_; have HO448 := n2_; have HB := n3_; clear n0_ n1_ n2_ n3_; (try clear hb); (try clear hb2); (try clear hk); (try clear hi)) | (go_at_call 17; (with_reducible refine (region_Both.calls _ _ l0 _ _ l1 t450 _ ?side1 ?side2 ?side3 ?side4 A43.out).mono ?_); (case side1 => repeat (first | exact (Kd.C_below HR0.out HB.out) | (with_reducible refine Kd.C_alloc ?_ _) | (with_reducible refine Kd.C_drewN ?_ _) | (with_reducible refine Kd.C_drew ?_))); (case side2 => exact HC0.out); (case side3 => repeat (first | exact (Kd.C_below HR1.out HB.out) | (with_reducible refine Kd.C_alloc ?_ _) | (with_reducible refine Kd.C_drewN ?_ _) | (with_reducible refine Kd.C_drew ?_))); (case side4 => exact HC1.out); rintro e w56 ⟨v451, rfl, ho0, hb⟩; have n0_ := Aside0.mk (Kd.R_elder' (by (with_reducible repeat (first | apply Kd.R_alloc | apply Kd.R_drewN | apply Kd.R_drew)); exact HO432.out) (Kd.R_base ho0) hb); have n1_ := Aside0.mk (Kd.R_elder' (by (with_reducible repeat (first | apply Kd.R_alloc | apply Kd.R_drewN | apply Kd.R_drew)); exact HO436.out) (Kd.R_base ho0) hb); have n2_ := Aside0.mk (Kd.R_elder' (by (with_reducible repeat (first | apply Kd.R_alloc | apply Kd.R_drewN | apply Kd.R_drew)); exact HO448.out) (Kd.R_base ho0) hb); have n3_ := Aside0.mk (Kd.R_lower (Kd.R_new' (Kd.R_new' (Kd.R_new' ho0 (Kd.R_lt (by (with_reducible repeat (first | apply Kd.R_alloc | apply Kd.R_drewN | apply Kd.R_drew)); exact HO432.out))) (Kd.R_lt (by (with_reducible repeat (first | apply Kd.R_alloc | apply Kd.R_drewN | apply Kd.R_drew)); exact HO436.out))) (Kd.R_lt (by (with_reducible repeat (first | apply Kd.R_alloc | apply Kd.R_drewN | apply Kd.R_drew)); exact HO448.out))) (below_size (by repeat (first | (with_reducible first | exact HB.out | apply below_alloc | apply pw_below_drewN | apply below_drew1) | exact HB.out)))); have n4_ := Aside0.mk (below_step (by repeat (first | (with_reducible first | exact HB.out | apply below_alloc | apply pw_below_drewN | apply below_drew1) | exact HB.out)) hb); clear HO432; clear HO436; clear HO448; clear HB; have HO432 := n0_; have HO436 := n1_; have HO448 := n2_; have HO452 := n3_; have HB := n4_; clear n0_ n1_ n2_ n3_ n4_; (try clear hb); (try clear hb2); (try clear hk); (try clear hi); (try clear ho0); obtain ⟨Ao57, co57, eo57⟩ := Kd.R_slice HO452.out; subst eo57) | (go_at_call 18; (with_reducible refine (region_Has.calls kj6 _ _ t450 a2 a3 t453 _ ?side1 ?side2 A44.out).mono ?_); (case side1 => repeat (first | exact (Kd.R_reads' HO452.out).2.2 | (with_reducible refine Kd.C_alloc ?_ _) | (with_reducible refine Kd.C_drewN ?_ _) | (with_reducible refine Kd.C_drew ?_))); (case side2 => exact (Kd.R_reads' HO452.out).2.1); rintro e w58 ⟨rfl, hb⟩; have n0_ := Aside0.mk (Kd.R_below (by (with_reducible repeat (first | apply Kd.R_alloc | apply Kd.R_drewN | apply Kd.R_drew)); exact HO432.out) hb); have n1_ := Aside0.mk (Kd.R_below (by (with_reducible repeat (first | apply Kd.R_alloc | apply Kd.R_drewN | apply Kd.R_drew)); exact HO436.out) hb); have n2_ := Aside0.mk (Kd.R_below (by (with_reducible repeat (first | apply Kd.R_alloc | apply Kd.R_drewN | apply Kd.R_drew)); exact HO448.out) hb); have n3_ := Aside0.mk (Kd.R_below (by (with_reducible repeat (first | apply Kd.R_alloc | apply Kd.R_drewN | apply Kd.R_drew)); exact HO452.out) hb); have n4_ := Aside0.mk (below_step (by repeat (first | (with_reducible first | exact HB.out | apply below_alloc | apply pw_below_drewN | apply below_drew1) | exact HB.out)) hb); clear HO432; clear HO436; clear HO448; clear HO452; clear HB; have HO432 := n0_; have HO436 := n1_; have HO448 := n2_; have HO452 := n3_; have HB := n4_; clear n0_ n1_ n2_ n3_ n4_; (try clear hb); (try clear hb2); (try clear hk); (try clear hi)))
                  go_ret
                  exact ⟨by first | rfl | (simp [errW_none, errW_some] <;> rfl) | (simp [*, errW_none, errW_some] <;> rfl), by repeat (first | (with_reducible first | exact HB.out | apply below_alloc | apply pw_below_drewN | apply below_drew1) | exact HB.out)⟩
                · rw [if_neg c42] at H
                  have c42b0 : (t449 == false) = false := by simpa using c42
                  (try (have c42b1 : decide (t449 = false) = false := by simpa using c42))
                  (try (have c42b2 : (t449 == false) = false := by simpa using c42))
                  (try (have c42b3 : ¬ (t449 = false) := by simpa using c42))
                  clear c42
                  rw [HRT.out] at H
                  exact absurd (Option.some.inj H) (by decide)
              · rw [if_neg c39] at H
                have c39b0 : (t437 == t429) = false := by simpa using c39
                (try (have c39b1 : decide (t437 = t429) = false := by simpa using c39))
                (try (have c39b2 : (t437 == t429) = false := by simpa using c39))
                (try (have c39b3 : ¬ (t437 = t429) := by simpa using c39))
                clear c39
                rw [HRT.out] at H
                exact absurd (Option.some.inj H) (by decide)
          · rw [if_neg c15] at H
            have c15b0 : (t433 == t428) = false := by simpa using c15
            (try (have c15b1 : decide (t433 = t428) = false := by simpa using c15))
            (try (have c15b2 : (t433 == t428) = false := by simpa using c15))
            (try (have c15b3 : ¬ (t433 = t428) := by simpa using c15))
            clear c15
            rw [HRT.out] at H
            exact absurd (Option.some.inj H) (by decide)
  · replace c6 := Bool.eq_false_iff.mpr c6
    subst c6
    have H1 : (some false) = some r := by rw [if_neg (show ¬ (false = true) by decide)] at H; exact H
    clear H
    have H := H1
    clear H1
    rw [HRT.out] at H
    exact absurd (Option.some.inj H) (by decide)

end Go.Proofs.Ytkobiblgbpnlaaa.X
