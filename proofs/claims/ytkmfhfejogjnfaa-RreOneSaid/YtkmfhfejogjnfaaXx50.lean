/- What each Go function that these laws use answers: as a Lean function, with the proof that the machine's call comes to it. Written by a program of this session (xprint.py). -/
import Derived.Test.YtkmfhfejogjnfaaXx0
import Derived.Test.YtkmfhfejogjnfaaXx1
import Derived.Test.YtkmfhfejogjnfaaXx5
import Derived.Test.YtkmfhfejogjnfaaXx6
import Derived.Test.YtkmfhfejogjnfaaXx29
import Derived.Test.YtkmfhfejogjnfaaXx43s
namespace Go.Proofs.Ytkmfhfejogjnfaa.X
open Go.RowKit Go.Proofs.YtkmfhfejogjnfaaW.PrintWords Go.Proofs.YtkmfhfejogjnfaaW.PrintLast Go.Proofs.YtkmfhfejogjnfaaW.PrintMore
attribute [local go_sem] max2_int min2_int max_two min_two max_three min_three max_four min_four   -- for this text's walks alone
set_option linter.unusedVariables false
set_option linter.unusedSimpArgs false

attribute [local go_sem high] eqA29
/-! ### miradorlaw17_RreOne: function 8 -/
mutual
def miradorlaw17_RreOne.j0 : Nat → Int → Int → Int → Int → Int → Int → Bool → Bool → Option (Bool)
  | 0, _, _, _, _, _, _, _, _ => none
  | k + 1, x0, x1, x2, x3, x4, x5, x13, x56 => if x56 = true then (some x13) else (miradorlaw17_RreOne.l0 k x0 x1 x2 x3 x4 x5 x13 ([] : List Int) 0)
def miradorlaw17_RreOne.l0 : Nat → Int → Int → Int → Int → Int → Int → Bool → List Int → Int → Option (Bool)
  | 0, _, _, _, _, _, _, _, _, _ => none
  | k + 1, x0, x1, x2, x3, x4, x5, x13, x14, x15 => if x15 < (wrap64 (x0 * x1)) then (if x14.length < 17592186044416 then (miradorlaw17_RreOne.l0 k x0 x1 x2 x3 x4 x5 x13 (x14 ++ [x2]) (wrap64 (x15 + 1))) else (none)) else ((rre_Pieces.f x0 x1 x14 x2).bind fun t459 => (if (t459.length : Int) > 0 then (miradorlaw17_RreOne.j2 k x0 x1 x2 x3 x4 x5 x13 x14 true) else ((rre_Ground.f x14).bind fun t462 => (miradorlaw17_RreOne.j2 k x0 x1 x2 x3 x4 x5 x13 x14 (t462 != x2)))))
def miradorlaw17_RreOne.j2 : Nat → Int → Int → Int → Int → Int → Int → Bool → List Int → Bool → Option (Bool)
  | 0, _, _, _, _, _, _, _, _, _ => none
  | k + 1, x0, x1, x2, x3, x4, x5, x13, x14, x82 => if x82 = true then (some false) else (if 0 ≤ (wrap64 ((wrap64 (x5 * x0)) + x4)) then (if (wrap64 ((wrap64 (x5 * x0)) + x4)) < (x14.length : Int) then ((some (x14.set ((wrap64 ((wrap64 (x5 * x0)) + x4)) : Int).toNat x3 : List Int)).bind fun y463 => ((rre_Ground.f y463).bind fun t464 => ((rre_Pieces.f x0 x1 y463 t464).bind fun t465 => (if x2 = x3 then (if x13 = true then (some ((t465.length : Int) == 0)) else (some false)) else (if x13 = true then ((rre_Ground.f y463).bind fun t468 => (if t468 = x2 then (if (t465.length : Int) = 1 then (if 0 < (t465.length : Int) then (if ((rd_T31 t465 0).f0) = x3 then (some (((rd_T31 t465 0).f1.f0) == x4 && (((rd_T31 t465 0).f1.f1) == x5 && (((rd_T31 t465 0).f1.f2) == 1 && (((rd_T31 t465 0).f1.f3) == 1))))) else (some false)) else (none)) else (some false)) else (some false))) else (some false)))))) else (none)) else (none))
end
def miradorlaw17_RreOne.f (k : Nat) (a0 : Int) (a1 : Int) (a2 : Int) (a3 : Int) (a4 : Int) (a5 : Int) : Option (Bool) := (miradorlaw17_works.f k).bind fun t454 => (if t454 = true then (if a0 < 1 then (miradorlaw17_RreOne.j0 k a0 a1 a2 a3 a4 a5 t454 true) else (if a1 < 1 then (miradorlaw17_RreOne.j0 k a0 a1 a2 a3 a4 a5 t454 true) else ((miradorlaw17_small.f a0 a1).bind fun t455 => (if t455 = true then (if (wrap64 (a0 * a1)) < 3 then (miradorlaw17_RreOne.j0 k a0 a1 a2 a3 a4 a5 t454 true) else (if a4 < 0 then (miradorlaw17_RreOne.j0 k a0 a1 a2 a3 a4 a5 t454 true) else (if a5 < 0 then (miradorlaw17_RreOne.j0 k a0 a1 a2 a3 a4 a5 t454 true) else (if a4 ≥ a0 then (miradorlaw17_RreOne.j0 k a0 a1 a2 a3 a4 a5 t454 true) else (miradorlaw17_RreOne.j0 k a0 a1 a2 a3 a4 a5 t454 (decide (a5 ≥ a1))))))) else (miradorlaw17_RreOne.j0 k a0 a1 a2 a3 a4 a5 t454 true))))) else (some false))
theorem miradorlaw17_RreOne.mono_l : ∀ k, (∀ y0 y1 y2 y3 y4 y5 y6 y7, LeO (miradorlaw17_RreOne.j0 k y0 y1 y2 y3 y4 y5 y6 y7) (miradorlaw17_RreOne.j0 (k + 1) y0 y1 y2 y3 y4 y5 y6 y7)) ∧ (∀ y0 y1 y2 y3 y4 y5 y6 y7 y8, LeO (miradorlaw17_RreOne.l0 k y0 y1 y2 y3 y4 y5 y6 y7 y8) (miradorlaw17_RreOne.l0 (k + 1) y0 y1 y2 y3 y4 y5 y6 y7 y8)) ∧ (∀ y0 y1 y2 y3 y4 y5 y6 y7 y8, LeO (miradorlaw17_RreOne.j2 k y0 y1 y2 y3 y4 y5 y6 y7 y8) (miradorlaw17_RreOne.j2 (k + 1) y0 y1 y2 y3 y4 y5 y6 y7 y8))
  | 0 => ⟨fun _ _ _ _ _ _ _ _ r h => by simp [miradorlaw17_RreOne.j0] at h, fun _ _ _ _ _ _ _ _ _ r h => by simp [miradorlaw17_RreOne.l0] at h, fun _ _ _ _ _ _ _ _ _ r h => by simp [miradorlaw17_RreOne.j2] at h⟩
  | k + 1 => by
    obtain ⟨ih0, ih1, ih2⟩ := miradorlaw17_RreOne.mono_l k
    refine ⟨?_, ?_, ?_⟩
    · intro y0 y1 y2 y3 y4 y5 y6 y7
      unfold miradorlaw17_RreOne.j0
      repeat' first
      | (with_reducible exact ih0 _ _ _ _ _ _ _ _)
      | (with_reducible exact ih1 _ _ _ _ _ _ _ _ _)
      | (with_reducible exact ih2 _ _ _ _ _ _ _ _ _)
      | (with_reducible exact miradorlaw17_works.mono _)
      | (with_reducible exact LeO.refl _)
      | (with_reducible exact LeO.none _)
      | (with_reducible refine LeO.ite ?_ ?_)
      | (with_reducible refine LeO.bind ?_ (fun _ => ?_))
      | exact ih0 _ _ _ _ _ _ _ _
      | exact ih1 _ _ _ _ _ _ _ _ _
      | exact ih2 _ _ _ _ _ _ _ _ _
      | exact miradorlaw17_works.mono _
      | exact LeO.none _
      | refine LeO.ite ?_ ?_
      | refine LeO.bind ?_ (fun _ => ?_)
    · intro y0 y1 y2 y3 y4 y5 y6 y7 y8
      unfold miradorlaw17_RreOne.l0
      repeat' first
      | (with_reducible exact ih0 _ _ _ _ _ _ _ _)
      | (with_reducible exact ih1 _ _ _ _ _ _ _ _ _)
      | (with_reducible exact ih2 _ _ _ _ _ _ _ _ _)
      | (with_reducible exact miradorlaw17_works.mono _)
      | (with_reducible exact LeO.refl _)
      | (with_reducible exact LeO.none _)
      | (with_reducible refine LeO.ite ?_ ?_)
      | (with_reducible refine LeO.bind ?_ (fun _ => ?_))
      | exact ih0 _ _ _ _ _ _ _ _
      | exact ih1 _ _ _ _ _ _ _ _ _
      | exact ih2 _ _ _ _ _ _ _ _ _
      | exact miradorlaw17_works.mono _
      | exact LeO.none _
      | refine LeO.ite ?_ ?_
      | refine LeO.bind ?_ (fun _ => ?_)
    · intro y0 y1 y2 y3 y4 y5 y6 y7 y8
      unfold miradorlaw17_RreOne.j2
      repeat' first
      | (with_reducible exact ih0 _ _ _ _ _ _ _ _)
      | (with_reducible exact ih1 _ _ _ _ _ _ _ _ _)
      | (with_reducible exact ih2 _ _ _ _ _ _ _ _ _)
      | (with_reducible exact miradorlaw17_works.mono _)
      | (with_reducible exact LeO.refl _)
      | (with_reducible exact LeO.none _)
      | (with_reducible refine LeO.ite ?_ ?_)
      | (with_reducible refine LeO.bind ?_ (fun _ => ?_))
      | exact ih0 _ _ _ _ _ _ _ _
      | exact ih1 _ _ _ _ _ _ _ _ _
      | exact ih2 _ _ _ _ _ _ _ _ _
      | exact miradorlaw17_works.mono _
      | exact LeO.none _
      | refine LeO.ite ?_ ?_
      | refine LeO.bind ?_ (fun _ => ?_)
theorem miradorlaw17_RreOne.mono : ∀ a0 a1 a2 a3 a4 a5 k, LeO (miradorlaw17_RreOne.f k a0 a1 a2 a3 a4 a5) (miradorlaw17_RreOne.f (k + 1) a0 a1 a2 a3 a4 a5) := by
  intro a0 a1 a2 a3 a4 a5 k
  obtain ⟨ih0, ih1, ih2⟩ := miradorlaw17_RreOne.mono_l k
  unfold miradorlaw17_RreOne.f
  repeat' first
      | (with_reducible exact ih0 _ _ _ _ _ _ _ _)
      | (with_reducible exact ih1 _ _ _ _ _ _ _ _ _)
      | (with_reducible exact ih2 _ _ _ _ _ _ _ _ _)
      | (with_reducible exact miradorlaw17_works.mono _)
      | (with_reducible exact LeO.refl _)
      | (with_reducible exact LeO.none _)
      | (with_reducible refine LeO.ite ?_ ?_)
      | (with_reducible refine LeO.bind ?_ (fun _ => ?_))
      | exact ih0 _ _ _ _ _ _ _ _
      | exact ih1 _ _ _ _ _ _ _ _ _
      | exact ih2 _ _ _ _ _ _ _ _ _
      | exact miradorlaw17_works.mono _
      | exact LeO.none _
      | refine LeO.ite ?_ ?_
      | refine LeO.bind ?_ (fun _ => ?_)
set_option maxHeartbeats 8000000 in
set_option maxRecDepth 100000 in
theorem miradorlaw17_RreOne.calls1 (k : Nat) (a0 : Int) (a1 : Int) (a2 : Int) (a3 : Int) (a4 : Int) (a5 : Int) (r : Bool) (w : World) (hr_ : r = true) (h : miradorlaw17_RreOne.f k a0 a1 a2 a3 a4 a5 = some r) :
    Calls Try.prog 8 #[.int .i64 a0, .int .i64 a1, .int .i64 a2, .int .i64 a3, .int .i64 a4, .int .i64 a5] w fun e w' => e = .returned (.bool r) ∧ Below w.heap.size w w' := by
  have hu29 := Try.underlying29
  have HB := Aside0.mk (Below.refl w.heap.size w)
  have H : ((miradorlaw17_works.f k).bind fun t454 => (if t454 = true then (if a0 < 1 then (miradorlaw17_RreOne.j0 k a0 a1 a2 a3 a4 a5 t454 true) else (if a1 < 1 then (miradorlaw17_RreOne.j0 k a0 a1 a2 a3 a4 a5 t454 true) else ((miradorlaw17_small.f a0 a1).bind fun t455 => (if t455 = true then (if (wrap64 (a0 * a1)) < 3 then (miradorlaw17_RreOne.j0 k a0 a1 a2 a3 a4 a5 t454 true) else (if a4 < 0 then (miradorlaw17_RreOne.j0 k a0 a1 a2 a3 a4 a5 t454 true) else (if a5 < 0 then (miradorlaw17_RreOne.j0 k a0 a1 a2 a3 a4 a5 t454 true) else (if a4 ≥ a0 then (miradorlaw17_RreOne.j0 k a0 a1 a2 a3 a4 a5 t454 true) else (miradorlaw17_RreOne.j0 k a0 a1 a2 a3 a4 a5 t454 (decide (a5 ≥ a1))))))) else (miradorlaw17_RreOne.j0 k a0 a1 a2 a3 a4 a5 t454 true))))) else (some false))) = some r := h
  clear h
  have HRT := Aside0.mk hr_
  clear hr_
  replace H := Option.bind_eq_some_iff.mp H
  obtain ⟨t454, A70, H⟩ := H
  replace H : (if t454 = true then (if a0 < 1 then (miradorlaw17_RreOne.j0 k a0 a1 a2 a3 a4 a5 t454 true) else (if a1 < 1 then (miradorlaw17_RreOne.j0 k a0 a1 a2 a3 a4 a5 t454 true) else ((miradorlaw17_small.f a0 a1).bind fun t455 => (if t455 = true then (if (wrap64 (a0 * a1)) < 3 then (miradorlaw17_RreOne.j0 k a0 a1 a2 a3 a4 a5 t454 true) else (if a4 < 0 then (miradorlaw17_RreOne.j0 k a0 a1 a2 a3 a4 a5 t454 true) else (if a5 < 0 then (miradorlaw17_RreOne.j0 k a0 a1 a2 a3 a4 a5 t454 true) else (if a4 ≥ a0 then (miradorlaw17_RreOne.j0 k a0 a1 a2 a3 a4 a5 t454 true) else (miradorlaw17_RreOne.j0 k a0 a1 a2 a3 a4 a5 t454 (decide (a5 ≥ a1))))))) else (miradorlaw17_RreOne.j0 k a0 a1 a2 a3 a4 a5 t454 true))))) else (some false)) = some r := H
  have A7 := Aside0.mk A70
  clear A70
  by_cases c8 : t454 = true
  · subst c8
    have H1 : (if a0 < 1 then (miradorlaw17_RreOne.j0 k a0 a1 a2 a3 a4 a5 true true) else (if a1 < 1 then (miradorlaw17_RreOne.j0 k a0 a1 a2 a3 a4 a5 true true) else ((miradorlaw17_small.f a0 a1).bind fun t455 => (if t455 = true then (if (wrap64 (a0 * a1)) < 3 then (miradorlaw17_RreOne.j0 k a0 a1 a2 a3 a4 a5 true true) else (if a4 < 0 then (miradorlaw17_RreOne.j0 k a0 a1 a2 a3 a4 a5 true true) else (if a5 < 0 then (miradorlaw17_RreOne.j0 k a0 a1 a2 a3 a4 a5 true true) else (if a4 ≥ a0 then (miradorlaw17_RreOne.j0 k a0 a1 a2 a3 a4 a5 true true) else (miradorlaw17_RreOne.j0 k a0 a1 a2 a3 a4 a5 true (decide (a5 ≥ a1))))))) else (miradorlaw17_RreOne.j0 k a0 a1 a2 a3 a4 a5 true true))))) = some r := by rw [if_pos rfl] at H; exact H
    clear H
    have H := H1
    clear H1
    have HC9 := Aside0.mk H
    clear H
    go_enter Try.func8, Try.ntmps8
    go_upto_region 4 with (first | ((with_reducible refine gate_callee (f := 9) rfl ?_); refine goesL_ (some 18) rfl rfl Try.func9 (by kernel_rfl) rfl #[] rfl (by (try simp only [List.map_toArray, List.map_cons, List.map_nil]); first | done | rfl | (simp only [List.length_drop, List.length_take]; rfl)) ?_; (with_reducible refine (miradorlaw17_works.calls k  true _ A7.out).mono ?_); rintro e w10 ⟨rfl, hb⟩; refine ⟨_, rfl, ?_⟩; have n0_ := Aside0.mk (below_step (by repeat (first | (with_reducible first | exact HB.out | apply below_alloc | apply pw_below_drewN | apply below_drew1) | exact HB.out)) hb); clear HB; have HB := n0_; clear n0_; (try clear hb); (try clear hb2); (try clear hk); (try clear hi)))
    (try simp only [Act.put, List.setIfInBounds_toArray, List.set_cons_zero, List.set_cons_succ])
    go_cut [56] (fun v56 wc => ∃ (kq : Nat) (x56_8 : Bool), v56 = .bool x56_8 ∧ Aside0 (miradorlaw17_RreOne.j0 kq a0 a1 a2 a3 a4 a5 true x56_8 = some r) ∧ Aside0 (kq ≤ k) ∧ Aside0 (Below w.heap.size w wc))
    case first =>
      have H := HC9.out
      clear HC9
      by_cases c11 : a0 < 1
      · rw [if_pos c11] at H
        have c11b0 : decide (a0 < 1) = true := decide_eq_true c11
        clear c11
        (first | rw [c11b0] | (simp only [i64_w, i32_w]; rw [c11b0]) | skip)
        have H' := Aside0.mk H
        clear H
        go_wp2
        go_meet
        case rel => exact ⟨_, (true), (by first | rfl | (simp; done) | (simp [*]; done)), H', ⟨by first | omega | exact Nat.le_refl _⟩, ⟨by repeat (first | (with_reducible first | exact HB.out | apply below_alloc | apply pw_below_drewN | apply below_drew1) | exact HB.out)⟩⟩
      · rw [if_neg c11] at H
        have c11b0 : decide (a0 < 1) = false := decide_eq_false c11
        clear c11
        (first | rw [c11b0] | (simp only [i64_w, i32_w]; rw [c11b0]) | skip)
        by_cases c12 : a1 < 1
        · rw [if_pos c12] at H
          have c12b0 : decide (a1 < 1) = true := decide_eq_true c12
          clear c12
          have H' := Aside0.mk H
          clear H
          go_wp2
          go_meet
          case rel => exact ⟨_, (true), (by first | rfl | (simp; done) | (simp [*]; done)), H', ⟨by first | omega | exact Nat.le_refl _⟩, ⟨by repeat (first | (with_reducible first | exact HB.out | apply below_alloc | apply pw_below_drewN | apply below_drew1) | exact HB.out)⟩⟩
        · rw [if_neg c12] at H
          have c12b0 : decide (a1 < 1) = false := decide_eq_false c12
          clear c12
          replace H := Option.bind_eq_some_iff.mp H
          obtain ⟨t455, A130, H⟩ := H
          replace H : (if t455 = true then (if (wrap64 (a0 * a1)) < 3 then (miradorlaw17_RreOne.j0 k a0 a1 a2 a3 a4 a5 true true) else (if a4 < 0 then (miradorlaw17_RreOne.j0 k a0 a1 a2 a3 a4 a5 true true) else (if a5 < 0 then (miradorlaw17_RreOne.j0 k a0 a1 a2 a3 a4 a5 true true) else (if a4 ≥ a0 then (miradorlaw17_RreOne.j0 k a0 a1 a2 a3 a4 a5 true true) else (miradorlaw17_RreOne.j0 k a0 a1 a2 a3 a4 a5 true (decide (a5 ≥ a1))))))) else (miradorlaw17_RreOne.j0 k a0 a1 a2 a3 a4 a5 true true)) = some r := H
          have A13 := Aside0.mk A130
          clear A130
          by_cases c14 : t455 = true
          · subst c14
            have H1 : (if (wrap64 (a0 * a1)) < 3 then (miradorlaw17_RreOne.j0 k a0 a1 a2 a3 a4 a5 true true) else (if a4 < 0 then (miradorlaw17_RreOne.j0 k a0 a1 a2 a3 a4 a5 true true) else (if a5 < 0 then (miradorlaw17_RreOne.j0 k a0 a1 a2 a3 a4 a5 true true) else (if a4 ≥ a0 then (miradorlaw17_RreOne.j0 k a0 a1 a2 a3 a4 a5 true true) else (miradorlaw17_RreOne.j0 k a0 a1 a2 a3 a4 a5 true (decide (a5 ≥ a1))))))) = some r := by rw [if_pos rfl] at H; exact H
            clear H
            have H := H1
            clear H1
            by_cases c15 : (wrap64 (a0 * a1)) < 3
            · rw [if_pos c15] at H
              have c15b0 : decide ((wrap64 (a0 * a1)) < 3) = true := decide_eq_true c15
              clear c15
              have H' := Aside0.mk H
              clear H
              go_wp2_with (first | (go_at_call 17; (with_reducible refine (miradorlaw17_small.calls a0 a1 true _ A13.out).mono ?_); rintro e w' ⟨rfl, ⟨nd, rfl⟩⟩))
              go_meet
              case rel => exact ⟨_, (true), (by first | rfl | (simp; done) | (simp [*]; done)), H', ⟨by first | omega | exact Nat.le_refl _⟩, ⟨by repeat (first | (with_reducible first | exact HB.out | apply below_alloc | apply pw_below_drewN | apply below_drew1) | exact HB.out)⟩⟩
            · rw [if_neg c15] at H
              have c15b0 : decide ((wrap64 (a0 * a1)) < 3) = false := decide_eq_false c15
              clear c15
              by_cases c16 : a4 < 0
              · rw [if_pos c16] at H
                have c16b0 : decide (a4 < 0) = true := decide_eq_true c16
                clear c16
                have H' := Aside0.mk H
                clear H
                go_wp2_with (first | (go_at_call 17; (with_reducible refine (miradorlaw17_small.calls a0 a1 true _ A13.out).mono ?_); rintro e w' ⟨rfl, ⟨nd, rfl⟩⟩))
                go_meet
                case rel => exact ⟨_, (true), (by first | rfl | (simp; done) | (simp [*]; done)), H', ⟨by first | omega | exact Nat.le_refl _⟩, ⟨by repeat (first | (with_reducible first | exact HB.out | apply below_alloc | apply pw_below_drewN | apply below_drew1) | exact HB.out)⟩⟩
              · rw [if_neg c16] at H
                have c16b0 : decide (a4 < 0) = false := decide_eq_false c16
                clear c16
                by_cases c17 : a5 < 0
                · rw [if_pos c17] at H
                  have c17b0 : decide (a5 < 0) = true := decide_eq_true c17
                  clear c17
                  have H' := Aside0.mk H
                  clear H
                  go_wp2_with (first | (go_at_call 17; (with_reducible refine (miradorlaw17_small.calls a0 a1 true _ A13.out).mono ?_); rintro e w' ⟨rfl, ⟨nd, rfl⟩⟩))
                  go_meet
                  case rel => exact ⟨_, (true), (by first | rfl | (simp; done) | (simp [*]; done)), H', ⟨by first | omega | exact Nat.le_refl _⟩, ⟨by repeat (first | (with_reducible first | exact HB.out | apply below_alloc | apply pw_below_drewN | apply below_drew1) | exact HB.out)⟩⟩
                · rw [if_neg c17] at H
                  have c17b0 : decide (a5 < 0) = false := decide_eq_false c17
                  clear c17
                  by_cases c18 : a4 ≥ a0
                  · rw [if_pos c18] at H
                    have c18b0 : decide (a0 ≤ a4) = true := decide_eq_true c18
                    clear c18
                    have H' := Aside0.mk H
                    clear H
                    go_wp2_with (first | (go_at_call 17; (with_reducible refine (miradorlaw17_small.calls a0 a1 true _ A13.out).mono ?_); rintro e w' ⟨rfl, ⟨nd, rfl⟩⟩))
                    go_meet
                    case rel => exact ⟨_, (true), (by first | rfl | (simp; done) | (simp [*]; done)), H', ⟨by first | omega | exact Nat.le_refl _⟩, ⟨by repeat (first | (with_reducible first | exact HB.out | apply below_alloc | apply pw_below_drewN | apply below_drew1) | exact HB.out)⟩⟩
                  · rw [if_neg c18] at H
                    have c18b0 : decide (a0 ≤ a4) = false := decide_eq_false c18
                    clear c18
                    have H' := Aside0.mk H
                    clear H
                    go_wp2_with (first | (go_at_call 17; (with_reducible refine (miradorlaw17_small.calls a0 a1 true _ A13.out).mono ?_); rintro e w' ⟨rfl, ⟨nd, rfl⟩⟩))
                    go_meet
                    case rel => exact ⟨_, (decide (a5 ≥ a1)), (by first | rfl | (simp; done) | (simp [*]; done)), H', ⟨by first | omega | exact Nat.le_refl _⟩, ⟨by repeat (first | (with_reducible first | exact HB.out | apply below_alloc | apply pw_below_drewN | apply below_drew1) | exact HB.out)⟩⟩
          · replace c14 := Bool.eq_false_iff.mpr c14
            subst c14
            have H1 : (miradorlaw17_RreOne.j0 k a0 a1 a2 a3 a4 a5 true true) = some r := by rw [if_neg (show ¬ (false = true) by decide)] at H; exact H
            clear H
            have H := H1
            clear H1
            have H' := Aside0.mk H
            clear H
            go_wp2_with (first | (go_at_call 17; (with_reducible refine (miradorlaw17_small.calls a0 a1 false _ A13.out).mono ?_); rintro e w' ⟨rfl, ⟨nd, rfl⟩⟩))
            go_meet
            case rel => exact ⟨_, (true), (by first | rfl | (simp; done) | (simp [*]; done)), H', ⟨by first | omega | exact Nat.le_refl _⟩, ⟨by repeat (first | (with_reducible first | exact HB.out | apply below_alloc | apply pw_below_drewN | apply below_drew1) | exact HB.out)⟩⟩
    case rest =>
      clear HC9
      try clear c1
      try clear p2
      try clear p6
      try clear c8
      try clear c9
      try clear c11
      try clear c11b0
      try clear c12
      try clear c12b0
      try clear c14
      try clear c15
      try clear c15b0
      try clear c16
      try clear c16b0
      try clear c17
      try clear c17b0
      try clear c18
      try clear c18b0
      obtain ⟨kq, x56_8, rfl, HA, HJ8, HB⟩ := hcut
      cases kq with
      | zero => exact absurd HA.out (by simp [miradorlaw17_RreOne.j0])
      | succ kj8 =>
        have H := HA.out
        clear HA
        simp only [miradorlaw17_RreOne.j0] at H
        by_cases c19 : x56_8 = true
        · subst c19
          have H1 : (some true) = some r := by rw [if_pos rfl] at H; exact H
          clear H
          have H := H1
          clear H1
          obtain rfl := Option.some.inj H
          go_wp2
          go_ret
          exact ⟨by first | rfl | (simp [errW_none, errW_some] <;> rfl) | (simp [*, errW_none, errW_some] <;> rfl), by repeat (first | (with_reducible first | exact HB.out | apply below_alloc | apply pw_below_drewN | apply below_drew1) | exact HB.out)⟩
        · replace c19 := Bool.eq_false_iff.mpr c19
          subst c19
          have H1 : (miradorlaw17_RreOne.l0 kj8 a0 a1 a2 a3 a4 a5 true ([] : List Int) 0) = some r := by rw [if_neg (show ¬ (false = true) by decide)] at H; exact H
          clear H
          have H := H1
          clear H1
          have H' := Aside0.mk H
          clear H
          go_wp2
          go_loopg [14, 15] kj8 (fun kq v14 v15 w' => ∃ (x14_2 : List Int) (x15_2 : Int), v15 = .int .i64 x15_2 ∧ Aside0 (miradorlaw17_RreOne.l0 kq a0 a1 a2 a3 a4 a5 true x14_2 x15_2 = some r) ∧ Aside0 (kq ≤ kj8) ∧ Aside0 (Kd.R (Kd.int .i64) 3 w' w.heap.size (fun _ => True) v14 x14_2) ∧ Aside0 (Below w.heap.size w w'))
          case atStart => exact ⟨(([] : List Int)), (0), (by first | rfl | (simp; done) | (simp [*]; done)), H', ⟨Nat.le_refl _⟩, ⟨by first | exact Kd.R_nil _ _ _ _ _ | exact Kd.N_nil _ _ _ _ _ | exact Kd.V_nil _ _ _ _ _ | exact Kd.Q_nil _ _ _ _ _ | exact Kd.S_nil _ _ _ _ _⟩, ⟨by repeat (first | (with_reducible first | exact HB.out | apply below_alloc | apply pw_below_drewN | apply below_drew1) | exact HB.out)⟩⟩
          case round =>
            clear H'
            try clear c1
            try clear p2
            try clear p6
            try clear c8
            try clear c9
            try clear c11
            try clear c11b0
            try clear c12
            try clear c12b0
            try clear c14
            try clear c15
            try clear c15b0
            try clear c16
            try clear c16b0
            try clear c17
            try clear c17b0
            try clear c18
            try clear c18b0
            try clear c19
            try clear p2
            try clear p6
            obtain ⟨x14_2, x15_2, rfl, HA, HK2, HO_14, HB⟩ := hrel
            cases gk with
            | zero => exact absurd HA.out (by simp [miradorlaw17_RreOne.l0])
            | succ k2 =>
              have H := HA.out
              clear HA
              simp only [miradorlaw17_RreOne.l0] at H
              by_cases c20 : x15_2 < (wrap64 (a0 * a1))
              · rw [if_pos c20] at H
                have c20b0 : decide (x15_2 < (wrap64 (a0 * a1))) = true := decide_eq_true c20
                clear c20
                by_cases c21 : x14_2.length < 17592186044416
                · rw [if_pos c21] at H
                  have LMc21 := Aside0.mk c21
                  clear c21
                  obtain ⟨y456, hy456⟩ : ∃ y_ : List Int, y_ = (x14_2 ++ [a2]) := ⟨_, rfl⟩
                  replace H : (miradorlaw17_RreOne.l0 k2 a0 a1 a2 a3 a4 a5 true y456 (wrap64 (x15_2 + 1))) = some r := by first | (rw [hy456]; with_reducible exact H) | (have H2_ := (Option.bind_some _ _).symm.trans H; rw [hy456]; with_reducible exact H2_) | (have H2_ := (Option.bind_some _ _).symm.trans H; with_reducible exact H2_) | with_reducible exact H | (rw [hy456]; exact H) | exact H
                  have Ny456 := Aside0.mk hy456
                  clear hy456
                  have H' := Aside0.mk H
                  clear H
                  go_wp2_with (first | ((with_reducible refine gate_builtin (b := .append) (xs := #[.tmp 65, .tmp 67]) rfl ?_); (try (refine gate_guard (by rfl) ?_; dsimp only)); at_builtin; refine Kd.R_append (Kd.int .i64) (w0 := w) w.heap.size rfl (.tmp 65) (.tmp 67) 22 3 (.int .i64 0) 8 rfl Try.underlying22 info3 rfl (by decide) (by omega) u14 x14_2 a2 [.int .i64 a2] (fun _ => True) (fun _ => False) rfl rfl ?aP (fun _ hk => hk.elim) ?aF ?aO ?aB ?aS ?aL ?_; (case aP => exact rfl); (case aB => exact (by repeat (first | (with_reducible first | exact HB.out | apply below_alloc | apply pw_below_drewN | apply below_drew1) | exact HB.out))); (case aF => exact (fun _ _ => trivial)); (case aO => exact (by (with_reducible repeat (first | apply Kd.R_alloc | apply Kd.R_drewN | apply Kd.R_drew)); exact HO_14.out)); (case aS => exact (below_size (by repeat (first | (with_reducible first | exact HB.out | apply below_alloc | apply pw_below_drewN | apply below_drew1) | exact HB.out)))); (case aL => have := LMc21.out; omega); intro v457 w22 ho hb hg hat; rw [← Ny456.out] at ho; have n0_ := Aside0.mk (hb); have n1_ := Aside0.mk (ho); clear HB; clear HO_14; have HB := n0_; have HO458 := n1_; clear n0_ n1_; clear ho hb hg hat))
                  go_roundg k2
                  case measure => have := HJ8.out; have := HK2.out; omega
                  case rel => exact ⟨(y456), (wrap64 (x15_2 + 1)), (by first | rfl | (simp; done) | (simp [*]; done)), H', ⟨by have := HJ8.out; have := HK2.out; omega⟩, ⟨by (with_reducible repeat (first | apply Kd.R_alloc | apply Kd.R_drewN | apply Kd.R_drew)); exact HO458.out⟩, ⟨by repeat (first | (with_reducible first | exact HB.out | apply below_alloc | apply pw_below_drewN | apply below_drew1) | exact HB.out)⟩⟩
                · rw [if_neg c21] at H
                  exact absurd H (by simp)
              · rw [if_neg c20] at H
                have c20b0 : decide (x15_2 < (wrap64 (a0 * a1))) = false := decide_eq_false c20
                clear c20
                replace H := Option.bind_eq_some_iff.mp H
                obtain ⟨t459, A230, H⟩ := H
                replace H : (if (t459.length : Int) > 0 then (miradorlaw17_RreOne.j2 k2 a0 a1 a2 a3 a4 a5 true x14_2 true) else ((rre_Ground.f x14_2).bind fun t462 => (miradorlaw17_RreOne.j2 k2 a0 a1 a2 a3 a4 a5 true x14_2 (t462 != a2)))) = some r := H
                have A23 := Aside0.mk A230
                clear A230
                have HC24 := Aside0.mk H
                clear H
                obtain ⟨Ao25, co25, eo25⟩ := Kd.R_slice HO_14.out
                subst eo25
                go_upto_region 12 with (first | ((with_reducible refine gate_callee (f := 10) rfl ?_); refine goesL_ (some 73) rfl rfl Try.func10 (by kernel_rfl) rfl #[.int .i64 a0, .int .i64 a1, .slice Ao25 x14_2.length co25, .int .i64 a2] rfl (by (try simp only [List.map_toArray, List.map_cons, List.map_nil]); first | done | rfl | (simp only [List.length_drop, List.length_take]; rfl)) ?_; (with_reducible refine (rre_Pieces.calls a0 a1 _ _ x14_2 a2 t459 _ ?side1 ?side2 A23.out).mono ?_); (case side1 => repeat (first | exact (Kd.R_reads' HO_14.out).2.2 | (with_reducible refine Kd.C_alloc ?_ _) | (with_reducible refine Kd.C_drewN ?_ _) | (with_reducible refine Kd.C_drew ?_))); (case side2 => exact (Kd.R_reads' HO_14.out).2.1); rintro e w26 ⟨v460, rfl, ho0, hb⟩; refine ⟨_, rfl, ?_⟩; have n0_ := Aside0.mk (Kd.R_below (by (with_reducible repeat (first | apply Kd.R_alloc | apply Kd.R_drewN | apply Kd.R_drew)); exact HO_14.out) hb); have n1_ := Aside0.mk (Kd.R_lower ho0 (below_size (by repeat (first | (with_reducible first | exact HB.out | apply below_alloc | apply pw_below_drewN | apply below_drew1) | exact HB.out)))); have n2_ := Aside0.mk (below_step (by repeat (first | (with_reducible first | exact HB.out | apply below_alloc | apply pw_below_drewN | apply below_drew1) | exact HB.out)) hb); clear HO_14; clear HB; have HO_14 := n0_; have HO461 := n1_; have HB := n2_; clear n0_ n1_ n2_; (try clear hb); (try clear hb2); (try clear hk); (try clear hi); (try clear ho0)))
                (try simp only [Act.put, List.setIfInBounds_toArray, List.set_cons_zero, List.set_cons_succ])
                go_cut [82] (fun v82 wc => ∃ (kq : Nat) (x82_23 : Bool), v82 = .bool x82_23 ∧ Aside0 (miradorlaw17_RreOne.j2 kq a0 a1 a2 a3 a4 a5 true x14_2 x82_23 = some r) ∧ Aside0 (kq ≤ k2) ∧ Aside0 (Kd.R (Kd.int .i64) 3 wc w.heap.size (fun _ => True) (.slice Ao25 x14_2.length co25) x14_2) ∧ Aside0 (Below w.heap.size w wc))
                case first =>
                  have H := HC24.out
                  clear HC24
                  by_cases c27 : (t459.length : Int) > 0
                  · rw [if_pos c27] at H
                    have c27b0 : decide (0 < (t459.length : Int)) = true := decide_eq_true c27
                    have c27b1 : decide (0 < t459.length) = true := decide_eq_true (by omega)
                    clear c27
                    (first | rw [c27b0] | (simp only [i64_w, i32_w]; rw [c27b0]) | skip)
                    have H' := Aside0.mk H
                    clear H
                    obtain ⟨Ao28, co28, eo28⟩ := Kd.R_slice HO461.out
                    subst eo28
                    go_wp2
                    go_meet
                    case rel => exact ⟨_, (true), (by first | rfl | (simp; done) | (simp [*]; done)), H', ⟨by have := HJ8.out; have := HK2.out; first | omega | exact Nat.le_refl _⟩, ⟨by (with_reducible repeat (first | apply Kd.R_alloc | apply Kd.R_drewN | apply Kd.R_drew)); exact HO_14.out⟩, ⟨by repeat (first | (with_reducible first | exact HB.out | apply below_alloc | apply pw_below_drewN | apply below_drew1) | exact HB.out)⟩⟩
                  · rw [if_neg c27] at H
                    have c27b0 : decide (0 < (t459.length : Int)) = false := decide_eq_false c27
                    have c27b1 : decide (0 < t459.length) = false := decide_eq_false (by omega)
                    clear c27
                    (first | rw [c27b0] | (simp only [i64_w, i32_w]; rw [c27b0]) | skip)
                    replace H := Option.bind_eq_some_iff.mp H
                    obtain ⟨t462, A290, H⟩ := H
                    replace H : (miradorlaw17_RreOne.j2 k2 a0 a1 a2 a3 a4 a5 true x14_2 (t462 != a2)) = some r := H
                    have A29 := Aside0.mk A290
                    clear A290
                    have H' := Aside0.mk H
                    clear H
                    obtain ⟨Ao30, co30, eo30⟩ := Kd.R_slice HO461.out
                    subst eo30
                    go_wp2_with (first | (go_at_call 12; (with_reducible refine (rre_Ground.calls _ _ x14_2 t462 _ ?side1 ?side2 A29.out).mono ?_); (case side1 => repeat (first | exact (Kd.R_reads' HO_14.out).2.2 | (with_reducible refine Kd.C_alloc ?_ _) | (with_reducible refine Kd.C_drewN ?_ _) | (with_reducible refine Kd.C_drew ?_))); (case side2 => exact (Kd.R_reads' HO_14.out).2.1); rintro e w31 ⟨rfl, hb⟩; have n0_ := Aside0.mk (Kd.R_below (by (with_reducible repeat (first | apply Kd.R_alloc | apply Kd.R_drewN | apply Kd.R_drew)); exact HO_14.out) hb); have n1_ := Aside0.mk (Kd.R_below (by (with_reducible repeat (first | apply Kd.R_alloc | apply Kd.R_drewN | apply Kd.R_drew)); exact HO461.out) hb); have n2_ := Aside0.mk (below_step (by repeat (first | (with_reducible first | exact HB.out | apply below_alloc | apply pw_below_drewN | apply below_drew1) | exact HB.out)) hb); clear HO_14; clear HO461; clear HB; have HO_14 := n0_; have HO461 := n1_; have HB := n2_; clear n0_ n1_ n2_; (try clear hb); (try clear hb2); (try clear hk); (try clear hi)))
                    go_meet
                    case rel => exact ⟨_, ((t462 != a2)), (by first | rfl | (simp; done) | (simp [*]; done)), H', ⟨by have := HJ8.out; have := HK2.out; first | omega | exact Nat.le_refl _⟩, ⟨by (with_reducible repeat (first | apply Kd.R_alloc | apply Kd.R_drewN | apply Kd.R_drew)); exact HO_14.out⟩, ⟨by repeat (first | (with_reducible first | exact HB.out | apply below_alloc | apply pw_below_drewN | apply below_drew1) | exact HB.out)⟩⟩
                case rest =>
                  clear HC24
                  try clear c1
                  try clear c2
                  try clear p2
                  try clear p6
                  try clear c8
                  try clear c9
                  try clear c10
                  try clear c11
                  try clear c11b0
                  try clear c12
                  try clear c12b0
                  try clear c14
                  try clear c15
                  try clear c15b0
                  try clear c16
                  try clear c16b0
                  try clear c17
                  try clear c17b0
                  try clear c18
                  try clear c18b0
                  try clear c19
                  try clear c20
                  try clear c20b0
                  try clear c21
                  try clear c27
                  try clear c27b0
                  try clear c27b1
                  try clear p2
                  try clear p6
                  obtain ⟨kq, x82_23, rfl, HA, HJ23, HO_14, HB⟩ := hcut
                  cases kq with
                  | zero => exact absurd HA.out (by simp [miradorlaw17_RreOne.j2])
                  | succ kj23 =>
                    have H := HA.out
                    clear HA
                    simp only [miradorlaw17_RreOne.j2] at H
                    by_cases c32 : x82_23 = true
                    · subst c32
                      have H1 : (some false) = some r := by rw [if_pos rfl] at H; exact H
                      clear H
                      have H := H1
                      clear H1
                      rw [HRT.out] at H
                      exact absurd (Option.some.inj H) (by decide)
                    · replace c32 := Bool.eq_false_iff.mpr c32
                      subst c32
                      have H1 : (if 0 ≤ (wrap64 ((wrap64 (a5 * a0)) + a4)) then (if (wrap64 ((wrap64 (a5 * a0)) + a4)) < (x14_2.length : Int) then ((some (x14_2.set ((wrap64 ((wrap64 (a5 * a0)) + a4)) : Int).toNat a3 : List Int)).bind fun y463 => ((rre_Ground.f y463).bind fun t464 => ((rre_Pieces.f a0 a1 y463 t464).bind fun t465 => (if a2 = a3 then (if true = true then (some ((t465.length : Int) == 0)) else (some false)) else (if true = true then ((rre_Ground.f y463).bind fun t468 => (if t468 = a2 then (if (t465.length : Int) = 1 then (if 0 < (t465.length : Int) then (if ((rd_T31 t465 0).f0) = a3 then (some (((rd_T31 t465 0).f1.f0) == a4 && (((rd_T31 t465 0).f1.f1) == a5 && (((rd_T31 t465 0).f1.f2) == 1 && (((rd_T31 t465 0).f1.f3) == 1))))) else (some false)) else (none)) else (some false)) else (some false))) else (some false)))))) else (none)) else (none)) = some r := by rw [if_neg (show ¬ (false = true) by decide)] at H; exact H
                      clear H
                      have H := H1
                      clear H1
                      obtain ⟨ji33, hji33⟩ : ∃ j_ : Int, (wrap64 ((wrap64 (a5 * a0)) + a4)) = j_ := ⟨_, rfl⟩
                      replace H : (if 0 ≤ (ji33) then (if (ji33) < (x14_2.length : Int) then ((some (x14_2.set ((ji33) : Int).toNat a3 : List Int)).bind fun y463 => ((rre_Ground.f y463).bind fun t464 => ((rre_Pieces.f a0 a1 y463 t464).bind fun t465 => (if a2 = a3 then (if true = true then (some ((t465.length : Int) == 0)) else (some false)) else (if true = true then ((rre_Ground.f y463).bind fun t468 => (if t468 = a2 then (if (t465.length : Int) = 1 then (if 0 < (t465.length : Int) then (if ((rd_T31 t465 0).f0) = a3 then (some (((rd_T31 t465 0).f1.f0) == a4 && (((rd_T31 t465 0).f1.f1) == a5 && (((rd_T31 t465 0).f1.f2) == 1 && (((rd_T31 t465 0).f1.f3) == 1))))) else (some false)) else (none)) else (some false)) else (some false))) else (some false)))))) else (none)) else (none)) = some r := by first | (rw [hji33] at H; exact H) | (simp only [hji33] at H ⊢; exact H)
                      have hji33w : (IntKind.i64.wrap ((wrap64 (a5 * a0)) + a4)) = ji33 := (i64_w _).trans hji33
                      by_cases c34 : 0 ≤ (ji33)
                      · rw [if_pos c34] at H
                        have c34b0 : decide (0 ≤ (ji33)) = true := decide_eq_true c34
                        clear c34
                        by_cases c35 : (ji33) < (x14_2.length : Int)
                        · rw [if_pos c35] at H
                          have c35b0 : decide ((ji33) < (x14_2.length : Int)) = true := decide_eq_true c35
                          clear c35
                          obtain ⟨y463, hy463⟩ : ∃ y_ : List Int, y_ = (x14_2.set ((ji33) : Int).toNat a3) := ⟨_, rfl⟩
                          replace H : ((rre_Ground.f y463).bind fun t464 => ((rre_Pieces.f a0 a1 y463 t464).bind fun t465 => (if a2 = a3 then (if true = true then (some ((t465.length : Int) == 0)) else (some false)) else (if true = true then ((rre_Ground.f y463).bind fun t468 => (if t468 = a2 then (if (t465.length : Int) = 1 then (if 0 < (t465.length : Int) then (if ((rd_T31 t465 0).f0) = a3 then (some (((rd_T31 t465 0).f1.f0) == a4 && (((rd_T31 t465 0).f1.f1) == a5 && (((rd_T31 t465 0).f1.f2) == 1 && (((rd_T31 t465 0).f1.f3) == 1))))) else (some false)) else (none)) else (some false)) else (some false))) else (some false))))) = some r := by first | (rw [hy463]; with_reducible exact H) | (have H2_ := (Option.bind_some _ _).symm.trans H; rw [hy463]; with_reducible exact H2_) | (have H2_ := (Option.bind_some _ _).symm.trans H; with_reducible exact H2_) | with_reducible exact H | (rw [hy463]; exact H) | exact H
                          have Ny463 := Aside0.mk hy463
                          clear hy463
                          replace H := Option.bind_eq_some_iff.mp H
                          obtain ⟨t464, A370, H⟩ := H
                          replace H : ((rre_Pieces.f a0 a1 y463 t464).bind fun t465 => (if a2 = a3 then (if true = true then (some ((t465.length : Int) == 0)) else (some false)) else (if true = true then ((rre_Ground.f y463).bind fun t468 => (if t468 = a2 then (if (t465.length : Int) = 1 then (if 0 < (t465.length : Int) then (if ((rd_T31 t465 0).f0) = a3 then (some (((rd_T31 t465 0).f1.f0) == a4 && (((rd_T31 t465 0).f1.f1) == a5 && (((rd_T31 t465 0).f1.f2) == 1 && (((rd_T31 t465 0).f1.f3) == 1))))) else (some false)) else (none)) else (some false)) else (some false))) else (some false)))) = some r := H
                          have A37 := Aside0.mk A370
                          clear A370
                          replace H := Option.bind_eq_some_iff.mp H
                          obtain ⟨t465, A380, H⟩ := H
                          replace H : (if a2 = a3 then (if true = true then (some ((t465.length : Int) == 0)) else (some false)) else (if true = true then ((rre_Ground.f y463).bind fun t468 => (if t468 = a2 then (if (t465.length : Int) = 1 then (if 0 < (t465.length : Int) then (if ((rd_T31 t465 0).f0) = a3 then (some (((rd_T31 t465 0).f1.f0) == a4 && (((rd_T31 t465 0).f1.f1) == a5 && (((rd_T31 t465 0).f1.f2) == 1 && (((rd_T31 t465 0).f1.f3) == 1))))) else (some false)) else (none)) else (some false)) else (some false))) else (some false))) = some r := H
                          have A38 := Aside0.mk A380
                          clear A380
                          by_cases c39 : a2 = a3
                          · rw [if_pos c39] at H
                            have c39b0 : (a2 == a3) = true := beq_iff_eq.mpr c39
                            have c39b1 : (a2 != a3) = false := bne_eq_false_iff_eq.mpr c39
                            clear c39
                            have H1 : (some ((t465.length : Int) == 0)) = some r := by (first | rw [if_pos rfl] at H | rw [if_pos trivial] at H); exact H
                            clear H
                            have H := H1
                            clear H1
                            obtain rfl := Option.some.inj H
                            have p36 : 0 ≤ ((ji33) : Int) := of_decide_eq_true (by first | (with_reducible assumption) | assumption)
                            have q36 : ((ji33) : Int) < ((x14_2.length : Int) : Int) := of_decide_eq_true (by first | (with_reducible assumption) | assumption)
                            obtain ⟨go36, co36, eo36, gb36, gl36, cl36, HG36⟩ := Kd.R_form HO_14.out (by omega)
                            (first | cases eo36 | (injection eo36 with ea_ en_ ec_; (first | subst ea_ | (injection ea_ with ea_; subst ea_)); subst ec_; clear en_))
                            have GB36 := Aside0.mk gb36
                            have GG36 := Aside0.mk HG36
                            clear gb36 gl36 HG36
                            obtain ⟨hx36_0, hf36_0⟩ := Kd.R_celln 0 HO_14.out ((ji33) : Int) p36 q36
                            replace p36 := eq_true p36
                            replace q36 := eq_true q36
                            have HP40 := Kd.R_putg HO_14.out ((ji33) : Int) a3
                            go_wp2_with (first | ((with_reducible refine gate_store (t := 3) (p := 90) rfl ?_); refine store_event (t := 3) (p := 90) (v := ?vo_w41) (w1 := (wc.setCell ⟨go36, ((ji33) : Int).toNat, none⟩ (.int .i64 a3))) ?hg ?ho ?hn ?hr ?_; (case ho => rfl); (case hg => rfl); (case hn => rfl); (case hr => first | (go_simp; done) | (go_simp; rfl)); intro w41 hw; have hg : wc.grownBy w41 (some go36) := (by rw [hw]; exact HP40.2); have hp_ : Kd.R (Kd.int .i64) 3 w41 w.heap.size (fun _ => True) (.slice (some ⟨go36, 0, none⟩) x14_2.length co25) y463 := (by rw [hw, Ny463.out]; exact HP40.1); clear HP40; have n0_ := Aside0.mk (hp_); have n1_ := Aside0.mk ((by rw [hw]; exact below_set (HB.out) GB36.out : Below w.heap.size w w41)); clear HO_14; clear HB; have HO_14 := n0_; have HB := n1_; clear n0_ n1_; clear hg hw hp_) | ((with_reducible refine gate_callee (f := 12) rfl ?_); refine goesL_ (some 95) rfl rfl Try.func12 (by kernel_rfl) rfl #[.slice (some ⟨go36, 0, none⟩) y463.length co25] rfl (by (try simp only [List.map_toArray, List.map_cons, List.map_nil]); first | done | (rw [show y463.length = x14_2.length from (Kd.R_reads' HO_14.out).1.symm] <;> rfl) | rfl | (simp only [List.length_drop, List.length_take]; rfl)) ?_; (with_reducible refine (rre_Ground.calls _ _ y463 t464 _ ?side1 ?side2 A37.out).mono ?_); (case side1 => repeat (first | exact (Kd.R_reads' HO_14.out).2.2 | (with_reducible refine Kd.C_alloc ?_ _) | (with_reducible refine Kd.C_drewN ?_ _) | (with_reducible refine Kd.C_drew ?_))); (case side2 => rw [show y463.length = x14_2.length from (Kd.R_reads' HO_14.out).1.symm]; exact (Kd.R_reads' HO_14.out).2.1); rintro e w42 ⟨rfl, hb⟩; refine ⟨_, rfl, ?_⟩; have n0_ := Aside0.mk (Kd.R_below (by (with_reducible repeat (first | apply Kd.R_alloc | apply Kd.R_drewN | apply Kd.R_drew)); exact HO_14.out) hb); have n1_ := Aside0.mk (below_step (by repeat (first | (with_reducible first | exact HB.out | apply below_alloc | apply pw_below_drewN | apply below_drew1) | exact HB.out)) hb); clear HO_14; clear HB; have HO_14 := n0_; have HB := n1_; clear n0_ n1_; (try clear hb); (try clear hb2); (try clear hk); (try clear hi)) | ((with_reducible refine gate_callee (f := 10) rfl ?_); refine goesL_ (some 96) rfl rfl Try.func10 (by kernel_rfl) rfl #[.int .i64 a0, .int .i64 a1, .slice (some ⟨go36, 0, none⟩) y463.length co25, .int .i64 t464] rfl (by (try simp only [List.map_toArray, List.map_cons, List.map_nil]); first | done | (rw [show y463.length = x14_2.length from (Kd.R_reads' HO_14.out).1.symm] <;> rfl) | rfl | (simp only [List.length_drop, List.length_take]; rfl)) ?_; (with_reducible refine (rre_Pieces.calls a0 a1 _ _ y463 t464 t465 _ ?side1 ?side2 A38.out).mono ?_); (case side1 => repeat (first | exact (Kd.R_reads' HO_14.out).2.2 | (with_reducible refine Kd.C_alloc ?_ _) | (with_reducible refine Kd.C_drewN ?_ _) | (with_reducible refine Kd.C_drew ?_))); (case side2 => rw [show y463.length = x14_2.length from (Kd.R_reads' HO_14.out).1.symm]; exact (Kd.R_reads' HO_14.out).2.1); rintro e w43 ⟨v466, rfl, ho0, hb⟩; refine ⟨_, rfl, ?_⟩; have n0_ := Aside0.mk (Kd.R_below (by (with_reducible repeat (first | apply Kd.R_alloc | apply Kd.R_drewN | apply Kd.R_drew)); exact HO_14.out) hb); have n1_ := Aside0.mk (Kd.R_lower ho0 (below_size (by repeat (first | (with_reducible first | exact HB.out | apply below_alloc | apply pw_below_drewN | apply below_drew1) | exact HB.out)))); have n2_ := Aside0.mk (below_step (by repeat (first | (with_reducible first | exact HB.out | apply below_alloc | apply pw_below_drewN | apply below_drew1) | exact HB.out)) hb); clear HO_14; clear HB; have HO_14 := n0_; have HO467 := n1_; have HB := n2_; clear n0_ n1_ n2_; (try clear hb); (try clear hb2); (try clear hk); (try clear hi); (try clear ho0); obtain ⟨Ao44, co44, eo44⟩ := Kd.R_slice HO467.out; subst eo44))
                            go_ret
                            exact ⟨by first | rfl | (simp [errW_none, errW_some] <;> rfl) | (simp only [← hji33]; first | rfl | (simp [errW_none, errW_some] <;> rfl)) | (simp [*, errW_none, errW_some] <;> rfl), by repeat (first | (with_reducible first | exact HB.out | apply below_alloc | apply pw_below_drewN | apply below_drew1) | exact HB.out)⟩
                          · rw [if_neg c39] at H
                            have c39b0 : (a2 == a3) = false := beq_eq_false_iff_ne.mpr c39
                            have c39b1 : (a2 != a3) = true := bne_iff_ne.mpr c39
                            have H1 : ((rre_Ground.f y463).bind fun t468 => (if t468 = a2 then (if (t465.length : Int) = 1 then (if 0 < (t465.length : Int) then (if ((rd_T31 t465 0).f0) = a3 then (some (((rd_T31 t465 0).f1.f0) == a4 && (((rd_T31 t465 0).f1.f1) == a5 && (((rd_T31 t465 0).f1.f2) == 1 && (((rd_T31 t465 0).f1.f3) == 1))))) else (some false)) else (none)) else (some false)) else (some false))) = some r := by (first | rw [if_pos rfl] at H | rw [if_pos trivial] at H); exact H
                            clear H
                            have H := H1
                            clear H1
                            replace H := Option.bind_eq_some_iff.mp H
                            obtain ⟨t468, A450, H⟩ := H
                            replace H : (if t468 = a2 then (if (t465.length : Int) = 1 then (if 0 < (t465.length : Int) then (if ((rd_T31 t465 0).f0) = a3 then (some (((rd_T31 t465 0).f1.f0) == a4 && (((rd_T31 t465 0).f1.f1) == a5 && (((rd_T31 t465 0).f1.f2) == 1 && (((rd_T31 t465 0).f1.f3) == 1))))) else (some false)) else (none)) else (some false)) else (some false)) = some r := H
                            have A45 := Aside0.mk A450
                            clear A450
                            by_cases c46 : t468 = a2
                            · rw [if_pos c46] at H
                              have c46b0 : (t468 == a2) = true := beq_iff_eq.mpr c46
                              have c46b1 : (t468 != a2) = false := bne_eq_false_iff_eq.mpr c46
                              clear c46
                              by_cases c47 : (t465.length : Int) = 1
                              · rw [if_pos c47] at H
                                have c47b0 : ((t465.length : Int) == 1) = true := beq_iff_eq.mpr c47
                                have c47b1 : ((t465.length : Int) != 1) = false := bne_eq_false_iff_eq.mpr c47
                                clear c47
                                by_cases c48 : 0 < (t465.length : Int)
                                · rw [if_pos c48] at H
                                  have c48b0 : decide (0 < (t465.length : Int)) = true := decide_eq_true c48
                                  have c48b1 : decide (0 < t465.length) = true := decide_eq_true (by omega)
                                  clear c48
                                  by_cases c49 : ((rd_T31 t465 0).f0) = a3
                                  · rw [if_pos c49] at H
                                    have c49b0 : (((rd_T31 t465 0).f0) == a3) = true := beq_iff_eq.mpr c49
                                    have c49b1 : (((rd_T31 t465 0).f0) != a3) = false := bne_eq_false_iff_eq.mpr c49
                                    clear c49
                                    obtain rfl := Option.some.inj H
                                    have p36 : 0 ≤ ((ji33) : Int) := of_decide_eq_true (by first | (with_reducible assumption) | assumption)
                                    have q36 : ((ji33) : Int) < ((x14_2.length : Int) : Int) := of_decide_eq_true (by first | (with_reducible assumption) | assumption)
                                    obtain ⟨go36, co36, eo36, gb36, gl36, cl36, HG36⟩ := Kd.R_form HO_14.out (by omega)
                                    (first | cases eo36 | (injection eo36 with ea_ en_ ec_; (first | subst ea_ | (injection ea_ with ea_; subst ea_)); subst ec_; clear en_))
                                    have GB36 := Aside0.mk gb36
                                    have GG36 := Aside0.mk HG36
                                    clear gb36 gl36 HG36
                                    obtain ⟨hx36_0, hf36_0⟩ := Kd.R_celln 0 HO_14.out ((ji33) : Int) p36 q36
                                    replace p36 := eq_true p36
                                    replace q36 := eq_true q36
                                    have HP50 := Kd.R_putg HO_14.out ((ji33) : Int) a3
                                    go_wp2_with (first | ((with_reducible refine gate_store (t := 3) (p := 90) rfl ?_); refine store_event (t := 3) (p := 90) (v := ?vo_w51) (w1 := (wc.setCell ⟨go36, ((ji33) : Int).toNat, none⟩ (.int .i64 a3))) ?hg ?ho ?hn ?hr ?_; (case ho => rfl); (case hg => rfl); (case hn => rfl); (case hr => first | (go_simp; done) | (go_simp; rfl)); intro w51 hw; have hg : wc.grownBy w51 (some go36) := (by rw [hw]; exact HP50.2); have hp_ : Kd.R (Kd.int .i64) 3 w51 w.heap.size (fun _ => True) (.slice (some ⟨go36, 0, none⟩) x14_2.length co25) y463 := (by rw [hw, Ny463.out]; exact HP50.1); clear HP50; have n0_ := Aside0.mk (hp_); have n1_ := Aside0.mk ((by rw [hw]; exact below_set (HB.out) GB36.out : Below w.heap.size w w51)); clear HO_14; clear HB; have HO_14 := n0_; have HB := n1_; clear n0_ n1_; clear hg hw hp_) | ((with_reducible refine gate_callee (f := 12) rfl ?_); refine goesL_ (some 95) rfl rfl Try.func12 (by kernel_rfl) rfl #[.slice (some ⟨go36, 0, none⟩) y463.length co25] rfl (by (try simp only [List.map_toArray, List.map_cons, List.map_nil]); first | done | (rw [show y463.length = x14_2.length from (Kd.R_reads' HO_14.out).1.symm] <;> rfl) | rfl | (simp only [List.length_drop, List.length_take]; rfl)) ?_; (with_reducible refine (rre_Ground.calls _ _ y463 t464 _ ?side1 ?side2 A37.out).mono ?_); (case side1 => repeat (first | exact (Kd.R_reads' HO_14.out).2.2 | (with_reducible refine Kd.C_alloc ?_ _) | (with_reducible refine Kd.C_drewN ?_ _) | (with_reducible refine Kd.C_drew ?_))); (case side2 => rw [show y463.length = x14_2.length from (Kd.R_reads' HO_14.out).1.symm]; exact (Kd.R_reads' HO_14.out).2.1); rintro e w52 ⟨rfl, hb⟩; refine ⟨_, rfl, ?_⟩; have n0_ := Aside0.mk (Kd.R_below (by (with_reducible repeat (first | apply Kd.R_alloc | apply Kd.R_drewN | apply Kd.R_drew)); exact HO_14.out) hb); have n1_ := Aside0.mk (below_step (by repeat (first | (with_reducible first | exact HB.out | apply below_alloc | apply pw_below_drewN | apply below_drew1) | exact HB.out)) hb); clear HO_14; clear HB; have HO_14 := n0_; have HB := n1_; clear n0_ n1_; (try clear hb); (try clear hb2); (try clear hk); (try clear hi)) | ((with_reducible refine gate_callee (f := 10) rfl ?_); refine goesL_ (some 96) rfl rfl Try.func10 (by kernel_rfl) rfl #[.int .i64 a0, .int .i64 a1, .slice (some ⟨go36, 0, none⟩) y463.length co25, .int .i64 t464] rfl (by (try simp only [List.map_toArray, List.map_cons, List.map_nil]); first | done | (rw [show y463.length = x14_2.length from (Kd.R_reads' HO_14.out).1.symm] <;> rfl) | rfl | (simp only [List.length_drop, List.length_take]; rfl)) ?_; (with_reducible refine (rre_Pieces.calls a0 a1 _ _ y463 t464 t465 _ ?side1 ?side2 A38.out).mono ?_); (case side1 => repeat (first | exact (Kd.R_reads' HO_14.out).2.2 | (with_reducible refine Kd.C_alloc ?_ _) | (with_reducible refine Kd.C_drewN ?_ _) | (with_reducible refine Kd.C_drew ?_))); (case side2 => rw [show y463.length = x14_2.length from (Kd.R_reads' HO_14.out).1.symm]; exact (Kd.R_reads' HO_14.out).2.1); rintro e w53 ⟨v466, rfl, ho0, hb⟩; refine ⟨_, rfl, ?_⟩; have n0_ := Aside0.mk (Kd.R_below (by (with_reducible repeat (first | apply Kd.R_alloc | apply Kd.R_drewN | apply Kd.R_drew)); exact HO_14.out) hb); have n1_ := Aside0.mk (Kd.R_lower ho0 (below_size (by repeat (first | (with_reducible first | exact HB.out | apply below_alloc | apply pw_below_drewN | apply below_drew1) | exact HB.out)))); have n2_ := Aside0.mk (below_step (by repeat (first | (with_reducible first | exact HB.out | apply below_alloc | apply pw_below_drewN | apply below_drew1) | exact HB.out)) hb); clear HO_14; clear HB; have HO_14 := n0_; have HO467 := n1_; have HB := n2_; clear n0_ n1_ n2_; (try clear hb); (try clear hb2); (try clear hk); (try clear hi); (try clear ho0)) | (go_at_call 12; refine calls_of_args (args' := #[.slice (some ⟨go36, 0, none⟩) y463.length co25]) (by first | (rw [show y463.length = x14_2.length from (Kd.R_reads' HO_14.out).1.symm] <;> rfl) | rfl) ?_; (with_reducible refine (rre_Ground.calls _ _ y463 t468 _ ?side1 ?side2 A45.out).mono ?_); (case side1 => repeat (first | exact (Kd.R_reads' HO_14.out).2.2 | (with_reducible refine Kd.C_alloc ?_ _) | (with_reducible refine Kd.C_drewN ?_ _) | (with_reducible refine Kd.C_drew ?_))); (case side2 => rw [show y463.length = x14_2.length from (Kd.R_reads' HO_14.out).1.symm]; exact (Kd.R_reads' HO_14.out).2.1); rintro e w54 ⟨rfl, hb⟩; have n0_ := Aside0.mk (Kd.R_below (by (with_reducible repeat (first | apply Kd.R_alloc | apply Kd.R_drewN | apply Kd.R_drew)); exact HO_14.out) hb); have n1_ := Aside0.mk (Kd.R_below (by (with_reducible repeat (first | apply Kd.R_alloc | apply Kd.R_drewN | apply Kd.R_drew)); exact HO467.out) hb); have n2_ := Aside0.mk (below_step (by repeat (first | (with_reducible first | exact HB.out | apply below_alloc | apply pw_below_drewN | apply below_drew1) | exact HB.out)) hb); clear HO_14; clear HO467; clear HB; have HO_14 := n0_; have HO467 := n1_; have HB := n2_; clear n0_ n1_ n2_; (try clear hb); (try clear hb2); (try clear hk); (try clear hi); obtain ⟨Ao55, co55, eo55⟩ := Kd.R_slice HO467.out; subst eo55; have p469 : 0 ≤ (0 : Int) := (by omega); have q469 : 0 < (t465.length : Int) := of_decide_eq_true (by first | (with_reducible assumption) | assumption); obtain ⟨ad469, e469, hx469_0, hx469_1, hx469_2, hx469_3, hx469_4⟩ := at_T31 (Kd.R_reads' HO467.out).2.2 0 p469 q469; cases e469; have qi469 : (0 < t465.length) = True := eq_true (by omega); (try rw [show ((0 : Int)).toNat = 0 from rfl] at hx469_0); (try rw [show 0 * 5 = 0 from rfl] at hx469_0); (try rw [Addr.add_zero'] at hx469_0); (try rw [show ((0 : Int)).toNat = 0 from rfl] at hx469_1); (try rw [show 0 * 5 = 0 from rfl] at hx469_1); (try rw [Addr.add_zero'] at hx469_1); (try rw [show ((0 : Int)).toNat = 0 from rfl] at hx469_2); (try rw [show 0 * 5 = 0 from rfl] at hx469_2); (try rw [Addr.add_zero'] at hx469_2); (try rw [show ((0 : Int)).toNat = 0 from rfl] at hx469_3); (try rw [show 0 * 5 = 0 from rfl] at hx469_3); (try rw [Addr.add_zero'] at hx469_3); (try rw [show ((0 : Int)).toNat = 0 from rfl] at hx469_4); (try rw [show 0 * 5 = 0 from rfl] at hx469_4); (try rw [Addr.add_zero'] at hx469_4); replace p469 := eq_true p469; replace q469 := eq_true q469; have p470 : 0 ≤ (0 : Int) := (by omega); have q470 : 0 < (t465.length : Int) := of_decide_eq_true (by first | (with_reducible assumption) | assumption); obtain ⟨ad470, e470, hx470_0, hx470_1, hx470_2, hx470_3, hx470_4⟩ := at_T31 (Kd.R_reads' HO467.out).2.2 0 p470 q470; obtain rfl : ad469 = ad470 := (by injection e470); have qi470 : (0 < t465.length) = True := eq_true (by omega); (try rw [show ((0 : Int)).toNat = 0 from rfl] at hx470_0); (try rw [show 0 * 5 = 0 from rfl] at hx470_0); (try rw [Addr.add_zero'] at hx470_0); (try rw [show ((0 : Int)).toNat = 0 from rfl] at hx470_1); (try rw [show 0 * 5 = 0 from rfl] at hx470_1); (try rw [Addr.add_zero'] at hx470_1); (try rw [show ((0 : Int)).toNat = 0 from rfl] at hx470_2); (try rw [show 0 * 5 = 0 from rfl] at hx470_2); (try rw [Addr.add_zero'] at hx470_2); (try rw [show ((0 : Int)).toNat = 0 from rfl] at hx470_3); (try rw [show 0 * 5 = 0 from rfl] at hx470_3); (try rw [Addr.add_zero'] at hx470_3); (try rw [show ((0 : Int)).toNat = 0 from rfl] at hx470_4); (try rw [show 0 * 5 = 0 from rfl] at hx470_4); (try rw [Addr.add_zero'] at hx470_4); replace p470 := eq_true p470; replace q470 := eq_true q470))
                                    go_ret
                                    exact ⟨by first | rfl | (simp [errW_none, errW_some] <;> rfl) | (simp only [← hji33]; first | rfl | (simp [errW_none, errW_some] <;> rfl)) | (simp [*, errW_none, errW_some] <;> rfl), by repeat (first | (with_reducible first | exact HB.out | apply below_alloc | apply pw_below_drewN | apply below_drew1) | exact HB.out)⟩
                                  · rw [if_neg c49] at H
                                    have c49b0 : (((rd_T31 t465 0).f0) == a3) = false := beq_eq_false_iff_ne.mpr c49
                                    have c49b1 : (((rd_T31 t465 0).f0) != a3) = true := bne_iff_ne.mpr c49
                                    rw [HRT.out] at H
                                    exact absurd (Option.some.inj H) (by decide)
                                · rw [if_neg c48] at H
                                  exact absurd H (by simp)
                              · rw [if_neg c47] at H
                                have c47b0 : ((t465.length : Int) == 1) = false := beq_eq_false_iff_ne.mpr c47
                                have c47b1 : ((t465.length : Int) != 1) = true := bne_iff_ne.mpr c47
                                rw [HRT.out] at H
                                exact absurd (Option.some.inj H) (by decide)
                            · rw [if_neg c46] at H
                              have c46b0 : (t468 == a2) = false := beq_eq_false_iff_ne.mpr c46
                              have c46b1 : (t468 != a2) = true := bne_iff_ne.mpr c46
                              rw [HRT.out] at H
                              exact absurd (Option.some.inj H) (by decide)
                        · rw [if_neg c35] at H
                          exact absurd H (by simp)
                      · rw [if_neg c34] at H
                        exact absurd H (by simp)
  · replace c8 := Bool.eq_false_iff.mpr c8
    subst c8
    have H1 : (some false) = some r := by rw [if_neg (show ¬ (false = true) by decide)] at H; exact H
    clear H
    have H := H1
    clear H1
    rw [HRT.out] at H
    exact absurd (Option.some.inj H) (by decide)

/-- THE ONE PURE STATEMENT of miradorlaw17_RreOne: yours. -/
def miradorlaw17_RreOne.Pure : Prop := ∀ (a0 : Int) (a1 : Int) (a2 : Int) (a3 : Int) (a4 : Int) (a5 : Int), (Lit.int .i64 a0).wf = true → (Lit.int .i64 a1).wf = true → (Lit.int .i64 a2).wf = true → (Lit.int .i64 a3).wf = true → (Lit.int .i64 a4).wf = true → (Lit.int .i64 a5).wf = true → ∃ k, miradorlaw17_RreOne.f k a0 a1 a2 a3 a4 a5 = some true
theorem miradorlaw17_RreOne.walk (P : miradorlaw17_RreOne.Pure) (a0 : Int) (a1 : Int) (a2 : Int) (a3 : Int) (a4 : Int) (a5 : Int) (w : World) (w0 : (Lit.int .i64 a0).wf = true) (w1 : (Lit.int .i64 a1).wf = true) (w2 : (Lit.int .i64 a2).wf = true) (w3 : (Lit.int .i64 a3).wf = true) (w4 : (Lit.int .i64 a4).wf = true) (w5 : (Lit.int .i64 a5).wf = true) :
    Calls Try.prog 8 #[.int .i64 a0, .int .i64 a1, .int .i64 a2, .int .i64 a3, .int .i64 a4, .int .i64 a5] w fun e w' => e = .returned (.bool true) ∧ Below w.heap.size w w' := by
  obtain ⟨k, h⟩ := P a0 a1 a2 a3 a4 a5 w0 w1 w2 w3 w4 w5
  refine (miradorlaw17_RreOne.calls1 k a0 a1 a2 a3 a4 a5 true w rfl h).mono ?_
  rintro e w' ⟨rfl, hd⟩
  exact ⟨rfl, hd⟩

end Go.Proofs.Ytkmfhfejogjnfaa.X
