/- What each Go function that these laws use answers: as a Lean function, with the proof that the machine's call comes to it. Written by a program of this session (xprint.py). -/
import Derived.Test.YtkobiblgbpnlaaaXx0
import Derived.Test.YtkobiblgbpnlaaaXx19
import Derived.Test.YtkobiblgbpnlaaaXx20
import Derived.Test.YtkobiblgbpnlaaaXx21
import Derived.Test.YtkobiblgbpnlaaaXx33
namespace Go.Proofs.Ytkobiblgbpnlaaa.X
open Go.RowKit Go.Proofs.YtkobiblgbpnlaaaW.PrintWords Go.Proofs.YtkobiblgbpnlaaaW.PrintLast Go.Proofs.YtkobiblgbpnlaaaW.PrintMore
attribute [local go_sem] max2_int min2_int max_two min_two max_three min_three max_four min_four   -- for this text's walks alone
set_option linter.unusedVariables false
set_option linter.unusedSimpArgs false

/-! ### miradorlaw15_RegionShifts: function 7 -/
mutual
def miradorlaw15_RegionShifts.j0 : Nat → List (S26) → Int → Int → Int → Int → Bool → Bool → Option (Bool)
  | 0, _, _, _, _, _, _, _ => none
  | k + 1, x0, x1, x2, x3, x4, x11, x53 => if x53 = true then (some x11) else (miradorlaw15_RegionShifts.l0 k x0 x1 x2 x3 x4 x11 0)
def miradorlaw15_RegionShifts.l0 : Nat → List (S26) → Int → Int → Int → Int → Bool → Int → Option (Bool)
  | 0, _, _, _, _, _, _, _ => none
  | k + 1, x0, x1, x2, x3, x4, x11, x12 => if x12 < (x0.length : Int) then (if 0 ≤ x12 then (if ((rd_T26 x0 x12).f0) > 100000 then (some x11) else (if ((rd_T26 x0 x12).f0) < (-100000) then (some x11) else (if ((rd_T26 x0 x12).f1) > 100000 then (some x11) else (if ((rd_T26 x0 x12).f1) < (-100000) then (some x11) else (if ((rd_T26 x0 x12).f2) > 100000 then (some x11) else (if ((rd_T26 x0 x12).f3) > 100000 then (some x11) else (miradorlaw15_RegionShifts.l0 k x0 x1 x2 x3 x4 x11 (wrap64 (x12 + 1))))))))) else (none)) else ((region_Shift.f k x0 x1 x2).bind fun t547 => ((region_Shift.f k t547 (wrap64 (-x1)) (wrap64 (-x2))).bind fun t550 => ((region_Make.f x0).bind fun t553 => ((miradorref15_Same.f k t550 t553).bind fun t556 => (if x11 = true then (if t556 = true then ((region_Has.f k t547 (wrap64 (x3 + x1)) (wrap64 (x4 + x2))).bind fun t557 => ((region_Has.f k x0 x3 x4).bind fun t558 => (if (t557 == t558) = true then ((region_Area.f k t547).bind fun t559 => ((region_Area.f k x0).bind fun t560 => (some (t559 == t560)))) else (some false)))) else (some false)) else (some false))))))
end
def miradorlaw15_RegionShifts.f (k : Nat) (l0 : List (S26)) (a1 : Int) (a2 : Int) (a3 : Int) (a4 : Int) : Option (Bool) := (miradorlaw15_works.f k).bind fun t544 => (if t544 = true then (if (l0.length : Int) > 12 then (miradorlaw15_RegionShifts.j0 k l0 a1 a2 a3 a4 t544 true) else (if a1 > 100000 then (miradorlaw15_RegionShifts.j0 k l0 a1 a2 a3 a4 t544 true) else (if a1 < (-100000) then (miradorlaw15_RegionShifts.j0 k l0 a1 a2 a3 a4 t544 true) else (if a2 > 100000 then (miradorlaw15_RegionShifts.j0 k l0 a1 a2 a3 a4 t544 true) else (if a2 < (-100000) then (miradorlaw15_RegionShifts.j0 k l0 a1 a2 a3 a4 t544 true) else (if a3 > 100000 then (miradorlaw15_RegionShifts.j0 k l0 a1 a2 a3 a4 t544 true) else (if a3 < (-100000) then (miradorlaw15_RegionShifts.j0 k l0 a1 a2 a3 a4 t544 true) else (if a4 > 100000 then (miradorlaw15_RegionShifts.j0 k l0 a1 a2 a3 a4 t544 true) else (miradorlaw15_RegionShifts.j0 k l0 a1 a2 a3 a4 t544 (decide (a4 < (-100000)))))))))))) else (some false))
theorem miradorlaw15_RegionShifts.mono_l : ∀ k, (∀ y0 y1 y2 y3 y4 y5 y6, LeO (miradorlaw15_RegionShifts.j0 k y0 y1 y2 y3 y4 y5 y6) (miradorlaw15_RegionShifts.j0 (k + 1) y0 y1 y2 y3 y4 y5 y6)) ∧ (∀ y0 y1 y2 y3 y4 y5 y6, LeO (miradorlaw15_RegionShifts.l0 k y0 y1 y2 y3 y4 y5 y6) (miradorlaw15_RegionShifts.l0 (k + 1) y0 y1 y2 y3 y4 y5 y6))
  | 0 => ⟨fun _ _ _ _ _ _ _ r h => by simp [miradorlaw15_RegionShifts.j0] at h, fun _ _ _ _ _ _ _ r h => by simp [miradorlaw15_RegionShifts.l0] at h⟩
  | k + 1 => by
    obtain ⟨ih0, ih1⟩ := miradorlaw15_RegionShifts.mono_l k
    refine ⟨?_, ?_⟩
    · intro y0 y1 y2 y3 y4 y5 y6
      unfold miradorlaw15_RegionShifts.j0
      repeat' first
      | (with_reducible exact ih0 _ _ _ _ _ _ _)
      | (with_reducible exact ih1 _ _ _ _ _ _ _)
      | (with_reducible exact miradorlaw15_works.mono _)
      | (with_reducible exact miradorref15_Same.mono _ _ _)
      | (with_reducible exact region_Area.mono _ _)
      | (with_reducible exact region_Has.mono _ _ _ _)
      | (with_reducible exact region_Shift.mono _ _ _ _)
      | (with_reducible exact LeO.refl _)
      | (with_reducible exact LeO.none _)
      | (with_reducible refine LeO.ite ?_ ?_)
      | (with_reducible refine LeO.bind ?_ (fun _ => ?_))
      | exact ih0 _ _ _ _ _ _ _
      | exact ih1 _ _ _ _ _ _ _
      | exact miradorlaw15_works.mono _
      | exact miradorref15_Same.mono _ _ _
      | exact region_Area.mono _ _
      | exact region_Has.mono _ _ _ _
      | exact region_Shift.mono _ _ _ _
      | exact LeO.none _
      | refine LeO.ite ?_ ?_
      | refine LeO.bind ?_ (fun _ => ?_)
    · intro y0 y1 y2 y3 y4 y5 y6
      unfold miradorlaw15_RegionShifts.l0
      repeat' first
      | (with_reducible exact ih0 _ _ _ _ _ _ _)
      | (with_reducible exact ih1 _ _ _ _ _ _ _)
      | (with_reducible exact miradorlaw15_works.mono _)
      | (with_reducible exact miradorref15_Same.mono _ _ _)
      | (with_reducible exact region_Area.mono _ _)
      | (with_reducible exact region_Has.mono _ _ _ _)
      | (with_reducible exact region_Shift.mono _ _ _ _)
      | (with_reducible exact LeO.refl _)
      | (with_reducible exact LeO.none _)
      | (with_reducible refine LeO.ite ?_ ?_)
      | (with_reducible refine LeO.bind ?_ (fun _ => ?_))
      | exact ih0 _ _ _ _ _ _ _
      | exact ih1 _ _ _ _ _ _ _
      | exact miradorlaw15_works.mono _
      | exact miradorref15_Same.mono _ _ _
      | exact region_Area.mono _ _
      | exact region_Has.mono _ _ _ _
      | exact region_Shift.mono _ _ _ _
      | exact LeO.none _
      | refine LeO.ite ?_ ?_
      | refine LeO.bind ?_ (fun _ => ?_)
theorem miradorlaw15_RegionShifts.mono : ∀ a0 a1 a2 a3 a4 k, LeO (miradorlaw15_RegionShifts.f k a0 a1 a2 a3 a4) (miradorlaw15_RegionShifts.f (k + 1) a0 a1 a2 a3 a4) := by
  intro a0 a1 a2 a3 a4 k
  obtain ⟨ih0, ih1⟩ := miradorlaw15_RegionShifts.mono_l k
  unfold miradorlaw15_RegionShifts.f
  repeat' first
      | (with_reducible exact ih0 _ _ _ _ _ _ _)
      | (with_reducible exact ih1 _ _ _ _ _ _ _)
      | (with_reducible exact miradorlaw15_works.mono _)
      | (with_reducible exact miradorref15_Same.mono _ _ _)
      | (with_reducible exact region_Area.mono _ _)
      | (with_reducible exact region_Has.mono _ _ _ _)
      | (with_reducible exact region_Shift.mono _ _ _ _)
      | (with_reducible exact LeO.refl _)
      | (with_reducible exact LeO.none _)
      | (with_reducible refine LeO.ite ?_ ?_)
      | (with_reducible refine LeO.bind ?_ (fun _ => ?_))
      | exact ih0 _ _ _ _ _ _ _
      | exact ih1 _ _ _ _ _ _ _
      | exact miradorlaw15_works.mono _
      | exact miradorref15_Same.mono _ _ _
      | exact region_Area.mono _ _
      | exact region_Has.mono _ _ _ _
      | exact region_Shift.mono _ _ _ _
      | exact LeO.none _
      | refine LeO.ite ?_ ?_
      | refine LeO.bind ?_ (fun _ => ?_)
set_option maxHeartbeats 8000000 in
set_option maxRecDepth 100000 in
theorem miradorlaw15_RegionShifts.calls1 (k : Nat) (A0 : Option Addr) (c0 : Nat) (l0 : List (S26)) (a1 : Int) (a2 : Int) (a3 : Int) (a4 : Int) (r : Bool) (w : World) (hr0 : Kd.C k26 w A0 l0.length l0) (hc0 : l0.length ≤ c0) (hr_ : r = true) (h : miradorlaw15_RegionShifts.f k l0 a1 a2 a3 a4 = some r) :
    Calls Try.prog 7 #[.slice A0 l0.length c0, .int .i64 a1, .int .i64 a2, .int .i64 a3, .int .i64 a4] w fun e w' => e = .returned (.bool r) ∧ Below w.heap.size w w' := by
  have hu26 := Try.underlying26
  have HR0 := Aside0.mk hr0
  have HC0 := Aside0.mk hc0
  clear hr0 hc0
  have HB := Aside0.mk (Below.refl w.heap.size w)
  have H : ((miradorlaw15_works.f k).bind fun t544 => (if t544 = true then (if (l0.length : Int) > 12 then (miradorlaw15_RegionShifts.j0 k l0 a1 a2 a3 a4 t544 true) else (if a1 > 100000 then (miradorlaw15_RegionShifts.j0 k l0 a1 a2 a3 a4 t544 true) else (if a1 < (-100000) then (miradorlaw15_RegionShifts.j0 k l0 a1 a2 a3 a4 t544 true) else (if a2 > 100000 then (miradorlaw15_RegionShifts.j0 k l0 a1 a2 a3 a4 t544 true) else (if a2 < (-100000) then (miradorlaw15_RegionShifts.j0 k l0 a1 a2 a3 a4 t544 true) else (if a3 > 100000 then (miradorlaw15_RegionShifts.j0 k l0 a1 a2 a3 a4 t544 true) else (if a3 < (-100000) then (miradorlaw15_RegionShifts.j0 k l0 a1 a2 a3 a4 t544 true) else (if a4 > 100000 then (miradorlaw15_RegionShifts.j0 k l0 a1 a2 a3 a4 t544 true) else (miradorlaw15_RegionShifts.j0 k l0 a1 a2 a3 a4 t544 (decide (a4 < (-100000)))))))))))) else (some false))) = some r := h
  clear h
  have HRT := Aside0.mk hr_
  clear hr_
  replace H := Option.bind_eq_some_iff.mp H
  obtain ⟨t544, A60, H⟩ := H
  replace H : (if t544 = true then (if (l0.length : Int) > 12 then (miradorlaw15_RegionShifts.j0 k l0 a1 a2 a3 a4 t544 true) else (if a1 > 100000 then (miradorlaw15_RegionShifts.j0 k l0 a1 a2 a3 a4 t544 true) else (if a1 < (-100000) then (miradorlaw15_RegionShifts.j0 k l0 a1 a2 a3 a4 t544 true) else (if a2 > 100000 then (miradorlaw15_RegionShifts.j0 k l0 a1 a2 a3 a4 t544 true) else (if a2 < (-100000) then (miradorlaw15_RegionShifts.j0 k l0 a1 a2 a3 a4 t544 true) else (if a3 > 100000 then (miradorlaw15_RegionShifts.j0 k l0 a1 a2 a3 a4 t544 true) else (if a3 < (-100000) then (miradorlaw15_RegionShifts.j0 k l0 a1 a2 a3 a4 t544 true) else (if a4 > 100000 then (miradorlaw15_RegionShifts.j0 k l0 a1 a2 a3 a4 t544 true) else (miradorlaw15_RegionShifts.j0 k l0 a1 a2 a3 a4 t544 (decide (a4 < (-100000)))))))))))) else (some false)) = some r := H
  have A6 := Aside0.mk A60
  clear A60
  by_cases c7 : t544 = true
  · subst c7
    have H1 : (if (l0.length : Int) > 12 then (miradorlaw15_RegionShifts.j0 k l0 a1 a2 a3 a4 true true) else (if a1 > 100000 then (miradorlaw15_RegionShifts.j0 k l0 a1 a2 a3 a4 true true) else (if a1 < (-100000) then (miradorlaw15_RegionShifts.j0 k l0 a1 a2 a3 a4 true true) else (if a2 > 100000 then (miradorlaw15_RegionShifts.j0 k l0 a1 a2 a3 a4 true true) else (if a2 < (-100000) then (miradorlaw15_RegionShifts.j0 k l0 a1 a2 a3 a4 true true) else (if a3 > 100000 then (miradorlaw15_RegionShifts.j0 k l0 a1 a2 a3 a4 true true) else (if a3 < (-100000) then (miradorlaw15_RegionShifts.j0 k l0 a1 a2 a3 a4 true true) else (if a4 > 100000 then (miradorlaw15_RegionShifts.j0 k l0 a1 a2 a3 a4 true true) else (miradorlaw15_RegionShifts.j0 k l0 a1 a2 a3 a4 true (decide (a4 < (-100000)))))))))))) = some r := by rw [if_pos rfl] at H; exact H
    clear H
    have H := H1
    clear H1
    have HC8 := Aside0.mk H
    clear H
    go_enter Try.func7, Try.ntmps7
    go_upto_region 4 with (first | ((with_reducible refine gate_callee (f := 10) rfl ?_); refine goesL_ (some 16) rfl rfl Try.func10 (by kernel_rfl) rfl #[] rfl (by (try simp only [List.map_toArray, List.map_cons, List.map_nil]); first | done | rfl | (simp only [List.length_drop, List.length_take]; rfl)) ?_; (with_reducible refine (miradorlaw15_works.calls k  true _ A6.out).mono ?_); rintro e w9 ⟨rfl, hb⟩; refine ⟨_, rfl, ?_⟩; have n0_ := Aside0.mk (below_step (by repeat (first | (with_reducible first | exact HB.out | apply below_alloc | apply pw_below_drewN | apply below_drew1) | exact HB.out)) hb); clear HB; have HB := n0_; clear n0_; (try clear hb); (try clear hb2); (try clear hk); (try clear hi)))
    (try simp only [Act.put, List.setIfInBounds_toArray, List.set_cons_zero, List.set_cons_succ])
    go_cut [53] (fun v53 wc => ∃ (kq : Nat) (x53_7 : Bool), v53 = .bool x53_7 ∧ Aside0 (miradorlaw15_RegionShifts.j0 kq l0 a1 a2 a3 a4 true x53_7 = some r) ∧ Aside0 (kq ≤ k) ∧ Aside0 (Below w.heap.size w wc))
    case first =>
      have H := HC8.out
      clear HC8
      by_cases c10 : (l0.length : Int) > 12
      · rw [if_pos c10] at H
        have c10b0 : decide (12 < (l0.length : Int)) = true := decide_eq_true c10
        have c10b1 : decide (12 < l0.length) = true := decide_eq_true (by omega)
        clear c10
        (first | rw [c10b0] | (simp only [i64_w, i32_w]; rw [c10b0]) | skip)
        have H' := Aside0.mk H
        clear H
        go_wp2
        go_meet
        case rel => exact ⟨_, (true), (by first | rfl | (simp; done) | (simp [*]; done)), H', ⟨by first | omega | exact Nat.le_refl _⟩, ⟨by repeat (first | (with_reducible first | exact HB.out | apply below_alloc | apply pw_below_drewN | apply below_drew1) | exact HB.out)⟩⟩
      · rw [if_neg c10] at H
        have c10b0 : decide (12 < (l0.length : Int)) = false := decide_eq_false c10
        have c10b1 : decide (12 < l0.length) = false := decide_eq_false (by omega)
        clear c10
        (first | rw [c10b0] | (simp only [i64_w, i32_w]; rw [c10b0]) | skip)
        by_cases c11 : a1 > 100000
        · rw [if_pos c11] at H
          have c11b0 : decide (100000 < a1) = true := decide_eq_true c11
          clear c11
          have H' := Aside0.mk H
          clear H
          go_wp2
          go_meet
          case rel => exact ⟨_, (true), (by first | rfl | (simp; done) | (simp [*]; done)), H', ⟨by first | omega | exact Nat.le_refl _⟩, ⟨by repeat (first | (with_reducible first | exact HB.out | apply below_alloc | apply pw_below_drewN | apply below_drew1) | exact HB.out)⟩⟩
        · rw [if_neg c11] at H
          have c11b0 : decide (100000 < a1) = false := decide_eq_false c11
          clear c11
          by_cases c12 : a1 < (-100000)
          · rw [if_pos c12] at H
            have c12b0 : decide (a1 < (-100000)) = true := decide_eq_true c12
            clear c12
            have H' := Aside0.mk H
            clear H
            go_wp2
            go_meet
            case rel => exact ⟨_, (true), (by first | rfl | (simp; done) | (simp [*]; done)), H', ⟨by first | omega | exact Nat.le_refl _⟩, ⟨by repeat (first | (with_reducible first | exact HB.out | apply below_alloc | apply pw_below_drewN | apply below_drew1) | exact HB.out)⟩⟩
          · rw [if_neg c12] at H
            have c12b0 : decide (a1 < (-100000)) = false := decide_eq_false c12
            clear c12
            by_cases c13 : a2 > 100000
            · rw [if_pos c13] at H
              have c13b0 : decide (100000 < a2) = true := decide_eq_true c13
              clear c13
              have H' := Aside0.mk H
              clear H
              go_wp2
              go_meet
              case rel => exact ⟨_, (true), (by first | rfl | (simp; done) | (simp [*]; done)), H', ⟨by first | omega | exact Nat.le_refl _⟩, ⟨by repeat (first | (with_reducible first | exact HB.out | apply below_alloc | apply pw_below_drewN | apply below_drew1) | exact HB.out)⟩⟩
            · rw [if_neg c13] at H
              have c13b0 : decide (100000 < a2) = false := decide_eq_false c13
              clear c13
              by_cases c14 : a2 < (-100000)
              · rw [if_pos c14] at H
                have c14b0 : decide (a2 < (-100000)) = true := decide_eq_true c14
                clear c14
                have H' := Aside0.mk H
                clear H
                go_wp2
                go_meet
                case rel => exact ⟨_, (true), (by first | rfl | (simp; done) | (simp [*]; done)), H', ⟨by first | omega | exact Nat.le_refl _⟩, ⟨by repeat (first | (with_reducible first | exact HB.out | apply below_alloc | apply pw_below_drewN | apply below_drew1) | exact HB.out)⟩⟩
              · rw [if_neg c14] at H
                have c14b0 : decide (a2 < (-100000)) = false := decide_eq_false c14
                clear c14
                by_cases c15 : a3 > 100000
                · rw [if_pos c15] at H
                  have c15b0 : decide (100000 < a3) = true := decide_eq_true c15
                  clear c15
                  have H' := Aside0.mk H
                  clear H
                  go_wp2
                  go_meet
                  case rel => exact ⟨_, (true), (by first | rfl | (simp; done) | (simp [*]; done)), H', ⟨by first | omega | exact Nat.le_refl _⟩, ⟨by repeat (first | (with_reducible first | exact HB.out | apply below_alloc | apply pw_below_drewN | apply below_drew1) | exact HB.out)⟩⟩
                · rw [if_neg c15] at H
                  have c15b0 : decide (100000 < a3) = false := decide_eq_false c15
                  clear c15
                  by_cases c16 : a3 < (-100000)
                  · rw [if_pos c16] at H
                    have c16b0 : decide (a3 < (-100000)) = true := decide_eq_true c16
                    clear c16
                    have H' := Aside0.mk H
                    clear H
                    go_wp2
                    go_meet
                    case rel => exact ⟨_, (true), (by first | rfl | (simp; done) | (simp [*]; done)), H', ⟨by first | omega | exact Nat.le_refl _⟩, ⟨by repeat (first | (with_reducible first | exact HB.out | apply below_alloc | apply pw_below_drewN | apply below_drew1) | exact HB.out)⟩⟩
                  · rw [if_neg c16] at H
                    have c16b0 : decide (a3 < (-100000)) = false := decide_eq_false c16
                    clear c16
                    by_cases c17 : a4 > 100000
                    · rw [if_pos c17] at H
                      have c17b0 : decide (100000 < a4) = true := decide_eq_true c17
                      clear c17
                      have H' := Aside0.mk H
                      clear H
                      go_wp2
                      go_meet
                      case rel => exact ⟨_, (true), (by first | rfl | (simp; done) | (simp [*]; done)), H', ⟨by first | omega | exact Nat.le_refl _⟩, ⟨by repeat (first | (with_reducible first | exact HB.out | apply below_alloc | apply pw_below_drewN | apply below_drew1) | exact HB.out)⟩⟩
                    · rw [if_neg c17] at H
                      have c17b0 : decide (100000 < a4) = false := decide_eq_false c17
                      clear c17
                      have H' := Aside0.mk H
                      clear H
                      go_wp2
                      go_meet
                      case rel => exact ⟨_, (decide (a4 < (-100000))), (by first | rfl | (simp; done) | (simp [*]; done)), H', ⟨by first | omega | exact Nat.le_refl _⟩, ⟨by repeat (first | (with_reducible first | exact HB.out | apply below_alloc | apply pw_below_drewN | apply below_drew1) | exact HB.out)⟩⟩
    case rest =>
      clear HC8
      try clear c1
      try clear p2
      try clear c7
      try clear c10
      try clear c10b0
      try clear c10b1
      try clear c11
      try clear c11b0
      try clear c12
      try clear c12b0
      try clear c13
      try clear c13b0
      try clear c14
      try clear c14b0
      try clear c15
      try clear c15b0
      try clear c16
      try clear c16b0
      try clear c17
      try clear c17b0
      obtain ⟨kq, x53_7, rfl, HA, HJ7, HB⟩ := hcut
      cases kq with
      | zero => exact absurd HA.out (by simp [miradorlaw15_RegionShifts.j0])
      | succ kj7 =>
        have H := HA.out
        clear HA
        simp only [miradorlaw15_RegionShifts.j0] at H
        by_cases c18 : x53_7 = true
        · subst c18
          have H1 : (some true) = some r := by rw [if_pos rfl] at H; exact H
          clear H
          have H := H1
          clear H1
          obtain rfl := Option.some.inj H
          go_wp2
          go_ret
          exact ⟨by first | rfl | (simp [errW_none, errW_some] <;> rfl) | (simp [*, errW_none, errW_some] <;> rfl), by repeat (first | (with_reducible first | exact HB.out | apply below_alloc | apply pw_below_drewN | apply below_drew1) | exact HB.out)⟩
        · replace c18 := Bool.eq_false_iff.mpr c18
          subst c18
          have H1 : (miradorlaw15_RegionShifts.l0 kj7 l0 a1 a2 a3 a4 true 0) = some r := by rw [if_neg (show ¬ (false = true) by decide)] at H; exact H
          clear H
          have H := H1
          clear H1
          have H' := Aside0.mk H
          clear H
          go_wp2
          go_loopg [12] kj7 (fun kq v12 w' => ∃ (x12_2 : Int), v12 = .int .i64 x12_2 ∧ Aside0 (miradorlaw15_RegionShifts.l0 kq l0 a1 a2 a3 a4 true x12_2 = some r) ∧ Aside0 (kq ≤ kj7) ∧ Aside0 (Below w.heap.size w w'))
          case atStart => exact ⟨(0), (by first | rfl | (simp; done) | (simp [*]; done)), H', ⟨Nat.le_refl _⟩, ⟨by repeat (first | (with_reducible first | exact HB.out | apply below_alloc | apply pw_below_drewN | apply below_drew1) | exact HB.out)⟩⟩
          case round =>
            clear H'
            try clear c1
            try clear p2
            try clear c7
            try clear c10
            try clear c10b0
            try clear c10b1
            try clear c11
            try clear c11b0
            try clear c12
            try clear c12b0
            try clear c13
            try clear c13b0
            try clear c14
            try clear c14b0
            try clear c15
            try clear c15b0
            try clear c16
            try clear c16b0
            try clear c17
            try clear c17b0
            try clear c18
            try clear p2
            obtain ⟨x12_2, rfl, HA, HK2, HB⟩ := hrel
            cases gk with
            | zero => exact absurd HA.out (by simp [miradorlaw15_RegionShifts.l0])
            | succ k2 =>
              have H := HA.out
              clear HA
              simp only [miradorlaw15_RegionShifts.l0] at H
              by_cases c19 : x12_2 < (l0.length : Int)
              · rw [if_pos c19] at H
                have c19b0 : decide (x12_2 < (l0.length : Int)) = true := decide_eq_true c19
                clear c19
                by_cases c20 : 0 ≤ x12_2
                · rw [if_pos c20] at H
                  have c20b0 : decide (0 ≤ x12_2) = true := decide_eq_true c20
                  clear c20
                  by_cases c21 : ((rd_T26 l0 x12_2).f0) > 100000
                  · rw [if_pos c21] at H
                    have c21b0 : decide (100000 < ((rd_T26 l0 x12_2).f0)) = true := decide_eq_true c21
                    clear c21
                    obtain rfl := Option.some.inj H
                    have p545 : 0 ≤ (x12_2 : Int) := of_decide_eq_true (by first | (with_reducible assumption) | assumption)
                    have q545 : x12_2 < (l0.length : Int) := of_decide_eq_true (by first | (with_reducible assumption) | assumption)
                    obtain ⟨ad545, e545, hx545_0, hx545_1, hx545_2, hx545_3⟩ := at_T26 HR0.out x12_2 p545 q545
                    cases e545
                    replace hx545_0 := (HB.out.cell (World.block_lt_of_cell? w _ hx545_0)).trans hx545_0
                    replace hx545_1 := (HB.out.cell (World.block_lt_of_cell? w _ hx545_1)).trans hx545_1
                    replace hx545_2 := (HB.out.cell (World.block_lt_of_cell? w _ hx545_2)).trans hx545_2
                    replace hx545_3 := (HB.out.cell (World.block_lt_of_cell? w _ hx545_3)).trans hx545_3
                    replace p545 := eq_true p545
                    replace q545 := eq_true q545
                    go_wp2_with (first | ((with_reducible refine gate_dst (N := 13) rfl ?_); refine box_event ?hg (N := 13) ?hd (cs := #[.int .i64 0, .int .i64 0, .int .i64 0, .int .i64 0]) (t := 26) ?hr ?_; (case hd => rfl); (case hg => rfl); (case hr => first | (go_simp; done) | (go_simp; rfl)); intro gb546 hg w22 hbox hb; have n0_ := Aside0.mk (below_step (by repeat (first | (with_reducible first | exact HB.out | apply below_alloc | apply pw_below_drewN | apply below_drew1) | exact HB.out)) hb); have n1_ := Aside0.mk (hbox); have n2_ := Aside0.mk ((by rw [hg]; exact (below_size (by repeat (first | (with_reducible first | exact HB.out | apply below_alloc | apply pw_below_drewN | apply below_drew1) | exact HB.out))) : w.heap.size ≤ gb546)); have n3_ := Aside0.mk ((by rw [hg]; exact (below_size (by repeat (first | (with_reducible first | exact HB.out | apply below_alloc | apply pw_below_drewN | apply below_drew1) | exact HB.out))) : w.heap.size ≤ gb546)); clear HB; have HB := n0_; have BK546 := n1_; have GW546 := n2_; have GE546 := n3_; clear n0_ n1_ n2_ n3_; clear hb hbox hg; have hcz23_0 : w22.cell? ⟨gb546, 0, none⟩ = some (.int .i64 0) := (blk_cell BK546.out 0).trans rfl; have hcz23_1 : w22.cell? ⟨gb546, 1, none⟩ = some (.int .i64 0) := (blk_cell BK546.out 1).trans rfl; have hcz23_2 : w22.cell? ⟨gb546, 2, none⟩ = some (.int .i64 0) := (blk_cell BK546.out 2).trans rfl; have hcz23_3 : w22.cell? ⟨gb546, 3, none⟩ = some (.int .i64 0) := (blk_cell BK546.out 3).trans rfl; have hfz23_0 := blk_frozen BK546.out 0; have hfz23_1 := blk_frozen BK546.out 1; have hfz23_2 := blk_frozen BK546.out 2; have hfz23_3 := blk_frozen BK546.out 3))
                    go_ret
                    exact ⟨by first | rfl | (simp [errW_none, errW_some] <;> rfl) | (simp [*, errW_none, errW_some] <;> rfl), by repeat (first | (with_reducible first | exact HB.out | apply below_alloc | apply pw_below_drewN | apply below_drew1 | refine below_set ?_ GE546.out) | exact HB.out)⟩
                  · rw [if_neg c21] at H
                    have c21b0 : decide (100000 < ((rd_T26 l0 x12_2).f0)) = false := decide_eq_false c21
                    clear c21
                    by_cases c24 : ((rd_T26 l0 x12_2).f0) < (-100000)
                    · rw [if_pos c24] at H
                      have c24b0 : decide (((rd_T26 l0 x12_2).f0) < (-100000)) = true := decide_eq_true c24
                      clear c24
                      obtain rfl := Option.some.inj H
                      have p545 : 0 ≤ (x12_2 : Int) := of_decide_eq_true (by first | (with_reducible assumption) | assumption)
                      have q545 : x12_2 < (l0.length : Int) := of_decide_eq_true (by first | (with_reducible assumption) | assumption)
                      obtain ⟨ad545, e545, hx545_0, hx545_1, hx545_2, hx545_3⟩ := at_T26 HR0.out x12_2 p545 q545
                      cases e545
                      replace hx545_0 := (HB.out.cell (World.block_lt_of_cell? w _ hx545_0)).trans hx545_0
                      replace hx545_1 := (HB.out.cell (World.block_lt_of_cell? w _ hx545_1)).trans hx545_1
                      replace hx545_2 := (HB.out.cell (World.block_lt_of_cell? w _ hx545_2)).trans hx545_2
                      replace hx545_3 := (HB.out.cell (World.block_lt_of_cell? w _ hx545_3)).trans hx545_3
                      replace p545 := eq_true p545
                      replace q545 := eq_true q545
                      go_wp2_with (first | ((with_reducible refine gate_dst (N := 13) rfl ?_); refine box_event ?hg (N := 13) ?hd (cs := #[.int .i64 0, .int .i64 0, .int .i64 0, .int .i64 0]) (t := 26) ?hr ?_; (case hd => rfl); (case hg => rfl); (case hr => first | (go_simp; done) | (go_simp; rfl)); intro gb546 hg w25 hbox hb; have n0_ := Aside0.mk (below_step (by repeat (first | (with_reducible first | exact HB.out | apply below_alloc | apply pw_below_drewN | apply below_drew1) | exact HB.out)) hb); have n1_ := Aside0.mk (hbox); have n2_ := Aside0.mk ((by rw [hg]; exact (below_size (by repeat (first | (with_reducible first | exact HB.out | apply below_alloc | apply pw_below_drewN | apply below_drew1) | exact HB.out))) : w.heap.size ≤ gb546)); have n3_ := Aside0.mk ((by rw [hg]; exact (below_size (by repeat (first | (with_reducible first | exact HB.out | apply below_alloc | apply pw_below_drewN | apply below_drew1) | exact HB.out))) : w.heap.size ≤ gb546)); clear HB; have HB := n0_; have BK546 := n1_; have GW546 := n2_; have GE546 := n3_; clear n0_ n1_ n2_ n3_; clear hb hbox hg; have hcz26_0 : w25.cell? ⟨gb546, 0, none⟩ = some (.int .i64 0) := (blk_cell BK546.out 0).trans rfl; have hcz26_1 : w25.cell? ⟨gb546, 1, none⟩ = some (.int .i64 0) := (blk_cell BK546.out 1).trans rfl; have hcz26_2 : w25.cell? ⟨gb546, 2, none⟩ = some (.int .i64 0) := (blk_cell BK546.out 2).trans rfl; have hcz26_3 : w25.cell? ⟨gb546, 3, none⟩ = some (.int .i64 0) := (blk_cell BK546.out 3).trans rfl; have hfz26_0 := blk_frozen BK546.out 0; have hfz26_1 := blk_frozen BK546.out 1; have hfz26_2 := blk_frozen BK546.out 2; have hfz26_3 := blk_frozen BK546.out 3))
                      go_ret
                      exact ⟨by first | rfl | (simp [errW_none, errW_some] <;> rfl) | (simp [*, errW_none, errW_some] <;> rfl), by repeat (first | (with_reducible first | exact HB.out | apply below_alloc | apply pw_below_drewN | apply below_drew1 | refine below_set ?_ GE546.out) | exact HB.out)⟩
                    · rw [if_neg c24] at H
                      have c24b0 : decide (((rd_T26 l0 x12_2).f0) < (-100000)) = false := decide_eq_false c24
                      clear c24
                      by_cases c27 : ((rd_T26 l0 x12_2).f1) > 100000
                      · rw [if_pos c27] at H
                        have c27b0 : decide (100000 < ((rd_T26 l0 x12_2).f1)) = true := decide_eq_true c27
                        clear c27
                        obtain rfl := Option.some.inj H
                        have p545 : 0 ≤ (x12_2 : Int) := of_decide_eq_true (by first | (with_reducible assumption) | assumption)
                        have q545 : x12_2 < (l0.length : Int) := of_decide_eq_true (by first | (with_reducible assumption) | assumption)
                        obtain ⟨ad545, e545, hx545_0, hx545_1, hx545_2, hx545_3⟩ := at_T26 HR0.out x12_2 p545 q545
                        cases e545
                        replace hx545_0 := (HB.out.cell (World.block_lt_of_cell? w _ hx545_0)).trans hx545_0
                        replace hx545_1 := (HB.out.cell (World.block_lt_of_cell? w _ hx545_1)).trans hx545_1
                        replace hx545_2 := (HB.out.cell (World.block_lt_of_cell? w _ hx545_2)).trans hx545_2
                        replace hx545_3 := (HB.out.cell (World.block_lt_of_cell? w _ hx545_3)).trans hx545_3
                        replace p545 := eq_true p545
                        replace q545 := eq_true q545
                        go_wp2_with (first | ((with_reducible refine gate_dst (N := 13) rfl ?_); refine box_event ?hg (N := 13) ?hd (cs := #[.int .i64 0, .int .i64 0, .int .i64 0, .int .i64 0]) (t := 26) ?hr ?_; (case hd => rfl); (case hg => rfl); (case hr => first | (go_simp; done) | (go_simp; rfl)); intro gb546 hg w28 hbox hb; have n0_ := Aside0.mk (below_step (by repeat (first | (with_reducible first | exact HB.out | apply below_alloc | apply pw_below_drewN | apply below_drew1) | exact HB.out)) hb); have n1_ := Aside0.mk (hbox); have n2_ := Aside0.mk ((by rw [hg]; exact (below_size (by repeat (first | (with_reducible first | exact HB.out | apply below_alloc | apply pw_below_drewN | apply below_drew1) | exact HB.out))) : w.heap.size ≤ gb546)); have n3_ := Aside0.mk ((by rw [hg]; exact (below_size (by repeat (first | (with_reducible first | exact HB.out | apply below_alloc | apply pw_below_drewN | apply below_drew1) | exact HB.out))) : w.heap.size ≤ gb546)); clear HB; have HB := n0_; have BK546 := n1_; have GW546 := n2_; have GE546 := n3_; clear n0_ n1_ n2_ n3_; clear hb hbox hg; have hcz29_0 : w28.cell? ⟨gb546, 0, none⟩ = some (.int .i64 0) := (blk_cell BK546.out 0).trans rfl; have hcz29_1 : w28.cell? ⟨gb546, 1, none⟩ = some (.int .i64 0) := (blk_cell BK546.out 1).trans rfl; have hcz29_2 : w28.cell? ⟨gb546, 2, none⟩ = some (.int .i64 0) := (blk_cell BK546.out 2).trans rfl; have hcz29_3 : w28.cell? ⟨gb546, 3, none⟩ = some (.int .i64 0) := (blk_cell BK546.out 3).trans rfl; have hfz29_0 := blk_frozen BK546.out 0; have hfz29_1 := blk_frozen BK546.out 1; have hfz29_2 := blk_frozen BK546.out 2; have hfz29_3 := blk_frozen BK546.out 3))
                        go_ret
                        exact ⟨by first | rfl | (simp [errW_none, errW_some] <;> rfl) | (simp [*, errW_none, errW_some] <;> rfl), by repeat (first | (with_reducible first | exact HB.out | apply below_alloc | apply pw_below_drewN | apply below_drew1 | refine below_set ?_ GE546.out) | exact HB.out)⟩
                      · rw [if_neg c27] at H
                        have c27b0 : decide (100000 < ((rd_T26 l0 x12_2).f1)) = false := decide_eq_false c27
                        clear c27
                        by_cases c30 : ((rd_T26 l0 x12_2).f1) < (-100000)
                        · rw [if_pos c30] at H
                          have c30b0 : decide (((rd_T26 l0 x12_2).f1) < (-100000)) = true := decide_eq_true c30
                          clear c30
                          obtain rfl := Option.some.inj H
                          have p545 : 0 ≤ (x12_2 : Int) := of_decide_eq_true (by first | (with_reducible assumption) | assumption)
                          have q545 : x12_2 < (l0.length : Int) := of_decide_eq_true (by first | (with_reducible assumption) | assumption)
                          obtain ⟨ad545, e545, hx545_0, hx545_1, hx545_2, hx545_3⟩ := at_T26 HR0.out x12_2 p545 q545
                          cases e545
                          replace hx545_0 := (HB.out.cell (World.block_lt_of_cell? w _ hx545_0)).trans hx545_0
                          replace hx545_1 := (HB.out.cell (World.block_lt_of_cell? w _ hx545_1)).trans hx545_1
                          replace hx545_2 := (HB.out.cell (World.block_lt_of_cell? w _ hx545_2)).trans hx545_2
                          replace hx545_3 := (HB.out.cell (World.block_lt_of_cell? w _ hx545_3)).trans hx545_3
                          replace p545 := eq_true p545
                          replace q545 := eq_true q545
                          go_wp2_with (first | ((with_reducible refine gate_dst (N := 13) rfl ?_); refine box_event ?hg (N := 13) ?hd (cs := #[.int .i64 0, .int .i64 0, .int .i64 0, .int .i64 0]) (t := 26) ?hr ?_; (case hd => rfl); (case hg => rfl); (case hr => first | (go_simp; done) | (go_simp; rfl)); intro gb546 hg w31 hbox hb; have n0_ := Aside0.mk (below_step (by repeat (first | (with_reducible first | exact HB.out | apply below_alloc | apply pw_below_drewN | apply below_drew1) | exact HB.out)) hb); have n1_ := Aside0.mk (hbox); have n2_ := Aside0.mk ((by rw [hg]; exact (below_size (by repeat (first | (with_reducible first | exact HB.out | apply below_alloc | apply pw_below_drewN | apply below_drew1) | exact HB.out))) : w.heap.size ≤ gb546)); have n3_ := Aside0.mk ((by rw [hg]; exact (below_size (by repeat (first | (with_reducible first | exact HB.out | apply below_alloc | apply pw_below_drewN | apply below_drew1) | exact HB.out))) : w.heap.size ≤ gb546)); clear HB; have HB := n0_; have BK546 := n1_; have GW546 := n2_; have GE546 := n3_; clear n0_ n1_ n2_ n3_; clear hb hbox hg; have hcz32_0 : w31.cell? ⟨gb546, 0, none⟩ = some (.int .i64 0) := (blk_cell BK546.out 0).trans rfl; have hcz32_1 : w31.cell? ⟨gb546, 1, none⟩ = some (.int .i64 0) := (blk_cell BK546.out 1).trans rfl; have hcz32_2 : w31.cell? ⟨gb546, 2, none⟩ = some (.int .i64 0) := (blk_cell BK546.out 2).trans rfl; have hcz32_3 : w31.cell? ⟨gb546, 3, none⟩ = some (.int .i64 0) := (blk_cell BK546.out 3).trans rfl; have hfz32_0 := blk_frozen BK546.out 0; have hfz32_1 := blk_frozen BK546.out 1; have hfz32_2 := blk_frozen BK546.out 2; have hfz32_3 := blk_frozen BK546.out 3))
                          go_ret
                          exact ⟨by first | rfl | (simp [errW_none, errW_some] <;> rfl) | (simp [*, errW_none, errW_some] <;> rfl), by repeat (first | (with_reducible first | exact HB.out | apply below_alloc | apply pw_below_drewN | apply below_drew1 | refine below_set ?_ GE546.out) | exact HB.out)⟩
                        · rw [if_neg c30] at H
                          have c30b0 : decide (((rd_T26 l0 x12_2).f1) < (-100000)) = false := decide_eq_false c30
                          clear c30
                          by_cases c33 : ((rd_T26 l0 x12_2).f2) > 100000
                          · rw [if_pos c33] at H
                            have c33b0 : decide (100000 < ((rd_T26 l0 x12_2).f2)) = true := decide_eq_true c33
                            clear c33
                            obtain rfl := Option.some.inj H
                            have p545 : 0 ≤ (x12_2 : Int) := of_decide_eq_true (by first | (with_reducible assumption) | assumption)
                            have q545 : x12_2 < (l0.length : Int) := of_decide_eq_true (by first | (with_reducible assumption) | assumption)
                            obtain ⟨ad545, e545, hx545_0, hx545_1, hx545_2, hx545_3⟩ := at_T26 HR0.out x12_2 p545 q545
                            cases e545
                            replace hx545_0 := (HB.out.cell (World.block_lt_of_cell? w _ hx545_0)).trans hx545_0
                            replace hx545_1 := (HB.out.cell (World.block_lt_of_cell? w _ hx545_1)).trans hx545_1
                            replace hx545_2 := (HB.out.cell (World.block_lt_of_cell? w _ hx545_2)).trans hx545_2
                            replace hx545_3 := (HB.out.cell (World.block_lt_of_cell? w _ hx545_3)).trans hx545_3
                            replace p545 := eq_true p545
                            replace q545 := eq_true q545
                            go_wp2_with (first | ((with_reducible refine gate_dst (N := 13) rfl ?_); refine box_event ?hg (N := 13) ?hd (cs := #[.int .i64 0, .int .i64 0, .int .i64 0, .int .i64 0]) (t := 26) ?hr ?_; (case hd => rfl); (case hg => rfl); (case hr => first | (go_simp; done) | (go_simp; rfl)); intro gb546 hg w34 hbox hb; have n0_ := Aside0.mk (below_step (by repeat (first | (with_reducible first | exact HB.out | apply below_alloc | apply pw_below_drewN | apply below_drew1) | exact HB.out)) hb); have n1_ := Aside0.mk (hbox); have n2_ := Aside0.mk ((by rw [hg]; exact (below_size (by repeat (first | (with_reducible first | exact HB.out | apply below_alloc | apply pw_below_drewN | apply below_drew1) | exact HB.out))) : w.heap.size ≤ gb546)); have n3_ := Aside0.mk ((by rw [hg]; exact (below_size (by repeat (first | (with_reducible first | exact HB.out | apply below_alloc | apply pw_below_drewN | apply below_drew1) | exact HB.out))) : w.heap.size ≤ gb546)); clear HB; have HB := n0_; have BK546 := n1_; have GW546 := n2_; have GE546 := n3_; clear n0_ n1_ n2_ n3_; clear hb hbox hg; have hcz35_0 : w34.cell? ⟨gb546, 0, none⟩ = some (.int .i64 0) := (blk_cell BK546.out 0).trans rfl; have hcz35_1 : w34.cell? ⟨gb546, 1, none⟩ = some (.int .i64 0) := (blk_cell BK546.out 1).trans rfl; have hcz35_2 : w34.cell? ⟨gb546, 2, none⟩ = some (.int .i64 0) := (blk_cell BK546.out 2).trans rfl; have hcz35_3 : w34.cell? ⟨gb546, 3, none⟩ = some (.int .i64 0) := (blk_cell BK546.out 3).trans rfl; have hfz35_0 := blk_frozen BK546.out 0; have hfz35_1 := blk_frozen BK546.out 1; have hfz35_2 := blk_frozen BK546.out 2; have hfz35_3 := blk_frozen BK546.out 3))
                            go_ret
                            exact ⟨by first | rfl | (simp [errW_none, errW_some] <;> rfl) | (simp [*, errW_none, errW_some] <;> rfl), by repeat (first | (with_reducible first | exact HB.out | apply below_alloc | apply pw_below_drewN | apply below_drew1 | refine below_set ?_ GE546.out) | exact HB.out)⟩
                          · rw [if_neg c33] at H
                            have c33b0 : decide (100000 < ((rd_T26 l0 x12_2).f2)) = false := decide_eq_false c33
                            clear c33
                            by_cases c36 : ((rd_T26 l0 x12_2).f3) > 100000
                            · rw [if_pos c36] at H
                              have c36b0 : decide (100000 < ((rd_T26 l0 x12_2).f3)) = true := decide_eq_true c36
                              clear c36
                              obtain rfl := Option.some.inj H
                              have p545 : 0 ≤ (x12_2 : Int) := of_decide_eq_true (by first | (with_reducible assumption) | assumption)
                              have q545 : x12_2 < (l0.length : Int) := of_decide_eq_true (by first | (with_reducible assumption) | assumption)
                              obtain ⟨ad545, e545, hx545_0, hx545_1, hx545_2, hx545_3⟩ := at_T26 HR0.out x12_2 p545 q545
                              cases e545
                              replace hx545_0 := (HB.out.cell (World.block_lt_of_cell? w _ hx545_0)).trans hx545_0
                              replace hx545_1 := (HB.out.cell (World.block_lt_of_cell? w _ hx545_1)).trans hx545_1
                              replace hx545_2 := (HB.out.cell (World.block_lt_of_cell? w _ hx545_2)).trans hx545_2
                              replace hx545_3 := (HB.out.cell (World.block_lt_of_cell? w _ hx545_3)).trans hx545_3
                              replace p545 := eq_true p545
                              replace q545 := eq_true q545
                              go_wp2_with (first | ((with_reducible refine gate_dst (N := 13) rfl ?_); refine box_event ?hg (N := 13) ?hd (cs := #[.int .i64 0, .int .i64 0, .int .i64 0, .int .i64 0]) (t := 26) ?hr ?_; (case hd => rfl); (case hg => rfl); (case hr => first | (go_simp; done) | (go_simp; rfl)); intro gb546 hg w37 hbox hb; have n0_ := Aside0.mk (below_step (by repeat (first | (with_reducible first | exact HB.out | apply below_alloc | apply pw_below_drewN | apply below_drew1) | exact HB.out)) hb); have n1_ := Aside0.mk (hbox); have n2_ := Aside0.mk ((by rw [hg]; exact (below_size (by repeat (first | (with_reducible first | exact HB.out | apply below_alloc | apply pw_below_drewN | apply below_drew1) | exact HB.out))) : w.heap.size ≤ gb546)); have n3_ := Aside0.mk ((by rw [hg]; exact (below_size (by repeat (first | (with_reducible first | exact HB.out | apply below_alloc | apply pw_below_drewN | apply below_drew1) | exact HB.out))) : w.heap.size ≤ gb546)); clear HB; have HB := n0_; have BK546 := n1_; have GW546 := n2_; have GE546 := n3_; clear n0_ n1_ n2_ n3_; clear hb hbox hg; have hcz38_0 : w37.cell? ⟨gb546, 0, none⟩ = some (.int .i64 0) := (blk_cell BK546.out 0).trans rfl; have hcz38_1 : w37.cell? ⟨gb546, 1, none⟩ = some (.int .i64 0) := (blk_cell BK546.out 1).trans rfl; have hcz38_2 : w37.cell? ⟨gb546, 2, none⟩ = some (.int .i64 0) := (blk_cell BK546.out 2).trans rfl; have hcz38_3 : w37.cell? ⟨gb546, 3, none⟩ = some (.int .i64 0) := (blk_cell BK546.out 3).trans rfl; have hfz38_0 := blk_frozen BK546.out 0; have hfz38_1 := blk_frozen BK546.out 1; have hfz38_2 := blk_frozen BK546.out 2; have hfz38_3 := blk_frozen BK546.out 3))
                              go_ret
                              exact ⟨by first | rfl | (simp [errW_none, errW_some] <;> rfl) | (simp [*, errW_none, errW_some] <;> rfl), by repeat (first | (with_reducible first | exact HB.out | apply below_alloc | apply pw_below_drewN | apply below_drew1 | refine below_set ?_ GE546.out) | exact HB.out)⟩
                            · rw [if_neg c36] at H
                              have c36b0 : decide (100000 < ((rd_T26 l0 x12_2).f3)) = false := decide_eq_false c36
                              clear c36
                              have H' := Aside0.mk H
                              clear H
                              have p545 : 0 ≤ (x12_2 : Int) := of_decide_eq_true (by first | (with_reducible assumption) | assumption)
                              have q545 : x12_2 < (l0.length : Int) := of_decide_eq_true (by first | (with_reducible assumption) | assumption)
                              obtain ⟨ad545, e545, hx545_0, hx545_1, hx545_2, hx545_3⟩ := at_T26 HR0.out x12_2 p545 q545
                              cases e545
                              replace hx545_0 := (HB.out.cell (World.block_lt_of_cell? w _ hx545_0)).trans hx545_0
                              replace hx545_1 := (HB.out.cell (World.block_lt_of_cell? w _ hx545_1)).trans hx545_1
                              replace hx545_2 := (HB.out.cell (World.block_lt_of_cell? w _ hx545_2)).trans hx545_2
                              replace hx545_3 := (HB.out.cell (World.block_lt_of_cell? w _ hx545_3)).trans hx545_3
                              replace p545 := eq_true p545
                              replace q545 := eq_true q545
                              go_wp2_with (first | ((with_reducible refine gate_dst (N := 13) rfl ?_); refine box_event ?hg (N := 13) ?hd (cs := #[.int .i64 0, .int .i64 0, .int .i64 0, .int .i64 0]) (t := 26) ?hr ?_; (case hd => rfl); (case hg => rfl); (case hr => first | (go_simp; done) | (go_simp; rfl)); intro gb546 hg w39 hbox hb; have n0_ := Aside0.mk (below_step (by repeat (first | (with_reducible first | exact HB.out | apply below_alloc | apply pw_below_drewN | apply below_drew1) | exact HB.out)) hb); have n1_ := Aside0.mk (hbox); have n2_ := Aside0.mk ((by rw [hg]; exact (below_size (by repeat (first | (with_reducible first | exact HB.out | apply below_alloc | apply pw_below_drewN | apply below_drew1) | exact HB.out))) : w.heap.size ≤ gb546)); have n3_ := Aside0.mk ((by rw [hg]; exact (below_size (by repeat (first | (with_reducible first | exact HB.out | apply below_alloc | apply pw_below_drewN | apply below_drew1) | exact HB.out))) : w.heap.size ≤ gb546)); clear HB; have HB := n0_; have BK546 := n1_; have GW546 := n2_; have GE546 := n3_; clear n0_ n1_ n2_ n3_; clear hb hbox hg; have hcz40_0 : w39.cell? ⟨gb546, 0, none⟩ = some (.int .i64 0) := (blk_cell BK546.out 0).trans rfl; have hcz40_1 : w39.cell? ⟨gb546, 1, none⟩ = some (.int .i64 0) := (blk_cell BK546.out 1).trans rfl; have hcz40_2 : w39.cell? ⟨gb546, 2, none⟩ = some (.int .i64 0) := (blk_cell BK546.out 2).trans rfl; have hcz40_3 : w39.cell? ⟨gb546, 3, none⟩ = some (.int .i64 0) := (blk_cell BK546.out 3).trans rfl; have hfz40_0 := blk_frozen BK546.out 0; have hfz40_1 := blk_frozen BK546.out 1; have hfz40_2 := blk_frozen BK546.out 2; have hfz40_3 := blk_frozen BK546.out 3))
                              go_roundg k2
                              case measure => have := HJ7.out; have := HK2.out; omega
                              case rel => exact ⟨(wrap64 (x12_2 + 1)), (by first | rfl | (simp; done) | (simp [*]; done)), H', ⟨by have := HJ7.out; have := HK2.out; omega⟩, ⟨by repeat (first | (with_reducible first | exact HB.out | apply below_alloc | apply pw_below_drewN | apply below_drew1 | refine below_set ?_ GE546.out) | exact HB.out)⟩⟩
                · rw [if_neg c20] at H
                  exact absurd H (by simp)
              · rw [if_neg c19] at H
                have c19b0 : decide (x12_2 < (l0.length : Int)) = false := decide_eq_false c19
                clear c19
                replace H := Option.bind_eq_some_iff.mp H
                obtain ⟨t547, A410, H⟩ := H
                replace H : ((region_Shift.f k2 t547 (wrap64 (-a1)) (wrap64 (-a2))).bind fun t550 => ((region_Make.f l0).bind fun t553 => ((miradorref15_Same.f k2 t550 t553).bind fun t556 => (if true = true then (if t556 = true then ((region_Has.f k2 t547 (wrap64 (a3 + a1)) (wrap64 (a4 + a2))).bind fun t557 => ((region_Has.f k2 l0 a3 a4).bind fun t558 => (if (t557 == t558) = true then ((region_Area.f k2 t547).bind fun t559 => ((region_Area.f k2 l0).bind fun t560 => (some (t559 == t560)))) else (some false)))) else (some false)) else (some false))))) = some r := H
                have A41 := Aside0.mk A410
                clear A410
                replace H := Option.bind_eq_some_iff.mp H
                obtain ⟨t550, A420, H⟩ := H
                replace H : ((region_Make.f l0).bind fun t553 => ((miradorref15_Same.f k2 t550 t553).bind fun t556 => (if true = true then (if t556 = true then ((region_Has.f k2 t547 (wrap64 (a3 + a1)) (wrap64 (a4 + a2))).bind fun t557 => ((region_Has.f k2 l0 a3 a4).bind fun t558 => (if (t557 == t558) = true then ((region_Area.f k2 t547).bind fun t559 => ((region_Area.f k2 l0).bind fun t560 => (some (t559 == t560)))) else (some false)))) else (some false)) else (some false)))) = some r := H
                have A42 := Aside0.mk A420
                clear A420
                replace H := Option.bind_eq_some_iff.mp H
                obtain ⟨t553, A430, H⟩ := H
                replace H : ((miradorref15_Same.f k2 t550 t553).bind fun t556 => (if true = true then (if t556 = true then ((region_Has.f k2 t547 (wrap64 (a3 + a1)) (wrap64 (a4 + a2))).bind fun t557 => ((region_Has.f k2 l0 a3 a4).bind fun t558 => (if (t557 == t558) = true then ((region_Area.f k2 t547).bind fun t559 => ((region_Area.f k2 l0).bind fun t560 => (some (t559 == t560)))) else (some false)))) else (some false)) else (some false))) = some r := H
                have A43 := Aside0.mk A430
                clear A430
                replace H := Option.bind_eq_some_iff.mp H
                obtain ⟨t556, A440, H⟩ := H
                replace H : (if true = true then (if t556 = true then ((region_Has.f k2 t547 (wrap64 (a3 + a1)) (wrap64 (a4 + a2))).bind fun t557 => ((region_Has.f k2 l0 a3 a4).bind fun t558 => (if (t557 == t558) = true then ((region_Area.f k2 t547).bind fun t559 => ((region_Area.f k2 l0).bind fun t560 => (some (t559 == t560)))) else (some false)))) else (some false)) else (some false)) = some r := H
                have A44 := Aside0.mk A440
                clear A440
                have H1 : (if t556 = true then ((region_Has.f k2 t547 (wrap64 (a3 + a1)) (wrap64 (a4 + a2))).bind fun t557 => ((region_Has.f k2 l0 a3 a4).bind fun t558 => (if (t557 == t558) = true then ((region_Area.f k2 t547).bind fun t559 => ((region_Area.f k2 l0).bind fun t560 => (some (t559 == t560)))) else (some false)))) else (some false)) = some r := by (first | rw [if_pos rfl] at H | rw [if_pos trivial] at H); exact H
                clear H
                have H := H1
                clear H1
                by_cases c45 : t556 = true
                · subst c45
                  have H1 : ((region_Has.f k2 t547 (wrap64 (a3 + a1)) (wrap64 (a4 + a2))).bind fun t557 => ((region_Has.f k2 l0 a3 a4).bind fun t558 => (if (t557 == t558) = true then ((region_Area.f k2 t547).bind fun t559 => ((region_Area.f k2 l0).bind fun t560 => (some (t559 == t560)))) else (some false)))) = some r := by rw [if_pos rfl] at H; exact H
                  clear H
                  have H := H1
                  clear H1
                  replace H := Option.bind_eq_some_iff.mp H
                  obtain ⟨t557, A460, H⟩ := H
                  replace H : ((region_Has.f k2 l0 a3 a4).bind fun t558 => (if (t557 == t558) = true then ((region_Area.f k2 t547).bind fun t559 => ((region_Area.f k2 l0).bind fun t560 => (some (t559 == t560)))) else (some false))) = some r := H
                  have A46 := Aside0.mk A460
                  clear A460
                  replace H := Option.bind_eq_some_iff.mp H
                  obtain ⟨t558, A470, H⟩ := H
                  replace H : (if (t557 == t558) = true then ((region_Area.f k2 t547).bind fun t559 => ((region_Area.f k2 l0).bind fun t560 => (some (t559 == t560)))) else (some false)) = some r := H
                  have A47 := Aside0.mk A470
                  clear A470
                  by_cases c48 : (t557 == t558) = true
                  · rw [if_pos c48] at H
                    have c48b0 : (t557 == t558) = true := c48
                    (try (have c48b1 : decide (t557 = t558) = true := by simpa using c48))
                    (try (have c48b2 : (t557 == t558) = true := by simpa using c48))
                    clear c48
                    replace H := Option.bind_eq_some_iff.mp H
                    obtain ⟨t559, A490, H⟩ := H
                    replace H : ((region_Area.f k2 l0).bind fun t560 => (some (t559 == t560))) = some r := H
                    have A49 := Aside0.mk A490
                    clear A490
                    replace H := Option.bind_eq_some_iff.mp H
                    obtain ⟨t560, A500, H⟩ := H
                    replace H : (some (t559 == t560)) = some r := H
                    have A50 := Aside0.mk A500
                    clear A500
                    obtain rfl := Option.some.inj H
                    go_wp2_with (first | ((with_reducible refine gate_callee (f := 19) rfl ?_); refine goesL_ (some 97) rfl rfl Try.func19 (by kernel_rfl) rfl #[.slice A0 l0.length c0, .int .i64 a1, .int .i64 a2] rfl (by (try simp only [List.map_toArray, List.map_cons, List.map_nil]); first | done | rfl | (simp only [List.length_drop, List.length_take]; rfl)) ?_; (with_reducible refine (region_Shift.calls k2 _ _ l0 a1 a2 t547 _ ?side1 ?side2 A41.out).mono ?_); (case side1 => repeat (first | exact (Kd.C_below HR0.out HB.out) | (with_reducible refine Kd.C_alloc ?_ _) | (with_reducible refine Kd.C_drewN ?_ _) | (with_reducible refine Kd.C_drew ?_))); (case side2 => exact HC0.out); rintro e w51 ⟨v548, rfl, ho0, hb⟩; refine ⟨_, rfl, ?_⟩; have n0_ := Aside0.mk (Kd.R_lower ho0 (below_size (by repeat (first | (with_reducible first | exact HB.out | apply below_alloc | apply pw_below_drewN | apply below_drew1) | exact HB.out)))); have n1_ := Aside0.mk (below_step (by repeat (first | (with_reducible first | exact HB.out | apply below_alloc | apply pw_below_drewN | apply below_drew1) | exact HB.out)) hb); clear HB; have HO549 := n0_; have HB := n1_; clear n0_ n1_; (try clear hb); (try clear hb2); (try clear hk); (try clear hi); (try clear ho0); obtain ⟨Ao52, co52, eo52⟩ := Kd.R_slice HO549.out; subst eo52) | ((with_reducible refine gate_callee (f := 19) rfl ?_); refine goesL_ (some 103) rfl rfl Try.func19 (by kernel_rfl) rfl #[.slice Ao52 t547.length co52, .int .i64 (wrap64 (-a1)), .int .i64 (wrap64 (-a2))] rfl (by (try simp only [List.map_toArray, List.map_cons, List.map_nil]); first | done | rfl | (simp only [List.length_drop, List.length_take]; rfl)) ?_; (with_reducible refine (region_Shift.calls k2 _ _ t547 (wrap64 (-a1)) (wrap64 (-a2)) t550 _ ?side1 ?side2 A42.out).mono ?_); (case side1 => repeat (first | exact (Kd.R_reads' HO549.out).2.2 | (with_reducible refine Kd.C_alloc ?_ _) | (with_reducible refine Kd.C_drewN ?_ _) | (with_reducible refine Kd.C_drew ?_))); (case side2 => exact (Kd.R_reads' HO549.out).2.1); rintro e w53 ⟨v551, rfl, ho0, hb⟩; refine ⟨_, rfl, ?_⟩; have n0_ := Aside0.mk (Kd.R_elder' (by (with_reducible repeat (first | apply Kd.R_alloc | apply Kd.R_drewN | apply Kd.R_drew)); exact HO549.out) (Kd.R_base ho0) hb); have n1_ := Aside0.mk (Kd.R_lower (Kd.R_new' ho0 (Kd.R_lt (by (with_reducible repeat (first | apply Kd.R_alloc | apply Kd.R_drewN | apply Kd.R_drew)); exact HO549.out))) (below_size (by repeat (first | (with_reducible first | exact HB.out | apply below_alloc | apply pw_below_drewN | apply below_drew1) | exact HB.out)))); have n2_ := Aside0.mk (below_step (by repeat (first | (with_reducible first | exact HB.out | apply below_alloc | apply pw_below_drewN | apply below_drew1) | exact HB.out)) hb); clear HO549; clear HB; have HO549 := n0_; have HO552 := n1_; have HB := n2_; clear n0_ n1_ n2_; (try clear hb); (try clear hb2); (try clear hk); (try clear hi); (try clear ho0)) | ((with_reducible refine gate_callee (f := 11) rfl ?_); refine goesL_ (some 105) rfl rfl Try.func11 (by kernel_rfl) rfl #[.slice A0 l0.length c0] rfl (by (try simp only [List.map_toArray, List.map_cons, List.map_nil]); first | done | rfl | (simp only [List.length_drop, List.length_take]; rfl)) ?_; (with_reducible refine (region_Make.calls _ _ l0 t553 _ ?side1 ?side2 A43.out).mono ?_); (case side1 => repeat (first | exact (Kd.C_below HR0.out HB.out) | (with_reducible refine Kd.C_alloc ?_ _) | (with_reducible refine Kd.C_drewN ?_ _) | (with_reducible refine Kd.C_drew ?_))); (case side2 => exact HC0.out); rintro e w54 ⟨v554, rfl, ho0, hb⟩; refine ⟨_, rfl, ?_⟩; have n0_ := Aside0.mk (Kd.R_elder' (by (with_reducible repeat (first | apply Kd.R_alloc | apply Kd.R_drewN | apply Kd.R_drew)); exact HO549.out) (Kd.R_base ho0) hb); have n1_ := Aside0.mk (Kd.R_elder' (by (with_reducible repeat (first | apply Kd.R_alloc | apply Kd.R_drewN | apply Kd.R_drew)); exact HO552.out) (Kd.R_base ho0) hb); have n2_ := Aside0.mk (Kd.R_lower (Kd.R_new' (Kd.R_new' ho0 (Kd.R_lt (by (with_reducible repeat (first | apply Kd.R_alloc | apply Kd.R_drewN | apply Kd.R_drew)); exact HO549.out))) (Kd.R_lt (by (with_reducible repeat (first | apply Kd.R_alloc | apply Kd.R_drewN | apply Kd.R_drew)); exact HO552.out))) (below_size (by repeat (first | (with_reducible first | exact HB.out | apply below_alloc | apply pw_below_drewN | apply below_drew1) | exact HB.out)))); have n3_ := Aside0.mk (below_step (by repeat (first | (with_reducible first | exact HB.out | apply below_alloc | apply pw_below_drewN | apply below_drew1) | exact HB.out)) hb); clear HO549; clear HO552; clear HB; have HO549 := n0_; have HO552 := n1_; have HO555 := n2_; have HB := n3_; clear n0_ n1_ n2_ n3_; (try clear hb); (try clear hb2); (try clear hk); (try clear hi); (try clear ho0); obtain ⟨Ao55, co55, eo55⟩ := Kd.R_slice HO552.out; subst eo55; obtain ⟨Ao56, co56, eo56⟩ := Kd.R_slice HO555.out; subst eo56) | ((with_reducible refine gate_callee (f := 12) rfl ?_); refine goesL_ (some 106) rfl rfl Try.func12 (by kernel_rfl) rfl #[.slice Ao55 t550.length co55, .slice Ao56 t553.length co56] rfl (by (try simp only [List.map_toArray, List.map_cons, List.map_nil]); first | done | rfl | (simp only [List.length_drop, List.length_take]; rfl)) ?_; (with_reducible refine (miradorref15_Same.calls k2 _ _ t550 _ _ t553 true _ ?side1 ?side2 ?side3 ?side4 A44.out).mono ?_); (case side1 => repeat (first | exact (Kd.R_reads' HO552.out).2.2 | (with_reducible refine Kd.C_alloc ?_ _) | (with_reducible refine Kd.C_drewN ?_ _) | (with_reducible refine Kd.C_drew ?_))); (case side2 => exact (Kd.R_reads' HO552.out).2.1); (case side3 => repeat (first | exact (Kd.R_reads' HO555.out).2.2 | (with_reducible refine Kd.C_alloc ?_ _) | (with_reducible refine Kd.C_drewN ?_ _) | (with_reducible refine Kd.C_drew ?_))); (case side4 => exact (Kd.R_reads' HO555.out).2.1); rintro e w57 ⟨rfl, hb⟩; refine ⟨_, rfl, ?_⟩; have n0_ := Aside0.mk (Kd.R_below (by (with_reducible repeat (first | apply Kd.R_alloc | apply Kd.R_drewN | apply Kd.R_drew)); exact HO549.out) hb); have n1_ := Aside0.mk (Kd.R_below (by (with_reducible repeat (first | apply Kd.R_alloc | apply Kd.R_drewN | apply Kd.R_drew)); exact HO552.out) hb); have n2_ := Aside0.mk (Kd.R_below (by (with_reducible repeat (first | apply Kd.R_alloc | apply Kd.R_drewN | apply Kd.R_drew)); exact HO555.out) hb); have n3_ := Aside0.mk (below_step (by repeat (first | (with_reducible first | exact HB.out | apply below_alloc | apply pw_below_drewN | apply below_drew1) | exact HB.out)) hb); clear HO549; clear HO552; clear HO555; clear HB; have HO549 := n0_; have HO552 := n1_; have HO555 := n2_; have HB := n3_; clear n0_ n1_ n2_ n3_; (try clear hb); (try clear hb2); (try clear hk); (try clear hi)) | (go_at_call 18; (with_reducible refine (region_Has.calls k2 _ _ t547 (wrap64 (a3 + a1)) (wrap64 (a4 + a2)) t557 _ ?side1 ?side2 A46.out).mono ?_); (case side1 => repeat (first | exact (Kd.R_reads' HO549.out).2.2 | (with_reducible refine Kd.C_alloc ?_ _) | (with_reducible refine Kd.C_drewN ?_ _) | (with_reducible refine Kd.C_drew ?_))); (case side2 => exact (Kd.R_reads' HO549.out).2.1); rintro e w58 ⟨rfl, hb⟩; have n0_ := Aside0.mk (Kd.R_below (by (with_reducible repeat (first | apply Kd.R_alloc | apply Kd.R_drewN | apply Kd.R_drew)); exact HO549.out) hb); have n1_ := Aside0.mk (Kd.R_below (by (with_reducible repeat (first | apply Kd.R_alloc | apply Kd.R_drewN | apply Kd.R_drew)); exact HO552.out) hb); have n2_ := Aside0.mk (Kd.R_below (by (with_reducible repeat (first | apply Kd.R_alloc | apply Kd.R_drewN | apply Kd.R_drew)); exact HO555.out) hb); have n3_ := Aside0.mk (below_step (by repeat (first | (with_reducible first | exact HB.out | apply below_alloc | apply pw_below_drewN | apply below_drew1) | exact HB.out)) hb); clear HO549; clear HO552; clear HO555; clear HB; have HO549 := n0_; have HO552 := n1_; have HO555 := n2_; have HB := n3_; clear n0_ n1_ n2_ n3_; (try clear hb); (try clear hb2); (try clear hk); (try clear hi)) | (go_at_call 18; (with_reducible refine (region_Has.calls k2 _ _ l0 a3 a4 t558 _ ?side1 ?side2 A47.out).mono ?_); (case side1 => repeat (first | exact (Kd.C_below HR0.out HB.out) | (with_reducible refine Kd.C_alloc ?_ _) | (with_reducible refine Kd.C_drewN ?_ _) | (with_reducible refine Kd.C_drew ?_))); (case side2 => exact HC0.out); rintro e w59 ⟨rfl, hb⟩; have n0_ := Aside0.mk (Kd.R_below (by (with_reducible repeat (first | apply Kd.R_alloc | apply Kd.R_drewN | apply Kd.R_drew)); exact HO549.out) hb); have n1_ := Aside0.mk (Kd.R_below (by (with_reducible repeat (first | apply Kd.R_alloc | apply Kd.R_drewN | apply Kd.R_drew)); exact HO552.out) hb); have n2_ := Aside0.mk (Kd.R_below (by (with_reducible repeat (first | apply Kd.R_alloc | apply Kd.R_drewN | apply Kd.R_drew)); exact HO555.out) hb); have n3_ := Aside0.mk (below_step (by repeat (first | (with_reducible first | exact HB.out | apply below_alloc | apply pw_below_drewN | apply below_drew1) | exact HB.out)) hb); clear HO549; clear HO552; clear HO555; clear HB; have HO549 := n0_; have HO552 := n1_; have HO555 := n2_; have HB := n3_; clear n0_ n1_ n2_ n3_; (try clear hb); (try clear hb2); (try clear hk); (try clear hi)) | (go_at_call 13; (with_reducible refine (region_Area.calls k2 _ _ t547 t559 _ ?side1 ?side2 A49.out).mono ?_); (case side1 => repeat (first | exact (Kd.R_reads' HO549.out).2.2 | (with_reducible refine Kd.C_alloc ?_ _) | (with_reducible refine Kd.C_drewN ?_ _) | (with_reducible refine Kd.C_drew ?_))); (case side2 => exact (Kd.R_reads' HO549.out).2.1); rintro e w60 ⟨rfl, hb⟩; have n0_ := Aside0.mk (Kd.R_below (by (with_reducible repeat (first | apply Kd.R_alloc | apply Kd.R_drewN | apply Kd.R_drew)); exact HO549.out) hb); have n1_ := Aside0.mk (Kd.R_below (by (with_reducible repeat (first | apply Kd.R_alloc | apply Kd.R_drewN | apply Kd.R_drew)); exact HO552.out) hb); have n2_ := Aside0.mk (Kd.R_below (by (with_reducible repeat (first | apply Kd.R_alloc | apply Kd.R_drewN | apply Kd.R_drew)); exact HO555.out) hb); have n3_ := Aside0.mk (below_step (by repeat (first | (with_reducible first | exact HB.out | apply below_alloc | apply pw_below_drewN | apply below_drew1) | exact HB.out)) hb); clear HO549; clear HO552; clear HO555; clear HB; have HO549 := n0_; have HO552 := n1_; have HO555 := n2_; have HB := n3_; clear n0_ n1_ n2_ n3_; (try clear hb); (try clear hb2); (try clear hk); (try clear hi)) | (go_at_call 13; (with_reducible refine (region_Area.calls k2 _ _ l0 t560 _ ?side1 ?side2 A50.out).mono ?_); (case side1 => repeat (first | exact (Kd.C_below HR0.out HB.out) | (with_reducible refine Kd.C_alloc ?_ _) | (with_reducible refine Kd.C_drewN ?_ _) | (with_reducible refine Kd.C_drew ?_))); (case side2 => exact HC0.out); rintro e w61 ⟨rfl, hb⟩; have n0_ := Aside0.mk (Kd.R_below (by (with_reducible repeat (first | apply Kd.R_alloc | apply Kd.R_drewN | apply Kd.R_drew)); exact HO549.out) hb); have n1_ := Aside0.mk (Kd.R_below (by (with_reducible repeat (first | apply Kd.R_alloc | apply Kd.R_drewN | apply Kd.R_drew)); exact HO552.out) hb); have n2_ := Aside0.mk (Kd.R_below (by (with_reducible repeat (first | apply Kd.R_alloc | apply Kd.R_drewN | apply Kd.R_drew)); exact HO555.out) hb); have n3_ := Aside0.mk (below_step (by repeat (first | (with_reducible first | exact HB.out | apply below_alloc | apply pw_below_drewN | apply below_drew1) | exact HB.out)) hb); clear HO549; clear HO552; clear HO555; clear HB; have HO549 := n0_; have HO552 := n1_; have HO555 := n2_; have HB := n3_; clear n0_ n1_ n2_ n3_; (try clear hb); (try clear hb2); (try clear hk); (try clear hi)))
                    go_ret
                    exact ⟨by first | rfl | (simp [errW_none, errW_some] <;> rfl) | (simp [*, errW_none, errW_some] <;> rfl), by repeat (first | (with_reducible first | exact HB.out | apply below_alloc | apply pw_below_drewN | apply below_drew1) | exact HB.out)⟩
                  · rw [if_neg c48] at H
                    have c48b0 : (t557 == t558) = false := by simpa using c48
                    (try (have c48b1 : decide (t557 = t558) = false := by simpa using c48))
                    (try (have c48b2 : (t557 == t558) = false := by simpa using c48))
                    (try (have c48b3 : ¬ (t557 = t558) := by simpa using c48))
                    clear c48
                    rw [HRT.out] at H
                    exact absurd (Option.some.inj H) (by decide)
                · replace c45 := Bool.eq_false_iff.mpr c45
                  subst c45
                  have H1 : (some false) = some r := by rw [if_neg (show ¬ (false = true) by decide)] at H; exact H
                  clear H
                  have H := H1
                  clear H1
                  rw [HRT.out] at H
                  exact absurd (Option.some.inj H) (by decide)
  · replace c7 := Bool.eq_false_iff.mpr c7
    subst c7
    have H1 : (some false) = some r := by rw [if_neg (show ¬ (false = true) by decide)] at H; exact H
    clear H
    have H := H1
    clear H1
    rw [HRT.out] at H
    exact absurd (Option.some.inj H) (by decide)

end Go.Proofs.Ytkobiblgbpnlaaa.X
