/- What each Go function that these laws use answers: as a Lean function, with the proof that the machine's call comes to it. Written by a program of this session (xprint.py). -/
import Derived.Test.YtkmfhfejogjnfaaXx0
import Derived.Test.YtkmfhfejogjnfaaXx29
namespace Go.Proofs.Ytkmfhfejogjnfaa.X
open Go.RowKit Go.Proofs.YtkmfhfejogjnfaaW.PrintWords Go.Proofs.YtkmfhfejogjnfaaW.PrintLast Go.Proofs.YtkmfhfejogjnfaaW.PrintMore
attribute [local go_sem] max2_int min2_int max_two min_two max_three min_three max_four min_four   -- for this text's walks alone
set_option linter.unusedVariables false
set_option linter.unusedSimpArgs false

/-! ### miradorref17_free: function 28 -/
mutual
def miradorref17_free.l0 : Nat → Int → List Int → List (S33) → Int → Int → Int → Int → Int → Option (Bool)
  | 0, _, _, _, _, _, _, _, _ => none
  | k + 1, x0, x1, x2, x3, x4, x5, x6, x15 => if x15 < (wrap64 (x4 + x6)) then (if 0 ≤ (wrap64 ((wrap64 (x5 * x0)) + x15)) then (if (wrap64 ((wrap64 (x5 * x0)) + x15)) < (x1.length : Int) then (if (rd x1 (wrap64 ((wrap64 (x5 * x0)) + x15))) = x3 then (miradorref17_free.l1 k x0 x1 x2 x3 x4 x5 x6 x15 0) else (some false)) else (none)) else (none)) else (some true)
def miradorref17_free.l1 : Nat → Int → List Int → List (S33) → Int → Int → Int → Int → Int → Int → Option (Bool)
  | 0, _, _, _, _, _, _, _, _, _ => none
  | k + 1, x0, x1, x2, x3, x4, x5, x6, x15, x16 => if x16 < (x2.length : Int) then (if 0 ≤ x16 then ((miradorref14_In.f ((rd_T33 x2 x16).f1.f0) ((rd_T33 x2 x16).f1.f1) ((rd_T33 x2 x16).f1.f2) ((rd_T33 x2 x16).f1.f3) x15 x5).bind fun t197 => (if t197 = true then (some false) else (miradorref17_free.l1 k x0 x1 x2 x3 x4 x5 x6 x15 (wrap64 (x16 + 1))))) else (none)) else (miradorref17_free.l0 k x0 x1 x2 x3 x4 x5 x6 (wrap64 (x15 + 1)))
end
def miradorref17_free.f (k : Nat) (a0 : Int) (l1 : List Int) (l2 : List (S33)) (a3 : Int) (a4 : Int) (a5 : Int) (a6 : Int) : Option (Bool) := miradorref17_free.l0 k a0 l1 l2 a3 a4 a5 a6 a4
theorem miradorref17_free.mono_l : ∀ k, (∀ y0 y1 y2 y3 y4 y5 y6 y7, LeO (miradorref17_free.l0 k y0 y1 y2 y3 y4 y5 y6 y7) (miradorref17_free.l0 (k + 1) y0 y1 y2 y3 y4 y5 y6 y7)) ∧ (∀ y0 y1 y2 y3 y4 y5 y6 y7 y8, LeO (miradorref17_free.l1 k y0 y1 y2 y3 y4 y5 y6 y7 y8) (miradorref17_free.l1 (k + 1) y0 y1 y2 y3 y4 y5 y6 y7 y8))
  | 0 => ⟨fun _ _ _ _ _ _ _ _ r h => by simp [miradorref17_free.l0] at h, fun _ _ _ _ _ _ _ _ _ r h => by simp [miradorref17_free.l1] at h⟩
  | k + 1 => by
    obtain ⟨ih0, ih1⟩ := miradorref17_free.mono_l k
    refine ⟨?_, ?_⟩
    · intro y0 y1 y2 y3 y4 y5 y6 y7
      unfold miradorref17_free.l0
      repeat' first
      | (with_reducible exact ih0 _ _ _ _ _ _ _ _)
      | (with_reducible exact ih1 _ _ _ _ _ _ _ _ _)
      | (with_reducible exact LeO.refl _)
      | (with_reducible exact LeO.none _)
      | (with_reducible refine LeO.ite ?_ ?_)
      | (with_reducible refine LeO.bind ?_ (fun _ => ?_))
      | exact ih0 _ _ _ _ _ _ _ _
      | exact ih1 _ _ _ _ _ _ _ _ _
      | exact LeO.none _
      | refine LeO.ite ?_ ?_
      | refine LeO.bind ?_ (fun _ => ?_)
    · intro y0 y1 y2 y3 y4 y5 y6 y7 y8
      unfold miradorref17_free.l1
      repeat' first
      | (with_reducible exact ih0 _ _ _ _ _ _ _ _)
      | (with_reducible exact ih1 _ _ _ _ _ _ _ _ _)
      | (with_reducible exact LeO.refl _)
      | (with_reducible exact LeO.none _)
      | (with_reducible refine LeO.ite ?_ ?_)
      | (with_reducible refine LeO.bind ?_ (fun _ => ?_))
      | exact ih0 _ _ _ _ _ _ _ _
      | exact ih1 _ _ _ _ _ _ _ _ _
      | exact LeO.none _
      | refine LeO.ite ?_ ?_
      | refine LeO.bind ?_ (fun _ => ?_)
theorem miradorref17_free.mono : ∀ a0 a1 a2 a3 a4 a5 a6 k, LeO (miradorref17_free.f k a0 a1 a2 a3 a4 a5 a6) (miradorref17_free.f (k + 1) a0 a1 a2 a3 a4 a5 a6) := by
  intro a0 a1 a2 a3 a4 a5 a6 k
  obtain ⟨ih0, ih1⟩ := miradorref17_free.mono_l k
  unfold miradorref17_free.f
  repeat' first
      | (with_reducible exact ih0 _ _ _ _ _ _ _ _)
      | (with_reducible exact ih1 _ _ _ _ _ _ _ _ _)
      | (with_reducible exact LeO.refl _)
      | (with_reducible exact LeO.none _)
      | (with_reducible refine LeO.ite ?_ ?_)
      | (with_reducible refine LeO.bind ?_ (fun _ => ?_))
      | exact ih0 _ _ _ _ _ _ _ _
      | exact ih1 _ _ _ _ _ _ _ _ _
      | exact LeO.none _
      | refine LeO.ite ?_ ?_
      | refine LeO.bind ?_ (fun _ => ?_)
set_option maxHeartbeats 8000000 in
set_option maxRecDepth 100000 in
theorem miradorref17_free.calls (k : Nat) (a0 : Int) (A1 : Option Addr) (c1 : Nat) (l1 : List Int) (A2 : Option Addr) (c2 : Nat) (l2 : List (S33)) (a3 : Int) (a4 : Int) (a5 : Int) (a6 : Int) (r : Bool) (w : World) (hr1 : Kd.C (Kd.int .i64) w A1 l1.length l1) (hc1 : l1.length ≤ c1) (hr2 : Kd.C k33 w A2 l2.length l2) (hc2 : l2.length ≤ c2) (h : miradorref17_free.f k a0 l1 l2 a3 a4 a5 a6 = some r) :
    Calls Try.prog 28 #[.int .i64 a0, .slice A1 l1.length c1, .slice A2 l2.length c2, .int .i64 a3, .int .i64 a4, .int .i64 a5, .int .i64 a6] w fun e w' => e = .returned (.bool r) ∧ Below w.heap.size w w' := by
  have hu29 := Try.underlying29
  have HR1 := Aside0.mk hr1
  have HC1 := Aside0.mk hc1
  clear hr1 hc1
  have HR2 := Aside0.mk hr2
  have HC2 := Aside0.mk hc2
  clear hr2 hc2
  have HB := Aside0.mk (Below.refl w.heap.size w)
  have H : (miradorref17_free.l0 k a0 l1 l2 a3 a4 a5 a6 a4) = some r := h
  clear h
  have H' := Aside0.mk H
  clear H
  go_enter Try.func28, Try.ntmps28
  go_wp2
  go_loopg [15] k (fun kq v15 w' => ∃ (x15_1 : Int), v15 = .int .i64 x15_1 ∧ Aside0 (miradorref17_free.l0 kq a0 l1 l2 a3 a4 a5 a6 x15_1 = some r) ∧ Aside0 (kq ≤ k) ∧ Aside0 (Below w.heap.size w w'))
  case atStart => exact ⟨(a4), (by first | rfl | (simp; done) | (simp [*]; done)), H', ⟨Nat.le_refl _⟩, ⟨by repeat (first | (with_reducible first | exact HB.out | apply below_alloc | apply pw_below_drewN | apply below_drew1) | exact HB.out)⟩⟩
  case round =>
    clear H'
    try clear c1
    try clear c2
    try clear p2
    obtain ⟨x15_1, rfl, HA, HK1, HB⟩ := hrel
    cases gk with
    | zero => exact absurd HA.out (by simp [miradorref17_free.l0])
    | succ k1 =>
      have H := HA.out
      clear HA
      simp only [miradorref17_free.l0] at H
      by_cases c8 : x15_1 < (wrap64 (a4 + a6))
      · rw [if_pos c8] at H
        have c8b0 : decide (x15_1 < (wrap64 (a4 + a6))) = true := decide_eq_true c8
        clear c8
        obtain ⟨ji9, hji9⟩ : ∃ j_ : Int, (wrap64 ((wrap64 (a5 * a0)) + x15_1)) = j_ := ⟨_, rfl⟩
        replace H : (if 0 ≤ (ji9) then (if (ji9) < (l1.length : Int) then (if (rd l1 (ji9)) = a3 then (miradorref17_free.l1 k1 a0 l1 l2 a3 a4 a5 a6 x15_1 0) else (some false)) else (none)) else (none)) = some r := by first | (rw [hji9] at H; exact H) | (simp only [hji9] at H ⊢; exact H)
        have hji9w : (IntKind.i64.wrap ((wrap64 (a5 * a0)) + x15_1)) = ji9 := (i64_w _).trans hji9
        by_cases c10 : 0 ≤ (ji9)
        · rw [if_pos c10] at H
          have c10b0 : decide (0 ≤ (ji9)) = true := decide_eq_true c10
          clear c10
          by_cases c11 : (ji9) < (l1.length : Int)
          · rw [if_pos c11] at H
            have c11b0 : decide ((ji9) < (l1.length : Int)) = true := decide_eq_true c11
            clear c11
            by_cases c12 : (rd l1 (ji9)) = a3
            · rw [if_pos c12] at H
              have c12b0 : ((rd l1 (ji9)) == a3) = true := beq_iff_eq.mpr c12
              have c12b1 : ((rd l1 (ji9)) != a3) = false := bne_eq_false_iff_eq.mpr c12
              clear c12
              have H' := Aside0.mk H
              clear H
              have p195 : 0 ≤ ((ji9) : Int) := of_decide_eq_true (by first | (with_reducible assumption) | assumption)
              have q195 : (ji9) < (l1.length : Int) := of_decide_eq_true (by first | (with_reducible assumption) | assumption)
              obtain ⟨ad195, e195, hx195_0⟩ := Kd.at_int HR1.out (ji9) p195 q195
              cases e195
              replace hx195_0 := (HB.out.cell (World.block_lt_of_cell? w _ hx195_0)).trans hx195_0
              replace p195 := eq_true p195
              replace q195 := eq_true q195
              go_wp2
              go_loopg [16] k1 (fun kq v16 w' => ∃ (x16_2 : Int), v16 = .int .i64 x16_2 ∧ Aside0 (miradorref17_free.l1 kq a0 l1 l2 a3 a4 a5 a6 x15_1 x16_2 = some r) ∧ Aside0 (kq ≤ k1) ∧ Aside0 (Below w.heap.size w w'))
              case atStart => exact ⟨(0), (by first | rfl | (simp; done) | (simp [*]; done)), H', ⟨Nat.le_refl _⟩, ⟨by repeat (first | (with_reducible first | exact HB.out | apply below_alloc | apply pw_below_drewN | apply below_drew1) | exact HB.out)⟩⟩
              case round =>
                clear H'
                try clear c1
                try clear p1
                try clear q1
                try clear hx1
                try clear c2
                try clear p2
                try clear p6
                try clear c8
                try clear c8b0
                try clear c10
                try clear c10b0
                try clear c11
                try clear c11b0
                try clear c12
                try clear c12b0
                try clear c12b1
                try clear hx195_0
                try clear p195
                try clear p2
                try clear q195
                obtain ⟨x16_2, rfl, HA, HK2, HB⟩ := hrel
                cases gk with
                | zero => exact absurd HA.out (by simp [miradorref17_free.l1])
                | succ k2 =>
                  have H := HA.out
                  clear HA
                  simp only [miradorref17_free.l1] at H
                  by_cases c13 : x16_2 < (l2.length : Int)
                  · rw [if_pos c13] at H
                    have c13b0 : decide (x16_2 < (l2.length : Int)) = true := decide_eq_true c13
                    clear c13
                    by_cases c14 : 0 ≤ x16_2
                    · rw [if_pos c14] at H
                      have c14b0 : decide (0 ≤ x16_2) = true := decide_eq_true c14
                      clear c14
                      replace H := Option.bind_eq_some_iff.mp H
                      obtain ⟨t197, A150, H⟩ := H
                      replace H : (if t197 = true then (some false) else (miradorref17_free.l1 k2 a0 l1 l2 a3 a4 a5 a6 x15_1 (wrap64 (x16_2 + 1)))) = some r := H
                      have A15 := Aside0.mk A150
                      clear A150
                      by_cases c16 : t197 = true
                      · subst c16
                        have H1 : (some false) = some r := by rw [if_pos rfl] at H; exact H
                        clear H
                        have H := H1
                        clear H1
                        obtain rfl := Option.some.inj H
                        have p196 : 0 ≤ (x16_2 : Int) := of_decide_eq_true (by first | (with_reducible assumption) | assumption)
                        have q196 : x16_2 < (l2.length : Int) := of_decide_eq_true (by first | (with_reducible assumption) | assumption)
                        obtain ⟨ad196, e196, hx196_0, hx196_1, hx196_2, hx196_3, hx196_4⟩ := at_T33 HR2.out x16_2 p196 q196
                        cases e196
                        replace hx196_0 := (HB.out.cell (World.block_lt_of_cell? w _ hx196_0)).trans hx196_0
                        replace hx196_1 := (HB.out.cell (World.block_lt_of_cell? w _ hx196_1)).trans hx196_1
                        replace hx196_2 := (HB.out.cell (World.block_lt_of_cell? w _ hx196_2)).trans hx196_2
                        replace hx196_3 := (HB.out.cell (World.block_lt_of_cell? w _ hx196_3)).trans hx196_3
                        replace hx196_4 := (HB.out.cell (World.block_lt_of_cell? w _ hx196_4)).trans hx196_4
                        replace p196 := eq_true p196
                        replace q196 := eq_true q196
                        go_wp2_with (first | ((with_reducible refine gate_callee (f := 48) rfl ?_); refine goesL_ (some 48) rfl rfl Try.func48 (by kernel_rfl) rfl #[.agg #[.int .i64 ((rd_T33 l2 x16_2).f1.f0), .int .i64 ((rd_T33 l2 x16_2).f1.f1), .int .i64 ((rd_T33 l2 x16_2).f1.f2), .int .i64 ((rd_T33 l2 x16_2).f1.f3)], .int .i64 x15_1, .int .i64 a5] rfl (by (try simp only [List.map_toArray, List.map_cons, List.map_nil]); first | done | rfl | (simp only [List.length_drop, List.length_take]; rfl)) ?_; (with_reducible refine (miradorref14_In.calls ((rd_T33 l2 x16_2).f1.f0) ((rd_T33 l2 x16_2).f1.f1) ((rd_T33 l2 x16_2).f1.f2) ((rd_T33 l2 x16_2).f1.f3) x15_1 a5 true _ A15.out).mono ?_); rintro e w17 ⟨rfl, hb⟩; refine ⟨_, rfl, ?_⟩; have n0_ := Aside0.mk (below_step (by repeat (first | (with_reducible first | exact HB.out | apply below_alloc | apply pw_below_drewN | apply below_drew1) | exact HB.out)) hb); clear HB; have HB := n0_; clear n0_; (try clear hb); (try clear hb2); (try clear hk); (try clear hi)))
                        go_ret
                        exact ⟨by first | rfl | (simp [errW_none, errW_some] <;> rfl) | (simp only [← hji9]; first | rfl | (simp [errW_none, errW_some] <;> rfl)) | (simp [*, errW_none, errW_some] <;> rfl), by repeat (first | (with_reducible first | exact HB.out | apply below_alloc | apply pw_below_drewN | apply below_drew1) | exact HB.out)⟩
                      · replace c16 := Bool.eq_false_iff.mpr c16
                        subst c16
                        have H1 : (miradorref17_free.l1 k2 a0 l1 l2 a3 a4 a5 a6 x15_1 (wrap64 (x16_2 + 1))) = some r := by rw [if_neg (show ¬ (false = true) by decide)] at H; exact H
                        clear H
                        have H := H1
                        clear H1
                        have H' := Aside0.mk H
                        clear H
                        have p196 : 0 ≤ (x16_2 : Int) := of_decide_eq_true (by first | (with_reducible assumption) | assumption)
                        have q196 : x16_2 < (l2.length : Int) := of_decide_eq_true (by first | (with_reducible assumption) | assumption)
                        obtain ⟨ad196, e196, hx196_0, hx196_1, hx196_2, hx196_3, hx196_4⟩ := at_T33 HR2.out x16_2 p196 q196
                        cases e196
                        replace hx196_0 := (HB.out.cell (World.block_lt_of_cell? w _ hx196_0)).trans hx196_0
                        replace hx196_1 := (HB.out.cell (World.block_lt_of_cell? w _ hx196_1)).trans hx196_1
                        replace hx196_2 := (HB.out.cell (World.block_lt_of_cell? w _ hx196_2)).trans hx196_2
                        replace hx196_3 := (HB.out.cell (World.block_lt_of_cell? w _ hx196_3)).trans hx196_3
                        replace hx196_4 := (HB.out.cell (World.block_lt_of_cell? w _ hx196_4)).trans hx196_4
                        replace p196 := eq_true p196
                        replace q196 := eq_true q196
                        go_wp2_with (first | ((with_reducible refine gate_callee (f := 48) rfl ?_); refine goesL_ (some 48) rfl rfl Try.func48 (by kernel_rfl) rfl #[.agg #[.int .i64 ((rd_T33 l2 x16_2).f1.f0), .int .i64 ((rd_T33 l2 x16_2).f1.f1), .int .i64 ((rd_T33 l2 x16_2).f1.f2), .int .i64 ((rd_T33 l2 x16_2).f1.f3)], .int .i64 x15_1, .int .i64 a5] rfl (by (try simp only [List.map_toArray, List.map_cons, List.map_nil]); first | done | rfl | (simp only [List.length_drop, List.length_take]; rfl)) ?_; (with_reducible refine (miradorref14_In.calls ((rd_T33 l2 x16_2).f1.f0) ((rd_T33 l2 x16_2).f1.f1) ((rd_T33 l2 x16_2).f1.f2) ((rd_T33 l2 x16_2).f1.f3) x15_1 a5 false _ A15.out).mono ?_); rintro e w18 ⟨rfl, hb⟩; refine ⟨_, rfl, ?_⟩; have n0_ := Aside0.mk (below_step (by repeat (first | (with_reducible first | exact HB.out | apply below_alloc | apply pw_below_drewN | apply below_drew1) | exact HB.out)) hb); clear HB; have HB := n0_; clear n0_; (try clear hb); (try clear hb2); (try clear hk); (try clear hi)))
                        go_roundg k2
                        case measure => have := HK1.out; have := HK2.out; omega
                        case rel => exact ⟨(wrap64 (x16_2 + 1)), (by first | rfl | (simp; done) | (simp [*]; done)), H', ⟨by have := HK1.out; have := HK2.out; omega⟩, ⟨by repeat (first | (with_reducible first | exact HB.out | apply below_alloc | apply pw_below_drewN | apply below_drew1) | exact HB.out)⟩⟩
                    · rw [if_neg c14] at H
                      exact absurd H (by simp)
                  · rw [if_neg c13] at H
                    have c13b0 : decide (x16_2 < (l2.length : Int)) = false := decide_eq_false c13
                    clear c13
                    have H' := Aside0.mk H
                    clear H
                    go_wp2
                    go_roundg k2
                    case measure => have := HK1.out; have := HK2.out; omega
                    case rel => exact ⟨(wrap64 (x15_1 + 1)), (by first | rfl | (simp; done) | (simp [*]; done)), H', ⟨by have := HK1.out; have := HK2.out; omega⟩, ⟨by repeat (first | (with_reducible first | exact HB.out | apply below_alloc | apply pw_below_drewN | apply below_drew1) | exact HB.out)⟩⟩
            · rw [if_neg c12] at H
              have c12b0 : ((rd l1 (ji9)) == a3) = false := beq_eq_false_iff_ne.mpr c12
              have c12b1 : ((rd l1 (ji9)) != a3) = true := bne_iff_ne.mpr c12
              obtain rfl := Option.some.inj H
              have p195 : 0 ≤ ((ji9) : Int) := of_decide_eq_true (by first | (with_reducible assumption) | assumption)
              have q195 : (ji9) < (l1.length : Int) := of_decide_eq_true (by first | (with_reducible assumption) | assumption)
              obtain ⟨ad195, e195, hx195_0⟩ := Kd.at_int HR1.out (ji9) p195 q195
              cases e195
              replace hx195_0 := (HB.out.cell (World.block_lt_of_cell? w _ hx195_0)).trans hx195_0
              replace p195 := eq_true p195
              replace q195 := eq_true q195
              go_wp2
              go_ret
              exact ⟨by first | rfl | (simp [errW_none, errW_some] <;> rfl) | (simp only [← hji9]; first | rfl | (simp [errW_none, errW_some] <;> rfl)) | (simp [*, errW_none, errW_some] <;> rfl), by repeat (first | (with_reducible first | exact HB.out | apply below_alloc | apply pw_below_drewN | apply below_drew1) | exact HB.out)⟩
          · rw [if_neg c11] at H
            exact absurd H (by simp)
        · rw [if_neg c10] at H
          exact absurd H (by simp)
      · rw [if_neg c8] at H
        have c8b0 : decide (x15_1 < (wrap64 (a4 + a6))) = false := decide_eq_false c8
        clear c8
        obtain rfl := Option.some.inj H
        go_wp2
        go_ret
        exact ⟨by first | rfl | (simp [errW_none, errW_some] <;> rfl) | (simp [*, errW_none, errW_some] <;> rfl), by repeat (first | (with_reducible first | exact HB.out | apply below_alloc | apply pw_below_drewN | apply below_drew1) | exact HB.out)⟩

end Go.Proofs.Ytkmfhfejogjnfaa.X
