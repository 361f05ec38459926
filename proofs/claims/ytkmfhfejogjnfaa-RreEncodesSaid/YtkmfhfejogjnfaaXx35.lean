/- What each Go function that these laws use answers: as a Lean function, with the proof that the machine's call comes to it. Written by a program of this session (xprint.py). -/
import Derived.Test.YtkmfhfejogjnfaaXx0
import Derived.Test.YtkmfhfejogjnfaaXx34
namespace Go.Proofs.Ytkmfhfejogjnfaa.X
open Go.RowKit Go.Proofs.YtkmfhfejogjnfaaW.PrintWords Go.Proofs.YtkmfhfejogjnfaaW.PrintLast Go.Proofs.YtkmfhfejogjnfaaW.PrintMore
attribute [local go_sem] max2_int min2_int max_two min_two max_three min_three max_four min_four   -- for this text's walks alone
set_option linter.unusedVariables false
set_option linter.unusedSimpArgs false

/-! ### miradorref13_Valid: function 37 -/
mutual
def miradorref13_Valid.j0 : Nat → Bool → Int → Int → Bool → Bool → Int → Int → Int → Int → Int → Int → Option (Bool)
  | 0, _, _, _, _, _, _, _, _, _, _, _ => none
  | k + 1, x35, x228000, x228001, x228002, x228003, x228004, x228005, x228006, x228007, x228008, x228009 => if x35 = true then (some false) else ((miradorref13_part.f k x228000 x228004 x228007).bind fun t228 => (if t228 = true then ((miradorref13_part.f k x228000 x228005 x228008).bind fun t229 => (if t229 = true then ((miradorref13_part.f k x228000 x228006 x228009).bind fun t230 => (miradorref13_Valid.j1 k (!t230) x228000 x228001 x228002 x228003 x228004 x228005 x228006 x228007 x228008 x228009)) else (miradorref13_Valid.j1 k true x228000 x228001 x228002 x228003 x228004 x228005 x228006 x228007 x228008 x228009))) else (miradorref13_Valid.j1 k true x228000 x228001 x228002 x228003 x228004 x228005 x228006 x228007 x228008 x228009)))
def miradorref13_Valid.j1 : Nat → Bool → Int → Int → Bool → Bool → Int → Int → Int → Int → Int → Int → Option (Bool)
  | 0, _, _, _, _, _, _, _, _, _, _, _ => none
  | k + 1, x63, x228000, x228001, x228002, x228003, x228004, x228005, x228006, x228007, x228008, x228009 => if x63 = true then (some false) else ((miradorref13_mask.f x228004 x228007).bind fun t231 => ((miradorref13_mask.f x228005 x228008).bind fun t232 => ((miradorref13_mask.f x228006 x228009).bind fun t233 => (if (Go.bits .and .i64 t231 t232) = 0 then (if (Go.bits .and .i64 t231 t233) = 0 then (some ((Go.bits .and .i64 t232 t233) == 0)) else (some false)) else (some false)))))
end
def miradorref13_Valid.f (k : Nat) (a0_0 : Int) (a0_1 : Int) (a0_2 : Bool) (a0_3 : Bool) (a0_4 : Int) (a0_5 : Int) (a0_6 : Int) (a0_7 : Int) (a0_8 : Int) (a0_9 : Int) : Option (Bool) := if a0_0 = 8 then (if a0_1 < 1 then (miradorref13_Valid.j0 k true a0_0 a0_1 a0_2 a0_3 a0_4 a0_5 a0_6 a0_7 a0_8 a0_9) else (if a0_1 > a0_0 then (miradorref13_Valid.j0 k true a0_0 a0_1 a0_2 a0_3 a0_4 a0_5 a0_6 a0_7 a0_8 a0_9) else (miradorref13_Valid.j0 k (!a0_3) a0_0 a0_1 a0_2 a0_3 a0_4 a0_5 a0_6 a0_7 a0_8 a0_9))) else (if a0_0 = 16 then (if a0_1 < 1 then (miradorref13_Valid.j0 k true a0_0 a0_1 a0_2 a0_3 a0_4 a0_5 a0_6 a0_7 a0_8 a0_9) else (if a0_1 > a0_0 then (miradorref13_Valid.j0 k true a0_0 a0_1 a0_2 a0_3 a0_4 a0_5 a0_6 a0_7 a0_8 a0_9) else (miradorref13_Valid.j0 k (!a0_3) a0_0 a0_1 a0_2 a0_3 a0_4 a0_5 a0_6 a0_7 a0_8 a0_9))) else (if a0_0 = 32 then (if a0_1 < 1 then (miradorref13_Valid.j0 k true a0_0 a0_1 a0_2 a0_3 a0_4 a0_5 a0_6 a0_7 a0_8 a0_9) else (if a0_1 > a0_0 then (miradorref13_Valid.j0 k true a0_0 a0_1 a0_2 a0_3 a0_4 a0_5 a0_6 a0_7 a0_8 a0_9) else (miradorref13_Valid.j0 k (!a0_3) a0_0 a0_1 a0_2 a0_3 a0_4 a0_5 a0_6 a0_7 a0_8 a0_9))) else (miradorref13_Valid.j0 k true a0_0 a0_1 a0_2 a0_3 a0_4 a0_5 a0_6 a0_7 a0_8 a0_9)))
theorem miradorref13_Valid.mono_l : ∀ k, (∀ y0 y1 y2 y3 y4 y5 y6 y7 y8 y9 y10, LeO (miradorref13_Valid.j0 k y0 y1 y2 y3 y4 y5 y6 y7 y8 y9 y10) (miradorref13_Valid.j0 (k + 1) y0 y1 y2 y3 y4 y5 y6 y7 y8 y9 y10)) ∧ (∀ y0 y1 y2 y3 y4 y5 y6 y7 y8 y9 y10, LeO (miradorref13_Valid.j1 k y0 y1 y2 y3 y4 y5 y6 y7 y8 y9 y10) (miradorref13_Valid.j1 (k + 1) y0 y1 y2 y3 y4 y5 y6 y7 y8 y9 y10))
  | 0 => ⟨fun _ _ _ _ _ _ _ _ _ _ _ r h => by simp [miradorref13_Valid.j0] at h, fun _ _ _ _ _ _ _ _ _ _ _ r h => by simp [miradorref13_Valid.j1] at h⟩
  | k + 1 => by
    obtain ⟨ih0, ih1⟩ := miradorref13_Valid.mono_l k
    refine ⟨?_, ?_⟩
    · intro y0 y1 y2 y3 y4 y5 y6 y7 y8 y9 y10
      unfold miradorref13_Valid.j0
      repeat' first
      | (with_reducible exact ih0 _ _ _ _ _ _ _ _ _ _ _)
      | (with_reducible exact ih1 _ _ _ _ _ _ _ _ _ _ _)
      | (with_reducible exact miradorref13_part.mono _ _ _ _)
      | (with_reducible exact LeO.refl _)
      | (with_reducible exact LeO.none _)
      | (with_reducible refine LeO.ite ?_ ?_)
      | (with_reducible refine LeO.bind ?_ (fun _ => ?_))
      | exact ih0 _ _ _ _ _ _ _ _ _ _ _
      | exact ih1 _ _ _ _ _ _ _ _ _ _ _
      | exact miradorref13_part.mono _ _ _ _
      | exact LeO.none _
      | refine LeO.ite ?_ ?_
      | refine LeO.bind ?_ (fun _ => ?_)
    · intro y0 y1 y2 y3 y4 y5 y6 y7 y8 y9 y10
      unfold miradorref13_Valid.j1
      repeat' first
      | (with_reducible exact ih0 _ _ _ _ _ _ _ _ _ _ _)
      | (with_reducible exact ih1 _ _ _ _ _ _ _ _ _ _ _)
      | (with_reducible exact miradorref13_part.mono _ _ _ _)
      | (with_reducible exact LeO.refl _)
      | (with_reducible exact LeO.none _)
      | (with_reducible refine LeO.ite ?_ ?_)
      | (with_reducible refine LeO.bind ?_ (fun _ => ?_))
      | exact ih0 _ _ _ _ _ _ _ _ _ _ _
      | exact ih1 _ _ _ _ _ _ _ _ _ _ _
      | exact miradorref13_part.mono _ _ _ _
      | exact LeO.none _
      | refine LeO.ite ?_ ?_
      | refine LeO.bind ?_ (fun _ => ?_)
theorem miradorref13_Valid.mono : ∀ a0 a1 a2 a3 a4 a5 a6 a7 a8 a9 k, LeO (miradorref13_Valid.f k a0 a1 a2 a3 a4 a5 a6 a7 a8 a9) (miradorref13_Valid.f (k + 1) a0 a1 a2 a3 a4 a5 a6 a7 a8 a9) := by
  intro a0 a1 a2 a3 a4 a5 a6 a7 a8 a9 k
  obtain ⟨ih0, ih1⟩ := miradorref13_Valid.mono_l k
  unfold miradorref13_Valid.f
  repeat' first
      | (with_reducible exact ih0 _ _ _ _ _ _ _ _ _ _ _)
      | (with_reducible exact ih1 _ _ _ _ _ _ _ _ _ _ _)
      | (with_reducible exact miradorref13_part.mono _ _ _ _)
      | (with_reducible exact LeO.refl _)
      | (with_reducible exact LeO.none _)
      | (with_reducible refine LeO.ite ?_ ?_)
      | (with_reducible refine LeO.bind ?_ (fun _ => ?_))
      | exact ih0 _ _ _ _ _ _ _ _ _ _ _
      | exact ih1 _ _ _ _ _ _ _ _ _ _ _
      | exact miradorref13_part.mono _ _ _ _
      | exact LeO.none _
      | refine LeO.ite ?_ ?_
      | refine LeO.bind ?_ (fun _ => ?_)
set_option maxHeartbeats 8000000 in
set_option maxRecDepth 100000 in
theorem miradorref13_Valid.calls (k : Nat) (a0_0 : Int) (a0_1 : Int) (a0_2 : Bool) (a0_3 : Bool) (a0_4 : Int) (a0_5 : Int) (a0_6 : Int) (a0_7 : Int) (a0_8 : Int) (a0_9 : Int) (r : Bool) (w : World) (h : miradorref13_Valid.f k a0_0 a0_1 a0_2 a0_3 a0_4 a0_5 a0_6 a0_7 a0_8 a0_9 = some r) :
    Calls Try.prog 37 #[.agg #[.int .i64 a0_0, .int .i64 a0_1, .bool a0_2, .bool a0_3, .int .i64 a0_4, .int .i64 a0_5, .int .i64 a0_6, .int .i64 a0_7, .int .i64 a0_8, .int .i64 a0_9]] w fun e w' => e = .returned (.bool r) ∧ Below w.heap.size w w' := by
  have hu37 := Try.underlying37
  have HB := Aside0.mk (Below.refl w.heap.size w)
  have H : (if a0_0 = 8 then (if a0_1 < 1 then (miradorref13_Valid.j0 k true a0_0 a0_1 a0_2 a0_3 a0_4 a0_5 a0_6 a0_7 a0_8 a0_9) else (if a0_1 > a0_0 then (miradorref13_Valid.j0 k true a0_0 a0_1 a0_2 a0_3 a0_4 a0_5 a0_6 a0_7 a0_8 a0_9) else (miradorref13_Valid.j0 k (!a0_3) a0_0 a0_1 a0_2 a0_3 a0_4 a0_5 a0_6 a0_7 a0_8 a0_9))) else (if a0_0 = 16 then (if a0_1 < 1 then (miradorref13_Valid.j0 k true a0_0 a0_1 a0_2 a0_3 a0_4 a0_5 a0_6 a0_7 a0_8 a0_9) else (if a0_1 > a0_0 then (miradorref13_Valid.j0 k true a0_0 a0_1 a0_2 a0_3 a0_4 a0_5 a0_6 a0_7 a0_8 a0_9) else (miradorref13_Valid.j0 k (!a0_3) a0_0 a0_1 a0_2 a0_3 a0_4 a0_5 a0_6 a0_7 a0_8 a0_9))) else (if a0_0 = 32 then (if a0_1 < 1 then (miradorref13_Valid.j0 k true a0_0 a0_1 a0_2 a0_3 a0_4 a0_5 a0_6 a0_7 a0_8 a0_9) else (if a0_1 > a0_0 then (miradorref13_Valid.j0 k true a0_0 a0_1 a0_2 a0_3 a0_4 a0_5 a0_6 a0_7 a0_8 a0_9) else (miradorref13_Valid.j0 k (!a0_3) a0_0 a0_1 a0_2 a0_3 a0_4 a0_5 a0_6 a0_7 a0_8 a0_9))) else (miradorref13_Valid.j0 k true a0_0 a0_1 a0_2 a0_3 a0_4 a0_5 a0_6 a0_7 a0_8 a0_9)))) = some r := h
  clear h
  have HC2 := Aside0.mk H
  clear H
  go_enter Try.func37, Try.ntmps37
  go_upto_region 1 with (first | ((with_reducible refine gate_dst (N := 1) rfl ?_); refine box_event ?hg (N := 1) ?hd (cs := #[.int .i64 a0_0, .int .i64 a0_1, .bool a0_2, .bool a0_3, .int .i64 a0_4, .int .i64 a0_5, .int .i64 a0_6, .int .i64 a0_7, .int .i64 a0_8, .int .i64 a0_9]) (t := 37) ?hr ?_; (case hd => rfl); (case hg => rfl); (case hr => first | (go_simp; done) | (go_simp; rfl)); intro gb227 hg w3 hbox hb; have n0_ := Aside0.mk (below_step (by repeat (first | (with_reducible first | exact HB.out | apply below_alloc | apply pw_below_drewN | apply below_drew1) | exact HB.out)) hb); have n1_ := Aside0.mk (hbox); have n2_ := Aside0.mk ((by rw [hg]; exact (below_size (by repeat (first | (with_reducible first | exact HB.out | apply below_alloc | apply pw_below_drewN | apply below_drew1) | exact HB.out))) : w.heap.size ≤ gb227)); have n3_ := Aside0.mk ((by rw [hg]; exact (below_size (by repeat (first | (with_reducible first | exact HB.out | apply below_alloc | apply pw_below_drewN | apply below_drew1) | exact HB.out))) : w.heap.size ≤ gb227)); clear HB; have HB := n0_; have BK227 := n1_; have GW227 := n2_; have GE227 := n3_; clear n0_ n1_ n2_ n3_; clear hb hbox hg))
  (try simp only [Act.put, List.setIfInBounds_toArray, List.set_cons_zero, List.set_cons_succ])
  go_cut [35] (fun v35 wc => ∃ (kq : Nat) (x35_1 : Bool), v35 = .bool x35_1 ∧ Aside0 (miradorref13_Valid.j0 kq x35_1 a0_0 a0_1 a0_2 a0_3 a0_4 a0_5 a0_6 a0_7 a0_8 a0_9 = some r) ∧ Aside0 (kq ≤ k) ∧ Aside0 (wc.heap[gb227]? = some (.cells #[.int .i64 a0_0, .int .i64 a0_1, .bool a0_2, .bool a0_3, .int .i64 a0_4, .int .i64 a0_5, .int .i64 a0_6, .int .i64 a0_7, .int .i64 a0_8, .int .i64 a0_9] 37 (0, 0))) ∧ Aside0 (Below w.heap.size w wc))
  case first =>
    have H := HC2.out
    clear HC2
    by_cases c4 : a0_0 = 8
    · rw [if_pos c4] at H
      have c4b0 : (a0_0 == 8) = true := beq_iff_eq.mpr c4
      have c4b1 : (a0_0 != 8) = false := bne_eq_false_iff_eq.mpr c4
      clear c4
      (first | rw [c4b0] | (simp only [i64_w, i32_w]; rw [c4b0]) | skip)
      by_cases c5 : a0_1 < 1
      · rw [if_pos c5] at H
        have c5b0 : decide (a0_1 < 1) = true := decide_eq_true c5
        clear c5
        have H' := Aside0.mk H
        clear H
        have hcz6_0 : w3.cell? ⟨gb227, 0, none⟩ = some (.int .i64 a0_0) := (blk_cell BK227.out 0).trans rfl
        have hcz6_1 : w3.cell? ⟨gb227, 1, none⟩ = some (.int .i64 a0_1) := (blk_cell BK227.out 1).trans rfl
        have hcz6_2 : w3.cell? ⟨gb227, 2, none⟩ = some (.bool a0_2) := (blk_cell BK227.out 2).trans rfl
        have hcz6_3 : w3.cell? ⟨gb227, 3, none⟩ = some (.bool a0_3) := (blk_cell BK227.out 3).trans rfl
        have hcz6_4 : w3.cell? ⟨gb227, 4, none⟩ = some (.int .i64 a0_4) := (blk_cell BK227.out 4).trans rfl
        have hcz6_5 : w3.cell? ⟨gb227, 5, none⟩ = some (.int .i64 a0_5) := (blk_cell BK227.out 5).trans rfl
        have hcz6_6 : w3.cell? ⟨gb227, 6, none⟩ = some (.int .i64 a0_6) := (blk_cell BK227.out 6).trans rfl
        have hcz6_7 : w3.cell? ⟨gb227, 7, none⟩ = some (.int .i64 a0_7) := (blk_cell BK227.out 7).trans rfl
        have hcz6_8 : w3.cell? ⟨gb227, 8, none⟩ = some (.int .i64 a0_8) := (blk_cell BK227.out 8).trans rfl
        have hcz6_9 : w3.cell? ⟨gb227, 9, none⟩ = some (.int .i64 a0_9) := (blk_cell BK227.out 9).trans rfl
        have hfz6_0 := blk_frozen BK227.out 0
        have hfz6_1 := blk_frozen BK227.out 1
        have hfz6_2 := blk_frozen BK227.out 2
        have hfz6_3 := blk_frozen BK227.out 3
        have hfz6_4 := blk_frozen BK227.out 4
        have hfz6_5 := blk_frozen BK227.out 5
        have hfz6_6 := blk_frozen BK227.out 6
        have hfz6_7 := blk_frozen BK227.out 7
        have hfz6_8 := blk_frozen BK227.out 8
        have hfz6_9 := blk_frozen BK227.out 9
        go_wp2
        go_meet
        case rel => exact ⟨_, (true), (by first | rfl | (simp; done) | (simp [*]; done)), H', ⟨by first | omega | exact Nat.le_refl _⟩, ⟨by (with_reducible repeat (first | refine blk_drewN ?_ _ | refine blk_drew ?_ | refine blk_alloc ?_ _)); exact BK227.out⟩, ⟨by repeat (first | (with_reducible first | exact HB.out | apply below_alloc | apply pw_below_drewN | apply below_drew1 | refine below_set ?_ GE227.out) | exact HB.out)⟩⟩
      · rw [if_neg c5] at H
        have c5b0 : decide (a0_1 < 1) = false := decide_eq_false c5
        clear c5
        by_cases c7 : a0_1 > a0_0
        · rw [if_pos c7] at H
          have c7b0 : decide (a0_0 < a0_1) = true := decide_eq_true c7
          clear c7
          have H' := Aside0.mk H
          clear H
          have hcz8_0 : w3.cell? ⟨gb227, 0, none⟩ = some (.int .i64 a0_0) := (blk_cell BK227.out 0).trans rfl
          have hcz8_1 : w3.cell? ⟨gb227, 1, none⟩ = some (.int .i64 a0_1) := (blk_cell BK227.out 1).trans rfl
          have hcz8_2 : w3.cell? ⟨gb227, 2, none⟩ = some (.bool a0_2) := (blk_cell BK227.out 2).trans rfl
          have hcz8_3 : w3.cell? ⟨gb227, 3, none⟩ = some (.bool a0_3) := (blk_cell BK227.out 3).trans rfl
          have hcz8_4 : w3.cell? ⟨gb227, 4, none⟩ = some (.int .i64 a0_4) := (blk_cell BK227.out 4).trans rfl
          have hcz8_5 : w3.cell? ⟨gb227, 5, none⟩ = some (.int .i64 a0_5) := (blk_cell BK227.out 5).trans rfl
          have hcz8_6 : w3.cell? ⟨gb227, 6, none⟩ = some (.int .i64 a0_6) := (blk_cell BK227.out 6).trans rfl
          have hcz8_7 : w3.cell? ⟨gb227, 7, none⟩ = some (.int .i64 a0_7) := (blk_cell BK227.out 7).trans rfl
          have hcz8_8 : w3.cell? ⟨gb227, 8, none⟩ = some (.int .i64 a0_8) := (blk_cell BK227.out 8).trans rfl
          have hcz8_9 : w3.cell? ⟨gb227, 9, none⟩ = some (.int .i64 a0_9) := (blk_cell BK227.out 9).trans rfl
          have hfz8_0 := blk_frozen BK227.out 0
          have hfz8_1 := blk_frozen BK227.out 1
          have hfz8_2 := blk_frozen BK227.out 2
          have hfz8_3 := blk_frozen BK227.out 3
          have hfz8_4 := blk_frozen BK227.out 4
          have hfz8_5 := blk_frozen BK227.out 5
          have hfz8_6 := blk_frozen BK227.out 6
          have hfz8_7 := blk_frozen BK227.out 7
          have hfz8_8 := blk_frozen BK227.out 8
          have hfz8_9 := blk_frozen BK227.out 9
          go_wp2
          go_meet
          case rel => exact ⟨_, (true), (by first | rfl | (simp; done) | (simp [*]; done)), H', ⟨by first | omega | exact Nat.le_refl _⟩, ⟨by (with_reducible repeat (first | refine blk_drewN ?_ _ | refine blk_drew ?_ | refine blk_alloc ?_ _)); exact BK227.out⟩, ⟨by repeat (first | (with_reducible first | exact HB.out | apply below_alloc | apply pw_below_drewN | apply below_drew1 | refine below_set ?_ GE227.out) | exact HB.out)⟩⟩
        · rw [if_neg c7] at H
          have c7b0 : decide (a0_0 < a0_1) = false := decide_eq_false c7
          clear c7
          have H' := Aside0.mk H
          clear H
          have hcz9_0 : w3.cell? ⟨gb227, 0, none⟩ = some (.int .i64 a0_0) := (blk_cell BK227.out 0).trans rfl
          have hcz9_1 : w3.cell? ⟨gb227, 1, none⟩ = some (.int .i64 a0_1) := (blk_cell BK227.out 1).trans rfl
          have hcz9_2 : w3.cell? ⟨gb227, 2, none⟩ = some (.bool a0_2) := (blk_cell BK227.out 2).trans rfl
          have hcz9_3 : w3.cell? ⟨gb227, 3, none⟩ = some (.bool a0_3) := (blk_cell BK227.out 3).trans rfl
          have hcz9_4 : w3.cell? ⟨gb227, 4, none⟩ = some (.int .i64 a0_4) := (blk_cell BK227.out 4).trans rfl
          have hcz9_5 : w3.cell? ⟨gb227, 5, none⟩ = some (.int .i64 a0_5) := (blk_cell BK227.out 5).trans rfl
          have hcz9_6 : w3.cell? ⟨gb227, 6, none⟩ = some (.int .i64 a0_6) := (blk_cell BK227.out 6).trans rfl
          have hcz9_7 : w3.cell? ⟨gb227, 7, none⟩ = some (.int .i64 a0_7) := (blk_cell BK227.out 7).trans rfl
          have hcz9_8 : w3.cell? ⟨gb227, 8, none⟩ = some (.int .i64 a0_8) := (blk_cell BK227.out 8).trans rfl
          have hcz9_9 : w3.cell? ⟨gb227, 9, none⟩ = some (.int .i64 a0_9) := (blk_cell BK227.out 9).trans rfl
          have hfz9_0 := blk_frozen BK227.out 0
          have hfz9_1 := blk_frozen BK227.out 1
          have hfz9_2 := blk_frozen BK227.out 2
          have hfz9_3 := blk_frozen BK227.out 3
          have hfz9_4 := blk_frozen BK227.out 4
          have hfz9_5 := blk_frozen BK227.out 5
          have hfz9_6 := blk_frozen BK227.out 6
          have hfz9_7 := blk_frozen BK227.out 7
          have hfz9_8 := blk_frozen BK227.out 8
          have hfz9_9 := blk_frozen BK227.out 9
          go_wp2
          go_meet
          case rel => exact ⟨_, (!a0_3), (by first | rfl | (simp; done) | (simp [*]; done)), H', ⟨by first | omega | exact Nat.le_refl _⟩, ⟨by (with_reducible repeat (first | refine blk_drewN ?_ _ | refine blk_drew ?_ | refine blk_alloc ?_ _)); exact BK227.out⟩, ⟨by repeat (first | (with_reducible first | exact HB.out | apply below_alloc | apply pw_below_drewN | apply below_drew1 | refine below_set ?_ GE227.out) | exact HB.out)⟩⟩
    · rw [if_neg c4] at H
      have c4b0 : (a0_0 == 8) = false := beq_eq_false_iff_ne.mpr c4
      have c4b1 : (a0_0 != 8) = true := bne_iff_ne.mpr c4
      (first | rw [c4b0] | (simp only [i64_w, i32_w]; rw [c4b0]) | skip)
      by_cases c10 : a0_0 = 16
      · rw [if_pos c10] at H
        have c10b0 : (a0_0 == 16) = true := beq_iff_eq.mpr c10
        have c10b1 : (a0_0 != 16) = false := bne_eq_false_iff_eq.mpr c10
        clear c10
        by_cases c11 : a0_1 < 1
        · rw [if_pos c11] at H
          have c11b0 : decide (a0_1 < 1) = true := decide_eq_true c11
          clear c11
          have H' := Aside0.mk H
          clear H
          have hcz12_0 : w3.cell? ⟨gb227, 0, none⟩ = some (.int .i64 a0_0) := (blk_cell BK227.out 0).trans rfl
          have hcz12_1 : w3.cell? ⟨gb227, 1, none⟩ = some (.int .i64 a0_1) := (blk_cell BK227.out 1).trans rfl
          have hcz12_2 : w3.cell? ⟨gb227, 2, none⟩ = some (.bool a0_2) := (blk_cell BK227.out 2).trans rfl
          have hcz12_3 : w3.cell? ⟨gb227, 3, none⟩ = some (.bool a0_3) := (blk_cell BK227.out 3).trans rfl
          have hcz12_4 : w3.cell? ⟨gb227, 4, none⟩ = some (.int .i64 a0_4) := (blk_cell BK227.out 4).trans rfl
          have hcz12_5 : w3.cell? ⟨gb227, 5, none⟩ = some (.int .i64 a0_5) := (blk_cell BK227.out 5).trans rfl
          have hcz12_6 : w3.cell? ⟨gb227, 6, none⟩ = some (.int .i64 a0_6) := (blk_cell BK227.out 6).trans rfl
          have hcz12_7 : w3.cell? ⟨gb227, 7, none⟩ = some (.int .i64 a0_7) := (blk_cell BK227.out 7).trans rfl
          have hcz12_8 : w3.cell? ⟨gb227, 8, none⟩ = some (.int .i64 a0_8) := (blk_cell BK227.out 8).trans rfl
          have hcz12_9 : w3.cell? ⟨gb227, 9, none⟩ = some (.int .i64 a0_9) := (blk_cell BK227.out 9).trans rfl
          have hfz12_0 := blk_frozen BK227.out 0
          have hfz12_1 := blk_frozen BK227.out 1
          have hfz12_2 := blk_frozen BK227.out 2
          have hfz12_3 := blk_frozen BK227.out 3
          have hfz12_4 := blk_frozen BK227.out 4
          have hfz12_5 := blk_frozen BK227.out 5
          have hfz12_6 := blk_frozen BK227.out 6
          have hfz12_7 := blk_frozen BK227.out 7
          have hfz12_8 := blk_frozen BK227.out 8
          have hfz12_9 := blk_frozen BK227.out 9
          go_wp2
          go_meet
          case rel => exact ⟨_, (true), (by first | rfl | (simp; done) | (simp [*]; done)), H', ⟨by first | omega | exact Nat.le_refl _⟩, ⟨by (with_reducible repeat (first | refine blk_drewN ?_ _ | refine blk_drew ?_ | refine blk_alloc ?_ _)); exact BK227.out⟩, ⟨by repeat (first | (with_reducible first | exact HB.out | apply below_alloc | apply pw_below_drewN | apply below_drew1 | refine below_set ?_ GE227.out) | exact HB.out)⟩⟩
        · rw [if_neg c11] at H
          have c11b0 : decide (a0_1 < 1) = false := decide_eq_false c11
          clear c11
          by_cases c13 : a0_1 > a0_0
          · rw [if_pos c13] at H
            have c13b0 : decide (a0_0 < a0_1) = true := decide_eq_true c13
            clear c13
            have H' := Aside0.mk H
            clear H
            have hcz14_0 : w3.cell? ⟨gb227, 0, none⟩ = some (.int .i64 a0_0) := (blk_cell BK227.out 0).trans rfl
            have hcz14_1 : w3.cell? ⟨gb227, 1, none⟩ = some (.int .i64 a0_1) := (blk_cell BK227.out 1).trans rfl
            have hcz14_2 : w3.cell? ⟨gb227, 2, none⟩ = some (.bool a0_2) := (blk_cell BK227.out 2).trans rfl
            have hcz14_3 : w3.cell? ⟨gb227, 3, none⟩ = some (.bool a0_3) := (blk_cell BK227.out 3).trans rfl
            have hcz14_4 : w3.cell? ⟨gb227, 4, none⟩ = some (.int .i64 a0_4) := (blk_cell BK227.out 4).trans rfl
            have hcz14_5 : w3.cell? ⟨gb227, 5, none⟩ = some (.int .i64 a0_5) := (blk_cell BK227.out 5).trans rfl
            have hcz14_6 : w3.cell? ⟨gb227, 6, none⟩ = some (.int .i64 a0_6) := (blk_cell BK227.out 6).trans rfl
            have hcz14_7 : w3.cell? ⟨gb227, 7, none⟩ = some (.int .i64 a0_7) := (blk_cell BK227.out 7).trans rfl
            have hcz14_8 : w3.cell? ⟨gb227, 8, none⟩ = some (.int .i64 a0_8) := (blk_cell BK227.out 8).trans rfl
            have hcz14_9 : w3.cell? ⟨gb227, 9, none⟩ = some (.int .i64 a0_9) := (blk_cell BK227.out 9).trans rfl
            have hfz14_0 := blk_frozen BK227.out 0
            have hfz14_1 := blk_frozen BK227.out 1
            have hfz14_2 := blk_frozen BK227.out 2
            have hfz14_3 := blk_frozen BK227.out 3
            have hfz14_4 := blk_frozen BK227.out 4
            have hfz14_5 := blk_frozen BK227.out 5
            have hfz14_6 := blk_frozen BK227.out 6
            have hfz14_7 := blk_frozen BK227.out 7
            have hfz14_8 := blk_frozen BK227.out 8
            have hfz14_9 := blk_frozen BK227.out 9
            go_wp2
            go_meet
            case rel => exact ⟨_, (true), (by first | rfl | (simp; done) | (simp [*]; done)), H', ⟨by first | omega | exact Nat.le_refl _⟩, ⟨by (with_reducible repeat (first | refine blk_drewN ?_ _ | refine blk_drew ?_ | refine blk_alloc ?_ _)); exact BK227.out⟩, ⟨by repeat (first | (with_reducible first | exact HB.out | apply below_alloc | apply pw_below_drewN | apply below_drew1 | refine below_set ?_ GE227.out) | exact HB.out)⟩⟩
          · rw [if_neg c13] at H
            have c13b0 : decide (a0_0 < a0_1) = false := decide_eq_false c13
            clear c13
            have H' := Aside0.mk H
            clear H
            have hcz15_0 : w3.cell? ⟨gb227, 0, none⟩ = some (.int .i64 a0_0) := (blk_cell BK227.out 0).trans rfl
            have hcz15_1 : w3.cell? ⟨gb227, 1, none⟩ = some (.int .i64 a0_1) := (blk_cell BK227.out 1).trans rfl
            have hcz15_2 : w3.cell? ⟨gb227, 2, none⟩ = some (.bool a0_2) := (blk_cell BK227.out 2).trans rfl
            have hcz15_3 : w3.cell? ⟨gb227, 3, none⟩ = some (.bool a0_3) := (blk_cell BK227.out 3).trans rfl
            have hcz15_4 : w3.cell? ⟨gb227, 4, none⟩ = some (.int .i64 a0_4) := (blk_cell BK227.out 4).trans rfl
            have hcz15_5 : w3.cell? ⟨gb227, 5, none⟩ = some (.int .i64 a0_5) := (blk_cell BK227.out 5).trans rfl
            have hcz15_6 : w3.cell? ⟨gb227, 6, none⟩ = some (.int .i64 a0_6) := (blk_cell BK227.out 6).trans rfl
            have hcz15_7 : w3.cell? ⟨gb227, 7, none⟩ = some (.int .i64 a0_7) := (blk_cell BK227.out 7).trans rfl
            have hcz15_8 : w3.cell? ⟨gb227, 8, none⟩ = some (.int .i64 a0_8) := (blk_cell BK227.out 8).trans rfl
            have hcz15_9 : w3.cell? ⟨gb227, 9, none⟩ = some (.int .i64 a0_9) := (blk_cell BK227.out 9).trans rfl
            have hfz15_0 := blk_frozen BK227.out 0
            have hfz15_1 := blk_frozen BK227.out 1
            have hfz15_2 := blk_frozen BK227.out 2
            have hfz15_3 := blk_frozen BK227.out 3
            have hfz15_4 := blk_frozen BK227.out 4
            have hfz15_5 := blk_frozen BK227.out 5
            have hfz15_6 := blk_frozen BK227.out 6
            have hfz15_7 := blk_frozen BK227.out 7
            have hfz15_8 := blk_frozen BK227.out 8
            have hfz15_9 := blk_frozen BK227.out 9
            go_wp2
            go_meet
            case rel => exact ⟨_, (!a0_3), (by first | rfl | (simp; done) | (simp [*]; done)), H', ⟨by first | omega | exact Nat.le_refl _⟩, ⟨by (with_reducible repeat (first | refine blk_drewN ?_ _ | refine blk_drew ?_ | refine blk_alloc ?_ _)); exact BK227.out⟩, ⟨by repeat (first | (with_reducible first | exact HB.out | apply below_alloc | apply pw_below_drewN | apply below_drew1 | refine below_set ?_ GE227.out) | exact HB.out)⟩⟩
      · rw [if_neg c10] at H
        have c10b0 : (a0_0 == 16) = false := beq_eq_false_iff_ne.mpr c10
        have c10b1 : (a0_0 != 16) = true := bne_iff_ne.mpr c10
        by_cases c16 : a0_0 = 32
        · rw [if_pos c16] at H
          have c16b0 : (a0_0 == 32) = true := beq_iff_eq.mpr c16
          have c16b1 : (a0_0 != 32) = false := bne_eq_false_iff_eq.mpr c16
          clear c16
          by_cases c17 : a0_1 < 1
          · rw [if_pos c17] at H
            have c17b0 : decide (a0_1 < 1) = true := decide_eq_true c17
            clear c17
            have H' := Aside0.mk H
            clear H
            have hcz18_0 : w3.cell? ⟨gb227, 0, none⟩ = some (.int .i64 a0_0) := (blk_cell BK227.out 0).trans rfl
            have hcz18_1 : w3.cell? ⟨gb227, 1, none⟩ = some (.int .i64 a0_1) := (blk_cell BK227.out 1).trans rfl
            have hcz18_2 : w3.cell? ⟨gb227, 2, none⟩ = some (.bool a0_2) := (blk_cell BK227.out 2).trans rfl
            have hcz18_3 : w3.cell? ⟨gb227, 3, none⟩ = some (.bool a0_3) := (blk_cell BK227.out 3).trans rfl
            have hcz18_4 : w3.cell? ⟨gb227, 4, none⟩ = some (.int .i64 a0_4) := (blk_cell BK227.out 4).trans rfl
            have hcz18_5 : w3.cell? ⟨gb227, 5, none⟩ = some (.int .i64 a0_5) := (blk_cell BK227.out 5).trans rfl
            have hcz18_6 : w3.cell? ⟨gb227, 6, none⟩ = some (.int .i64 a0_6) := (blk_cell BK227.out 6).trans rfl
            have hcz18_7 : w3.cell? ⟨gb227, 7, none⟩ = some (.int .i64 a0_7) := (blk_cell BK227.out 7).trans rfl
            have hcz18_8 : w3.cell? ⟨gb227, 8, none⟩ = some (.int .i64 a0_8) := (blk_cell BK227.out 8).trans rfl
            have hcz18_9 : w3.cell? ⟨gb227, 9, none⟩ = some (.int .i64 a0_9) := (blk_cell BK227.out 9).trans rfl
            have hfz18_0 := blk_frozen BK227.out 0
            have hfz18_1 := blk_frozen BK227.out 1
            have hfz18_2 := blk_frozen BK227.out 2
            have hfz18_3 := blk_frozen BK227.out 3
            have hfz18_4 := blk_frozen BK227.out 4
            have hfz18_5 := blk_frozen BK227.out 5
            have hfz18_6 := blk_frozen BK227.out 6
            have hfz18_7 := blk_frozen BK227.out 7
            have hfz18_8 := blk_frozen BK227.out 8
            have hfz18_9 := blk_frozen BK227.out 9
            go_wp2
            go_meet
            case rel => exact ⟨_, (true), (by first | rfl | (simp; done) | (simp [*]; done)), H', ⟨by first | omega | exact Nat.le_refl _⟩, ⟨by (with_reducible repeat (first | refine blk_drewN ?_ _ | refine blk_drew ?_ | refine blk_alloc ?_ _)); exact BK227.out⟩, ⟨by repeat (first | (with_reducible first | exact HB.out | apply below_alloc | apply pw_below_drewN | apply below_drew1 | refine below_set ?_ GE227.out) | exact HB.out)⟩⟩
          · rw [if_neg c17] at H
            have c17b0 : decide (a0_1 < 1) = false := decide_eq_false c17
            clear c17
            by_cases c19 : a0_1 > a0_0
            · rw [if_pos c19] at H
              have c19b0 : decide (a0_0 < a0_1) = true := decide_eq_true c19
              clear c19
              have H' := Aside0.mk H
              clear H
              have hcz20_0 : w3.cell? ⟨gb227, 0, none⟩ = some (.int .i64 a0_0) := (blk_cell BK227.out 0).trans rfl
              have hcz20_1 : w3.cell? ⟨gb227, 1, none⟩ = some (.int .i64 a0_1) := (blk_cell BK227.out 1).trans rfl
              have hcz20_2 : w3.cell? ⟨gb227, 2, none⟩ = some (.bool a0_2) := (blk_cell BK227.out 2).trans rfl
              have hcz20_3 : w3.cell? ⟨gb227, 3, none⟩ = some (.bool a0_3) := (blk_cell BK227.out 3).trans rfl
              have hcz20_4 : w3.cell? ⟨gb227, 4, none⟩ = some (.int .i64 a0_4) := (blk_cell BK227.out 4).trans rfl
              have hcz20_5 : w3.cell? ⟨gb227, 5, none⟩ = some (.int .i64 a0_5) := (blk_cell BK227.out 5).trans rfl
              have hcz20_6 : w3.cell? ⟨gb227, 6, none⟩ = some (.int .i64 a0_6) := (blk_cell BK227.out 6).trans rfl
              have hcz20_7 : w3.cell? ⟨gb227, 7, none⟩ = some (.int .i64 a0_7) := (blk_cell BK227.out 7).trans rfl
              have hcz20_8 : w3.cell? ⟨gb227, 8, none⟩ = some (.int .i64 a0_8) := (blk_cell BK227.out 8).trans rfl
              have hcz20_9 : w3.cell? ⟨gb227, 9, none⟩ = some (.int .i64 a0_9) := (blk_cell BK227.out 9).trans rfl
              have hfz20_0 := blk_frozen BK227.out 0
              have hfz20_1 := blk_frozen BK227.out 1
              have hfz20_2 := blk_frozen BK227.out 2
              have hfz20_3 := blk_frozen BK227.out 3
              have hfz20_4 := blk_frozen BK227.out 4
              have hfz20_5 := blk_frozen BK227.out 5
              have hfz20_6 := blk_frozen BK227.out 6
              have hfz20_7 := blk_frozen BK227.out 7
              have hfz20_8 := blk_frozen BK227.out 8
              have hfz20_9 := blk_frozen BK227.out 9
              go_wp2
              go_meet
              case rel => exact ⟨_, (true), (by first | rfl | (simp; done) | (simp [*]; done)), H', ⟨by first | omega | exact Nat.le_refl _⟩, ⟨by (with_reducible repeat (first | refine blk_drewN ?_ _ | refine blk_drew ?_ | refine blk_alloc ?_ _)); exact BK227.out⟩, ⟨by repeat (first | (with_reducible first | exact HB.out | apply below_alloc | apply pw_below_drewN | apply below_drew1 | refine below_set ?_ GE227.out) | exact HB.out)⟩⟩
            · rw [if_neg c19] at H
              have c19b0 : decide (a0_0 < a0_1) = false := decide_eq_false c19
              clear c19
              have H' := Aside0.mk H
              clear H
              have hcz21_0 : w3.cell? ⟨gb227, 0, none⟩ = some (.int .i64 a0_0) := (blk_cell BK227.out 0).trans rfl
              have hcz21_1 : w3.cell? ⟨gb227, 1, none⟩ = some (.int .i64 a0_1) := (blk_cell BK227.out 1).trans rfl
              have hcz21_2 : w3.cell? ⟨gb227, 2, none⟩ = some (.bool a0_2) := (blk_cell BK227.out 2).trans rfl
              have hcz21_3 : w3.cell? ⟨gb227, 3, none⟩ = some (.bool a0_3) := (blk_cell BK227.out 3).trans rfl
              have hcz21_4 : w3.cell? ⟨gb227, 4, none⟩ = some (.int .i64 a0_4) := (blk_cell BK227.out 4).trans rfl
              have hcz21_5 : w3.cell? ⟨gb227, 5, none⟩ = some (.int .i64 a0_5) := (blk_cell BK227.out 5).trans rfl
              have hcz21_6 : w3.cell? ⟨gb227, 6, none⟩ = some (.int .i64 a0_6) := (blk_cell BK227.out 6).trans rfl
              have hcz21_7 : w3.cell? ⟨gb227, 7, none⟩ = some (.int .i64 a0_7) := (blk_cell BK227.out 7).trans rfl
              have hcz21_8 : w3.cell? ⟨gb227, 8, none⟩ = some (.int .i64 a0_8) := (blk_cell BK227.out 8).trans rfl
              have hcz21_9 : w3.cell? ⟨gb227, 9, none⟩ = some (.int .i64 a0_9) := (blk_cell BK227.out 9).trans rfl
              have hfz21_0 := blk_frozen BK227.out 0
              have hfz21_1 := blk_frozen BK227.out 1
              have hfz21_2 := blk_frozen BK227.out 2
              have hfz21_3 := blk_frozen BK227.out 3
              have hfz21_4 := blk_frozen BK227.out 4
              have hfz21_5 := blk_frozen BK227.out 5
              have hfz21_6 := blk_frozen BK227.out 6
              have hfz21_7 := blk_frozen BK227.out 7
              have hfz21_8 := blk_frozen BK227.out 8
              have hfz21_9 := blk_frozen BK227.out 9
              go_wp2
              go_meet
              case rel => exact ⟨_, (!a0_3), (by first | rfl | (simp; done) | (simp [*]; done)), H', ⟨by first | omega | exact Nat.le_refl _⟩, ⟨by (with_reducible repeat (first | refine blk_drewN ?_ _ | refine blk_drew ?_ | refine blk_alloc ?_ _)); exact BK227.out⟩, ⟨by repeat (first | (with_reducible first | exact HB.out | apply below_alloc | apply pw_below_drewN | apply below_drew1 | refine below_set ?_ GE227.out) | exact HB.out)⟩⟩
        · rw [if_neg c16] at H
          have c16b0 : (a0_0 == 32) = false := beq_eq_false_iff_ne.mpr c16
          have c16b1 : (a0_0 != 32) = true := bne_iff_ne.mpr c16
          have H' := Aside0.mk H
          clear H
          have hcz22_0 : w3.cell? ⟨gb227, 0, none⟩ = some (.int .i64 a0_0) := (blk_cell BK227.out 0).trans rfl
          have hcz22_1 : w3.cell? ⟨gb227, 1, none⟩ = some (.int .i64 a0_1) := (blk_cell BK227.out 1).trans rfl
          have hcz22_2 : w3.cell? ⟨gb227, 2, none⟩ = some (.bool a0_2) := (blk_cell BK227.out 2).trans rfl
          have hcz22_3 : w3.cell? ⟨gb227, 3, none⟩ = some (.bool a0_3) := (blk_cell BK227.out 3).trans rfl
          have hcz22_4 : w3.cell? ⟨gb227, 4, none⟩ = some (.int .i64 a0_4) := (blk_cell BK227.out 4).trans rfl
          have hcz22_5 : w3.cell? ⟨gb227, 5, none⟩ = some (.int .i64 a0_5) := (blk_cell BK227.out 5).trans rfl
          have hcz22_6 : w3.cell? ⟨gb227, 6, none⟩ = some (.int .i64 a0_6) := (blk_cell BK227.out 6).trans rfl
          have hcz22_7 : w3.cell? ⟨gb227, 7, none⟩ = some (.int .i64 a0_7) := (blk_cell BK227.out 7).trans rfl
          have hcz22_8 : w3.cell? ⟨gb227, 8, none⟩ = some (.int .i64 a0_8) := (blk_cell BK227.out 8).trans rfl
          have hcz22_9 : w3.cell? ⟨gb227, 9, none⟩ = some (.int .i64 a0_9) := (blk_cell BK227.out 9).trans rfl
          have hfz22_0 := blk_frozen BK227.out 0
          have hfz22_1 := blk_frozen BK227.out 1
          have hfz22_2 := blk_frozen BK227.out 2
          have hfz22_3 := blk_frozen BK227.out 3
          have hfz22_4 := blk_frozen BK227.out 4
          have hfz22_5 := blk_frozen BK227.out 5
          have hfz22_6 := blk_frozen BK227.out 6
          have hfz22_7 := blk_frozen BK227.out 7
          have hfz22_8 := blk_frozen BK227.out 8
          have hfz22_9 := blk_frozen BK227.out 9
          go_wp2
          go_meet
          case rel => exact ⟨_, (true), (by first | rfl | (simp; done) | (simp [*]; done)), H', ⟨by first | omega | exact Nat.le_refl _⟩, ⟨by (with_reducible repeat (first | refine blk_drewN ?_ _ | refine blk_drew ?_ | refine blk_alloc ?_ _)); exact BK227.out⟩, ⟨by repeat (first | (with_reducible first | exact HB.out | apply below_alloc | apply pw_below_drewN | apply below_drew1 | refine below_set ?_ GE227.out) | exact HB.out)⟩⟩
  case rest =>
    clear HC2
    try clear c1
    try clear p2
    try clear c3
    try clear c4
    try clear c4b0
    try clear c4b1
    try clear c5
    try clear c5b0
    try clear c7
    try clear c7b0
    try clear c10
    try clear c10b0
    try clear c10b1
    try clear c11
    try clear c11b0
    try clear c13
    try clear c13b0
    try clear c16
    try clear c16b0
    try clear c16b1
    try clear c17
    try clear c17b0
    try clear c19
    try clear c19b0
    try clear hcz12_0
    try clear hcz12_1
    try clear hcz12_2
    try clear hcz12_3
    try clear hcz12_4
    try clear hcz12_5
    try clear hcz12_6
    try clear hcz12_7
    try clear hcz12_8
    try clear hcz12_9
    try clear hcz14_0
    try clear hcz14_1
    try clear hcz14_2
    try clear hcz14_3
    try clear hcz14_4
    try clear hcz14_5
    try clear hcz14_6
    try clear hcz14_7
    try clear hcz14_8
    try clear hcz14_9
    try clear hcz15_0
    try clear hcz15_1
    try clear hcz15_2
    try clear hcz15_3
    try clear hcz15_4
    try clear hcz15_5
    try clear hcz15_6
    try clear hcz15_7
    try clear hcz15_8
    try clear hcz15_9
    try clear hcz18_0
    try clear hcz18_1
    try clear hcz18_2
    try clear hcz18_3
    try clear hcz18_4
    try clear hcz18_5
    try clear hcz18_6
    try clear hcz18_7
    try clear hcz18_8
    try clear hcz18_9
    try clear hcz20_0
    try clear hcz20_1
    try clear hcz20_2
    try clear hcz20_3
    try clear hcz20_4
    try clear hcz20_5
    try clear hcz20_6
    try clear hcz20_7
    try clear hcz20_8
    try clear hcz20_9
    try clear hcz21_0
    try clear hcz21_1
    try clear hcz21_2
    try clear hcz21_3
    try clear hcz21_4
    try clear hcz21_5
    try clear hcz21_6
    try clear hcz21_7
    try clear hcz21_8
    try clear hcz21_9
    try clear hcz22_0
    try clear hcz22_1
    try clear hcz22_2
    try clear hcz22_3
    try clear hcz22_4
    try clear hcz22_5
    try clear hcz22_6
    try clear hcz22_7
    try clear hcz22_8
    try clear hcz22_9
    try clear hcz6_0
    try clear hcz6_1
    try clear hcz6_2
    try clear hcz6_3
    try clear hcz6_4
    try clear hcz6_5
    try clear hcz6_6
    try clear hcz6_7
    try clear hcz6_8
    try clear hcz6_9
    try clear hcz8_0
    try clear hcz8_1
    try clear hcz8_2
    try clear hcz8_3
    try clear hcz8_4
    try clear hcz8_5
    try clear hcz8_6
    try clear hcz8_7
    try clear hcz8_8
    try clear hcz8_9
    try clear hcz9_0
    try clear hcz9_1
    try clear hcz9_2
    try clear hcz9_3
    try clear hcz9_4
    try clear hcz9_5
    try clear hcz9_6
    try clear hcz9_7
    try clear hcz9_8
    try clear hcz9_9
    try clear hfz12_0
    try clear hfz12_1
    try clear hfz12_2
    try clear hfz12_3
    try clear hfz12_4
    try clear hfz12_5
    try clear hfz12_6
    try clear hfz12_7
    try clear hfz12_8
    try clear hfz12_9
    try clear hfz14_0
    try clear hfz14_1
    try clear hfz14_2
    try clear hfz14_3
    try clear hfz14_4
    try clear hfz14_5
    try clear hfz14_6
    try clear hfz14_7
    try clear hfz14_8
    try clear hfz14_9
    try clear hfz15_0
    try clear hfz15_1
    try clear hfz15_2
    try clear hfz15_3
    try clear hfz15_4
    try clear hfz15_5
    try clear hfz15_6
    try clear hfz15_7
    try clear hfz15_8
    try clear hfz15_9
    try clear hfz18_0
    try clear hfz18_1
    try clear hfz18_2
    try clear hfz18_3
    try clear hfz18_4
    try clear hfz18_5
    try clear hfz18_6
    try clear hfz18_7
    try clear hfz18_8
    try clear hfz18_9
    try clear hfz20_0
    try clear hfz20_1
    try clear hfz20_2
    try clear hfz20_3
    try clear hfz20_4
    try clear hfz20_5
    try clear hfz20_6
    try clear hfz20_7
    try clear hfz20_8
    try clear hfz20_9
    try clear hfz21_0
    try clear hfz21_1
    try clear hfz21_2
    try clear hfz21_3
    try clear hfz21_4
    try clear hfz21_5
    try clear hfz21_6
    try clear hfz21_7
    try clear hfz21_8
    try clear hfz21_9
    try clear hfz22_0
    try clear hfz22_1
    try clear hfz22_2
    try clear hfz22_3
    try clear hfz22_4
    try clear hfz22_5
    try clear hfz22_6
    try clear hfz22_7
    try clear hfz22_8
    try clear hfz22_9
    try clear hfz6_0
    try clear hfz6_1
    try clear hfz6_2
    try clear hfz6_3
    try clear hfz6_4
    try clear hfz6_5
    try clear hfz6_6
    try clear hfz6_7
    try clear hfz6_8
    try clear hfz6_9
    try clear hfz8_0
    try clear hfz8_1
    try clear hfz8_2
    try clear hfz8_3
    try clear hfz8_4
    try clear hfz8_5
    try clear hfz8_6
    try clear hfz8_7
    try clear hfz8_8
    try clear hfz8_9
    try clear hfz9_0
    try clear hfz9_1
    try clear hfz9_2
    try clear hfz9_3
    try clear hfz9_4
    try clear hfz9_5
    try clear hfz9_6
    try clear hfz9_7
    try clear hfz9_8
    try clear hfz9_9
    obtain ⟨kq, x35_1, rfl, HA, HJ1, BK227, HB⟩ := hcut
    cases kq with
    | zero => exact absurd HA.out (by simp [miradorref13_Valid.j0])
    | succ kj1 =>
      have H := HA.out
      clear HA
      simp only [miradorref13_Valid.j0] at H
      by_cases c23 : x35_1 = true
      · subst c23
        have H1 : (some false) = some r := by rw [if_pos rfl] at H; exact H
        clear H
        have H := H1
        clear H1
        obtain rfl := Option.some.inj H
        go_wp2
        go_ret
        exact ⟨by first | rfl | (simp [errW_none, errW_some] <;> rfl) | (simp [*, errW_none, errW_some] <;> rfl), by repeat (first | (with_reducible first | exact HB.out | apply below_alloc | apply pw_below_drewN | apply below_drew1 | refine below_set ?_ GE227.out) | exact HB.out)⟩
      · replace c23 := Bool.eq_false_iff.mpr c23
        subst c23
        have H1 : ((miradorref13_part.f kj1 a0_0 a0_4 a0_7).bind fun t228 => (if t228 = true then ((miradorref13_part.f kj1 a0_0 a0_5 a0_8).bind fun t229 => (if t229 = true then ((miradorref13_part.f kj1 a0_0 a0_6 a0_9).bind fun t230 => (miradorref13_Valid.j1 kj1 (!t230) a0_0 a0_1 a0_2 a0_3 a0_4 a0_5 a0_6 a0_7 a0_8 a0_9)) else (miradorref13_Valid.j1 kj1 true a0_0 a0_1 a0_2 a0_3 a0_4 a0_5 a0_6 a0_7 a0_8 a0_9))) else (miradorref13_Valid.j1 kj1 true a0_0 a0_1 a0_2 a0_3 a0_4 a0_5 a0_6 a0_7 a0_8 a0_9))) = some r := by rw [if_neg (show ¬ (false = true) by decide)] at H; exact H
        clear H
        have H := H1
        clear H1
        have HC24 := Aside0.mk H
        clear H
        go_upto_region 3 with (fail)
        go_cut [63] (fun v63 wc => ∃ (kq : Nat) (x63_23 : Bool), v63 = .bool x63_23 ∧ Aside0 (miradorref13_Valid.j1 kq x63_23 a0_0 a0_1 a0_2 a0_3 a0_4 a0_5 a0_6 a0_7 a0_8 a0_9 = some r) ∧ Aside0 (kq ≤ kj1) ∧ Aside0 (wc.heap[gb227]? = some (.cells #[.int .i64 a0_0, .int .i64 a0_1, .bool a0_2, .bool a0_3, .int .i64 a0_4, .int .i64 a0_5, .int .i64 a0_6, .int .i64 a0_7, .int .i64 a0_8, .int .i64 a0_9] 37 (0, 0))) ∧ Aside0 (Below w.heap.size w wc))
        case first =>
          have H := HC24.out
          clear HC24
          replace H := Option.bind_eq_some_iff.mp H
          obtain ⟨t228, A250, H⟩ := H
          replace H : (if t228 = true then ((miradorref13_part.f kj1 a0_0 a0_5 a0_8).bind fun t229 => (if t229 = true then ((miradorref13_part.f kj1 a0_0 a0_6 a0_9).bind fun t230 => (miradorref13_Valid.j1 kj1 (!t230) a0_0 a0_1 a0_2 a0_3 a0_4 a0_5 a0_6 a0_7 a0_8 a0_9)) else (miradorref13_Valid.j1 kj1 true a0_0 a0_1 a0_2 a0_3 a0_4 a0_5 a0_6 a0_7 a0_8 a0_9))) else (miradorref13_Valid.j1 kj1 true a0_0 a0_1 a0_2 a0_3 a0_4 a0_5 a0_6 a0_7 a0_8 a0_9)) = some r := H
          have A25 := Aside0.mk A250
          clear A250
          by_cases c26 : t228 = true
          · subst c26
            have H1 : ((miradorref13_part.f kj1 a0_0 a0_5 a0_8).bind fun t229 => (if t229 = true then ((miradorref13_part.f kj1 a0_0 a0_6 a0_9).bind fun t230 => (miradorref13_Valid.j1 kj1 (!t230) a0_0 a0_1 a0_2 a0_3 a0_4 a0_5 a0_6 a0_7 a0_8 a0_9)) else (miradorref13_Valid.j1 kj1 true a0_0 a0_1 a0_2 a0_3 a0_4 a0_5 a0_6 a0_7 a0_8 a0_9))) = some r := by rw [if_pos rfl] at H; exact H
            clear H
            have H := H1
            clear H1
            replace H := Option.bind_eq_some_iff.mp H
            obtain ⟨t229, A270, H⟩ := H
            replace H : (if t229 = true then ((miradorref13_part.f kj1 a0_0 a0_6 a0_9).bind fun t230 => (miradorref13_Valid.j1 kj1 (!t230) a0_0 a0_1 a0_2 a0_3 a0_4 a0_5 a0_6 a0_7 a0_8 a0_9)) else (miradorref13_Valid.j1 kj1 true a0_0 a0_1 a0_2 a0_3 a0_4 a0_5 a0_6 a0_7 a0_8 a0_9)) = some r := H
            have A27 := Aside0.mk A270
            clear A270
            by_cases c28 : t229 = true
            · subst c28
              have H1 : ((miradorref13_part.f kj1 a0_0 a0_6 a0_9).bind fun t230 => (miradorref13_Valid.j1 kj1 (!t230) a0_0 a0_1 a0_2 a0_3 a0_4 a0_5 a0_6 a0_7 a0_8 a0_9)) = some r := by rw [if_pos rfl] at H; exact H
              clear H
              have H := H1
              clear H1
              replace H := Option.bind_eq_some_iff.mp H
              obtain ⟨t230, A290, H⟩ := H
              replace H : (miradorref13_Valid.j1 kj1 (!t230) a0_0 a0_1 a0_2 a0_3 a0_4 a0_5 a0_6 a0_7 a0_8 a0_9) = some r := H
              have A29 := Aside0.mk A290
              clear A290
              have H' := Aside0.mk H
              clear H
              have hcz30_0 : wc.cell? ⟨gb227, 0, none⟩ = some (.int .i64 a0_0) := (blk_cell BK227.out 0).trans rfl
              have hcz30_1 : wc.cell? ⟨gb227, 1, none⟩ = some (.int .i64 a0_1) := (blk_cell BK227.out 1).trans rfl
              have hcz30_2 : wc.cell? ⟨gb227, 2, none⟩ = some (.bool a0_2) := (blk_cell BK227.out 2).trans rfl
              have hcz30_3 : wc.cell? ⟨gb227, 3, none⟩ = some (.bool a0_3) := (blk_cell BK227.out 3).trans rfl
              have hcz30_4 : wc.cell? ⟨gb227, 4, none⟩ = some (.int .i64 a0_4) := (blk_cell BK227.out 4).trans rfl
              have hcz30_5 : wc.cell? ⟨gb227, 5, none⟩ = some (.int .i64 a0_5) := (blk_cell BK227.out 5).trans rfl
              have hcz30_6 : wc.cell? ⟨gb227, 6, none⟩ = some (.int .i64 a0_6) := (blk_cell BK227.out 6).trans rfl
              have hcz30_7 : wc.cell? ⟨gb227, 7, none⟩ = some (.int .i64 a0_7) := (blk_cell BK227.out 7).trans rfl
              have hcz30_8 : wc.cell? ⟨gb227, 8, none⟩ = some (.int .i64 a0_8) := (blk_cell BK227.out 8).trans rfl
              have hcz30_9 : wc.cell? ⟨gb227, 9, none⟩ = some (.int .i64 a0_9) := (blk_cell BK227.out 9).trans rfl
              have hfz30_0 := blk_frozen BK227.out 0
              have hfz30_1 := blk_frozen BK227.out 1
              have hfz30_2 := blk_frozen BK227.out 2
              have hfz30_3 := blk_frozen BK227.out 3
              have hfz30_4 := blk_frozen BK227.out 4
              have hfz30_5 := blk_frozen BK227.out 5
              have hfz30_6 := blk_frozen BK227.out 6
              have hfz30_7 := blk_frozen BK227.out 7
              have hfz30_8 := blk_frozen BK227.out 8
              have hfz30_9 := blk_frozen BK227.out 9
              go_wp2_with (first | ((with_reducible refine gate_callee (f := 60) rfl ?_); refine goesL_ (some 42) rfl rfl Try.func60 (by kernel_rfl) rfl #[.int .i64 a0_0, .int .i64 a0_4, .int .i64 a0_7] rfl (by (try simp only [List.map_toArray, List.map_cons, List.map_nil]); first | done | rfl | (simp only [List.length_drop, List.length_take]; rfl)) ?_; (with_reducible refine (miradorref13_part.calls kj1 a0_0 a0_4 a0_7 true _ A25.out).mono ?_); rintro e w' ⟨rfl, ⟨nd, rfl⟩⟩; refine ⟨_, rfl, ?_⟩) | (go_at_call 60; (with_reducible refine (miradorref13_part.calls kj1 a0_0 a0_5 a0_8 true _ A27.out).mono ?_); rintro e w' ⟨rfl, ⟨nd, rfl⟩⟩) | (go_at_call 60; (with_reducible refine (miradorref13_part.calls kj1 a0_0 a0_6 a0_9 t230 _ A29.out).mono ?_); rintro e w' ⟨rfl, ⟨nd, rfl⟩⟩))
              go_meet
              case rel => exact ⟨_, (!t230), (by first | rfl | (simp; done) | (simp [*]; done)), H', ⟨by have := HJ1.out; first | omega | exact Nat.le_refl _⟩, ⟨by (with_reducible repeat (first | refine blk_drewN ?_ _ | refine blk_drew ?_ | refine blk_alloc ?_ _)); exact BK227.out⟩, ⟨by repeat (first | (with_reducible first | exact HB.out | apply below_alloc | apply pw_below_drewN | apply below_drew1 | refine below_set ?_ GE227.out) | exact HB.out)⟩⟩
            · replace c28 := Bool.eq_false_iff.mpr c28
              subst c28
              have H1 : (miradorref13_Valid.j1 kj1 true a0_0 a0_1 a0_2 a0_3 a0_4 a0_5 a0_6 a0_7 a0_8 a0_9) = some r := by rw [if_neg (show ¬ (false = true) by decide)] at H; exact H
              clear H
              have H := H1
              clear H1
              have H' := Aside0.mk H
              clear H
              have hcz31_0 : wc.cell? ⟨gb227, 0, none⟩ = some (.int .i64 a0_0) := (blk_cell BK227.out 0).trans rfl
              have hcz31_1 : wc.cell? ⟨gb227, 1, none⟩ = some (.int .i64 a0_1) := (blk_cell BK227.out 1).trans rfl
              have hcz31_2 : wc.cell? ⟨gb227, 2, none⟩ = some (.bool a0_2) := (blk_cell BK227.out 2).trans rfl
              have hcz31_3 : wc.cell? ⟨gb227, 3, none⟩ = some (.bool a0_3) := (blk_cell BK227.out 3).trans rfl
              have hcz31_4 : wc.cell? ⟨gb227, 4, none⟩ = some (.int .i64 a0_4) := (blk_cell BK227.out 4).trans rfl
              have hcz31_5 : wc.cell? ⟨gb227, 5, none⟩ = some (.int .i64 a0_5) := (blk_cell BK227.out 5).trans rfl
              have hcz31_6 : wc.cell? ⟨gb227, 6, none⟩ = some (.int .i64 a0_6) := (blk_cell BK227.out 6).trans rfl
              have hcz31_7 : wc.cell? ⟨gb227, 7, none⟩ = some (.int .i64 a0_7) := (blk_cell BK227.out 7).trans rfl
              have hcz31_8 : wc.cell? ⟨gb227, 8, none⟩ = some (.int .i64 a0_8) := (blk_cell BK227.out 8).trans rfl
              have hcz31_9 : wc.cell? ⟨gb227, 9, none⟩ = some (.int .i64 a0_9) := (blk_cell BK227.out 9).trans rfl
              have hfz31_0 := blk_frozen BK227.out 0
              have hfz31_1 := blk_frozen BK227.out 1
              have hfz31_2 := blk_frozen BK227.out 2
              have hfz31_3 := blk_frozen BK227.out 3
              have hfz31_4 := blk_frozen BK227.out 4
              have hfz31_5 := blk_frozen BK227.out 5
              have hfz31_6 := blk_frozen BK227.out 6
              have hfz31_7 := blk_frozen BK227.out 7
              have hfz31_8 := blk_frozen BK227.out 8
              have hfz31_9 := blk_frozen BK227.out 9
              go_wp2_with (first | ((with_reducible refine gate_callee (f := 60) rfl ?_); refine goesL_ (some 42) rfl rfl Try.func60 (by kernel_rfl) rfl #[.int .i64 a0_0, .int .i64 a0_4, .int .i64 a0_7] rfl (by (try simp only [List.map_toArray, List.map_cons, List.map_nil]); first | done | rfl | (simp only [List.length_drop, List.length_take]; rfl)) ?_; (with_reducible refine (miradorref13_part.calls kj1 a0_0 a0_4 a0_7 true _ A25.out).mono ?_); rintro e w' ⟨rfl, ⟨nd, rfl⟩⟩; refine ⟨_, rfl, ?_⟩) | (go_at_call 60; (with_reducible refine (miradorref13_part.calls kj1 a0_0 a0_5 a0_8 false _ A27.out).mono ?_); rintro e w' ⟨rfl, ⟨nd, rfl⟩⟩))
              go_meet
              case rel => exact ⟨_, (true), (by first | rfl | (simp; done) | (simp [*]; done)), H', ⟨by have := HJ1.out; first | omega | exact Nat.le_refl _⟩, ⟨by (with_reducible repeat (first | refine blk_drewN ?_ _ | refine blk_drew ?_ | refine blk_alloc ?_ _)); exact BK227.out⟩, ⟨by repeat (first | (with_reducible first | exact HB.out | apply below_alloc | apply pw_below_drewN | apply below_drew1 | refine below_set ?_ GE227.out) | exact HB.out)⟩⟩
          · replace c26 := Bool.eq_false_iff.mpr c26
            subst c26
            have H1 : (miradorref13_Valid.j1 kj1 true a0_0 a0_1 a0_2 a0_3 a0_4 a0_5 a0_6 a0_7 a0_8 a0_9) = some r := by rw [if_neg (show ¬ (false = true) by decide)] at H; exact H
            clear H
            have H := H1
            clear H1
            have H' := Aside0.mk H
            clear H
            have hcz32_0 : wc.cell? ⟨gb227, 0, none⟩ = some (.int .i64 a0_0) := (blk_cell BK227.out 0).trans rfl
            have hcz32_1 : wc.cell? ⟨gb227, 1, none⟩ = some (.int .i64 a0_1) := (blk_cell BK227.out 1).trans rfl
            have hcz32_2 : wc.cell? ⟨gb227, 2, none⟩ = some (.bool a0_2) := (blk_cell BK227.out 2).trans rfl
            have hcz32_3 : wc.cell? ⟨gb227, 3, none⟩ = some (.bool a0_3) := (blk_cell BK227.out 3).trans rfl
            have hcz32_4 : wc.cell? ⟨gb227, 4, none⟩ = some (.int .i64 a0_4) := (blk_cell BK227.out 4).trans rfl
            have hcz32_5 : wc.cell? ⟨gb227, 5, none⟩ = some (.int .i64 a0_5) := (blk_cell BK227.out 5).trans rfl
            have hcz32_6 : wc.cell? ⟨gb227, 6, none⟩ = some (.int .i64 a0_6) := (blk_cell BK227.out 6).trans rfl
            have hcz32_7 : wc.cell? ⟨gb227, 7, none⟩ = some (.int .i64 a0_7) := (blk_cell BK227.out 7).trans rfl
            have hcz32_8 : wc.cell? ⟨gb227, 8, none⟩ = some (.int .i64 a0_8) := (blk_cell BK227.out 8).trans rfl
            have hcz32_9 : wc.cell? ⟨gb227, 9, none⟩ = some (.int .i64 a0_9) := (blk_cell BK227.out 9).trans rfl
            have hfz32_0 := blk_frozen BK227.out 0
            have hfz32_1 := blk_frozen BK227.out 1
            have hfz32_2 := blk_frozen BK227.out 2
            have hfz32_3 := blk_frozen BK227.out 3
            have hfz32_4 := blk_frozen BK227.out 4
            have hfz32_5 := blk_frozen BK227.out 5
            have hfz32_6 := blk_frozen BK227.out 6
            have hfz32_7 := blk_frozen BK227.out 7
            have hfz32_8 := blk_frozen BK227.out 8
            have hfz32_9 := blk_frozen BK227.out 9
            go_wp2_with (first | ((with_reducible refine gate_callee (f := 60) rfl ?_); refine goesL_ (some 42) rfl rfl Try.func60 (by kernel_rfl) rfl #[.int .i64 a0_0, .int .i64 a0_4, .int .i64 a0_7] rfl (by (try simp only [List.map_toArray, List.map_cons, List.map_nil]); first | done | rfl | (simp only [List.length_drop, List.length_take]; rfl)) ?_; (with_reducible refine (miradorref13_part.calls kj1 a0_0 a0_4 a0_7 false _ A25.out).mono ?_); rintro e w' ⟨rfl, ⟨nd, rfl⟩⟩; refine ⟨_, rfl, ?_⟩))
            go_meet
            case rel => exact ⟨_, (true), (by first | rfl | (simp; done) | (simp [*]; done)), H', ⟨by have := HJ1.out; first | omega | exact Nat.le_refl _⟩, ⟨by (with_reducible repeat (first | refine blk_drewN ?_ _ | refine blk_drew ?_ | refine blk_alloc ?_ _)); exact BK227.out⟩, ⟨by repeat (first | (with_reducible first | exact HB.out | apply below_alloc | apply pw_below_drewN | apply below_drew1 | refine below_set ?_ GE227.out) | exact HB.out)⟩⟩
        case rest =>
          clear HC24
          try clear c1
          try clear c2
          try clear p2
          try clear c3
          try clear c4
          try clear c4b0
          try clear c4b1
          try clear c5
          try clear c5b0
          try clear c6
          try clear c7
          try clear c7b0
          try clear c10
          try clear c10b0
          try clear c10b1
          try clear c11
          try clear c11b0
          try clear c13
          try clear c13b0
          try clear c16
          try clear c16b0
          try clear c16b1
          try clear c17
          try clear c17b0
          try clear c19
          try clear c19b0
          try clear c23
          try clear c26
          try clear c28
          try clear hcz12_0
          try clear hcz12_1
          try clear hcz12_2
          try clear hcz12_3
          try clear hcz12_4
          try clear hcz12_5
          try clear hcz12_6
          try clear hcz12_7
          try clear hcz12_8
          try clear hcz12_9
          try clear hcz14_0
          try clear hcz14_1
          try clear hcz14_2
          try clear hcz14_3
          try clear hcz14_4
          try clear hcz14_5
          try clear hcz14_6
          try clear hcz14_7
          try clear hcz14_8
          try clear hcz14_9
          try clear hcz15_0
          try clear hcz15_1
          try clear hcz15_2
          try clear hcz15_3
          try clear hcz15_4
          try clear hcz15_5
          try clear hcz15_6
          try clear hcz15_7
          try clear hcz15_8
          try clear hcz15_9
          try clear hcz18_0
          try clear hcz18_1
          try clear hcz18_2
          try clear hcz18_3
          try clear hcz18_4
          try clear hcz18_5
          try clear hcz18_6
          try clear hcz18_7
          try clear hcz18_8
          try clear hcz18_9
          try clear hcz20_0
          try clear hcz20_1
          try clear hcz20_2
          try clear hcz20_3
          try clear hcz20_4
          try clear hcz20_5
          try clear hcz20_6
          try clear hcz20_7
          try clear hcz20_8
          try clear hcz20_9
          try clear hcz21_0
          try clear hcz21_1
          try clear hcz21_2
          try clear hcz21_3
          try clear hcz21_4
          try clear hcz21_5
          try clear hcz21_6
          try clear hcz21_7
          try clear hcz21_8
          try clear hcz21_9
          try clear hcz22_0
          try clear hcz22_1
          try clear hcz22_2
          try clear hcz22_3
          try clear hcz22_4
          try clear hcz22_5
          try clear hcz22_6
          try clear hcz22_7
          try clear hcz22_8
          try clear hcz22_9
          try clear hcz30_0
          try clear hcz30_1
          try clear hcz30_2
          try clear hcz30_3
          try clear hcz30_4
          try clear hcz30_5
          try clear hcz30_6
          try clear hcz30_7
          try clear hcz30_8
          try clear hcz30_9
          try clear hcz31_0
          try clear hcz31_1
          try clear hcz31_2
          try clear hcz31_3
          try clear hcz31_4
          try clear hcz31_5
          try clear hcz31_6
          try clear hcz31_7
          try clear hcz31_8
          try clear hcz31_9
          try clear hcz32_0
          try clear hcz32_1
          try clear hcz32_2
          try clear hcz32_3
          try clear hcz32_4
          try clear hcz32_5
          try clear hcz32_6
          try clear hcz32_7
          try clear hcz32_8
          try clear hcz32_9
          try clear hcz6_0
          try clear hcz6_1
          try clear hcz6_2
          try clear hcz6_3
          try clear hcz6_4
          try clear hcz6_5
          try clear hcz6_6
          try clear hcz6_7
          try clear hcz6_8
          try clear hcz6_9
          try clear hcz8_0
          try clear hcz8_1
          try clear hcz8_2
          try clear hcz8_3
          try clear hcz8_4
          try clear hcz8_5
          try clear hcz8_6
          try clear hcz8_7
          try clear hcz8_8
          try clear hcz8_9
          try clear hcz9_0
          try clear hcz9_1
          try clear hcz9_2
          try clear hcz9_3
          try clear hcz9_4
          try clear hcz9_5
          try clear hcz9_6
          try clear hcz9_7
          try clear hcz9_8
          try clear hcz9_9
          try clear hfz12_0
          try clear hfz12_1
          try clear hfz12_2
          try clear hfz12_3
          try clear hfz12_4
          try clear hfz12_5
          try clear hfz12_6
          try clear hfz12_7
          try clear hfz12_8
          try clear hfz12_9
          try clear hfz14_0
          try clear hfz14_1
          try clear hfz14_2
          try clear hfz14_3
          try clear hfz14_4
          try clear hfz14_5
          try clear hfz14_6
          try clear hfz14_7
          try clear hfz14_8
          try clear hfz14_9
          try clear hfz15_0
          try clear hfz15_1
          try clear hfz15_2
          try clear hfz15_3
          try clear hfz15_4
          try clear hfz15_5
          try clear hfz15_6
          try clear hfz15_7
          try clear hfz15_8
          try clear hfz15_9
          try clear hfz18_0
          try clear hfz18_1
          try clear hfz18_2
          try clear hfz18_3
          try clear hfz18_4
          try clear hfz18_5
          try clear hfz18_6
          try clear hfz18_7
          try clear hfz18_8
          try clear hfz18_9
          try clear hfz20_0
          try clear hfz20_1
          try clear hfz20_2
          try clear hfz20_3
          try clear hfz20_4
          try clear hfz20_5
          try clear hfz20_6
          try clear hfz20_7
          try clear hfz20_8
          try clear hfz20_9
          try clear hfz21_0
          try clear hfz21_1
          try clear hfz21_2
          try clear hfz21_3
          try clear hfz21_4
          try clear hfz21_5
          try clear hfz21_6
          try clear hfz21_7
          try clear hfz21_8
          try clear hfz21_9
          try clear hfz22_0
          try clear hfz22_1
          try clear hfz22_2
          try clear hfz22_3
          try clear hfz22_4
          try clear hfz22_5
          try clear hfz22_6
          try clear hfz22_7
          try clear hfz22_8
          try clear hfz22_9
          try clear hfz30_0
          try clear hfz30_1
          try clear hfz30_2
          try clear hfz30_3
          try clear hfz30_4
          try clear hfz30_5
          try clear hfz30_6
          try clear hfz30_7
          try clear hfz30_8
          try clear hfz30_9
          try clear hfz31_0
          try clear hfz31_1
          try clear hfz31_2
          try clear hfz31_3
          try clear hfz31_4
          try clear hfz31_5
          try clear hfz31_6
          try clear hfz31_7
          try clear hfz31_8
          try clear hfz31_9
          try clear hfz32_0
          try clear hfz32_1
          try clear hfz32_2
          try clear hfz32_3
          try clear hfz32_4
          try clear hfz32_5
          try clear hfz32_6
          try clear hfz32_7
          try clear hfz32_8
          try clear hfz32_9
          try clear hfz6_0
          try clear hfz6_1
          try clear hfz6_2
          try clear hfz6_3
          try clear hfz6_4
          try clear hfz6_5
          try clear hfz6_6
          try clear hfz6_7
          try clear hfz6_8
          try clear hfz6_9
          try clear hfz8_0
          try clear hfz8_1
          try clear hfz8_2
          try clear hfz8_3
          try clear hfz8_4
          try clear hfz8_5
          try clear hfz8_6
          try clear hfz8_7
          try clear hfz8_8
          try clear hfz8_9
          try clear hfz9_0
          try clear hfz9_1
          try clear hfz9_2
          try clear hfz9_3
          try clear hfz9_4
          try clear hfz9_5
          try clear hfz9_6
          try clear hfz9_7
          try clear hfz9_8
          try clear hfz9_9
          try clear p2
          obtain ⟨kq, x63_23, rfl, HA, HJ23, BK227, HB⟩ := hcut
          cases kq with
          | zero => exact absurd HA.out (by simp [miradorref13_Valid.j1])
          | succ kj23 =>
            have H := HA.out
            clear HA
            simp only [miradorref13_Valid.j1] at H
            by_cases c33 : x63_23 = true
            · subst c33
              have H1 : (some false) = some r := by rw [if_pos rfl] at H; exact H
              clear H
              have H := H1
              clear H1
              obtain rfl := Option.some.inj H
              go_wp2
              go_ret
              exact ⟨by first | rfl | (simp [errW_none, errW_some] <;> rfl) | (simp [*, errW_none, errW_some] <;> rfl), by repeat (first | (with_reducible first | exact HB.out | apply below_alloc | apply pw_below_drewN | apply below_drew1 | refine below_set ?_ GE227.out) | exact HB.out)⟩
            · replace c33 := Bool.eq_false_iff.mpr c33
              subst c33
              have H1 : ((miradorref13_mask.f a0_4 a0_7).bind fun t231 => ((miradorref13_mask.f a0_5 a0_8).bind fun t232 => ((miradorref13_mask.f a0_6 a0_9).bind fun t233 => (if (Go.bits .and .i64 t231 t232) = 0 then (if (Go.bits .and .i64 t231 t233) = 0 then (some ((Go.bits .and .i64 t232 t233) == 0)) else (some false)) else (some false))))) = some r := by rw [if_neg (show ¬ (false = true) by decide)] at H; exact H
              clear H
              have H := H1
              clear H1
              replace H := Option.bind_eq_some_iff.mp H
              obtain ⟨t231, A340, H⟩ := H
              replace H : ((miradorref13_mask.f a0_5 a0_8).bind fun t232 => ((miradorref13_mask.f a0_6 a0_9).bind fun t233 => (if (Go.bits .and .i64 t231 t232) = 0 then (if (Go.bits .and .i64 t231 t233) = 0 then (some ((Go.bits .and .i64 t232 t233) == 0)) else (some false)) else (some false)))) = some r := H
              have A34 := Aside0.mk A340
              clear A340
              replace H := Option.bind_eq_some_iff.mp H
              obtain ⟨t232, A350, H⟩ := H
              replace H : ((miradorref13_mask.f a0_6 a0_9).bind fun t233 => (if (Go.bits .and .i64 t231 t232) = 0 then (if (Go.bits .and .i64 t231 t233) = 0 then (some ((Go.bits .and .i64 t232 t233) == 0)) else (some false)) else (some false))) = some r := H
              have A35 := Aside0.mk A350
              clear A350
              replace H := Option.bind_eq_some_iff.mp H
              obtain ⟨t233, A360, H⟩ := H
              replace H : (if (Go.bits .and .i64 t231 t232) = 0 then (if (Go.bits .and .i64 t231 t233) = 0 then (some ((Go.bits .and .i64 t232 t233) == 0)) else (some false)) else (some false)) = some r := H
              have A36 := Aside0.mk A360
              clear A360
              by_cases c37 : (Go.bits .and .i64 t231 t232) = 0
              · rw [if_pos c37] at H
                have c37b0 : ((Go.bits .and .i64 t231 t232) == 0) = true := beq_iff_eq.mpr c37
                have c37b1 : ((Go.bits .and .i64 t231 t232) != 0) = false := bne_eq_false_iff_eq.mpr c37
                clear c37
                by_cases c38 : (Go.bits .and .i64 t231 t233) = 0
                · rw [if_pos c38] at H
                  have c38b0 : ((Go.bits .and .i64 t231 t233) == 0) = true := beq_iff_eq.mpr c38
                  have c38b1 : ((Go.bits .and .i64 t231 t233) != 0) = false := bne_eq_false_iff_eq.mpr c38
                  clear c38
                  obtain rfl := Option.some.inj H
                  have hcz39_0 : wc.cell? ⟨gb227, 0, none⟩ = some (.int .i64 a0_0) := (blk_cell BK227.out 0).trans rfl
                  have hcz39_1 : wc.cell? ⟨gb227, 1, none⟩ = some (.int .i64 a0_1) := (blk_cell BK227.out 1).trans rfl
                  have hcz39_2 : wc.cell? ⟨gb227, 2, none⟩ = some (.bool a0_2) := (blk_cell BK227.out 2).trans rfl
                  have hcz39_3 : wc.cell? ⟨gb227, 3, none⟩ = some (.bool a0_3) := (blk_cell BK227.out 3).trans rfl
                  have hcz39_4 : wc.cell? ⟨gb227, 4, none⟩ = some (.int .i64 a0_4) := (blk_cell BK227.out 4).trans rfl
                  have hcz39_5 : wc.cell? ⟨gb227, 5, none⟩ = some (.int .i64 a0_5) := (blk_cell BK227.out 5).trans rfl
                  have hcz39_6 : wc.cell? ⟨gb227, 6, none⟩ = some (.int .i64 a0_6) := (blk_cell BK227.out 6).trans rfl
                  have hcz39_7 : wc.cell? ⟨gb227, 7, none⟩ = some (.int .i64 a0_7) := (blk_cell BK227.out 7).trans rfl
                  have hcz39_8 : wc.cell? ⟨gb227, 8, none⟩ = some (.int .i64 a0_8) := (blk_cell BK227.out 8).trans rfl
                  have hcz39_9 : wc.cell? ⟨gb227, 9, none⟩ = some (.int .i64 a0_9) := (blk_cell BK227.out 9).trans rfl
                  have hfz39_0 := blk_frozen BK227.out 0
                  have hfz39_1 := blk_frozen BK227.out 1
                  have hfz39_2 := blk_frozen BK227.out 2
                  have hfz39_3 := blk_frozen BK227.out 3
                  have hfz39_4 := blk_frozen BK227.out 4
                  have hfz39_5 := blk_frozen BK227.out 5
                  have hfz39_6 := blk_frozen BK227.out 6
                  have hfz39_7 := blk_frozen BK227.out 7
                  have hfz39_8 := blk_frozen BK227.out 8
                  have hfz39_9 := blk_frozen BK227.out 9
                  go_wp2_with (first | ((with_reducible refine gate_callee (f := 61) rfl ?_); refine goesL_ (some 68) rfl rfl Try.func61 (by kernel_rfl) rfl #[.int .i64 a0_4, .int .i64 a0_7] rfl (by (try simp only [List.map_toArray, List.map_cons, List.map_nil]); first | done | rfl | (simp only [List.length_drop, List.length_take]; rfl)) ?_; (with_reducible refine (miradorref13_mask.calls a0_4 a0_7 t231 _ A34.out).mono ?_); rintro e w' ⟨rfl, ⟨nd, rfl⟩⟩; refine ⟨_, rfl, ?_⟩) | ((with_reducible refine gate_callee (f := 61) rfl ?_); refine goesL_ (some 73) rfl rfl Try.func61 (by kernel_rfl) rfl #[.int .i64 a0_5, .int .i64 a0_8] rfl (by (try simp only [List.map_toArray, List.map_cons, List.map_nil]); first | done | rfl | (simp only [List.length_drop, List.length_take]; rfl)) ?_; (with_reducible refine (miradorref13_mask.calls a0_5 a0_8 t232 _ A35.out).mono ?_); rintro e w' ⟨rfl, ⟨nd, rfl⟩⟩; refine ⟨_, rfl, ?_⟩) | ((with_reducible refine gate_callee (f := 61) rfl ?_); refine goesL_ (some 78) rfl rfl Try.func61 (by kernel_rfl) rfl #[.int .i64 a0_6, .int .i64 a0_9] rfl (by (try simp only [List.map_toArray, List.map_cons, List.map_nil]); first | done | rfl | (simp only [List.length_drop, List.length_take]; rfl)) ?_; (with_reducible refine (miradorref13_mask.calls a0_6 a0_9 t233 _ A36.out).mono ?_); rintro e w' ⟨rfl, ⟨nd, rfl⟩⟩; refine ⟨_, rfl, ?_⟩))
                  go_ret
                  exact ⟨by first | rfl | (simp [errW_none, errW_some] <;> rfl) | (simp [*, errW_none, errW_some] <;> rfl), by repeat (first | (with_reducible first | exact HB.out | apply below_alloc | apply pw_below_drewN | apply below_drew1 | refine below_set ?_ GE227.out) | exact HB.out)⟩
                · rw [if_neg c38] at H
                  have c38b0 : ((Go.bits .and .i64 t231 t233) == 0) = false := beq_eq_false_iff_ne.mpr c38
                  have c38b1 : ((Go.bits .and .i64 t231 t233) != 0) = true := bne_iff_ne.mpr c38
                  obtain rfl := Option.some.inj H
                  have hcz40_0 : wc.cell? ⟨gb227, 0, none⟩ = some (.int .i64 a0_0) := (blk_cell BK227.out 0).trans rfl
                  have hcz40_1 : wc.cell? ⟨gb227, 1, none⟩ = some (.int .i64 a0_1) := (blk_cell BK227.out 1).trans rfl
                  have hcz40_2 : wc.cell? ⟨gb227, 2, none⟩ = some (.bool a0_2) := (blk_cell BK227.out 2).trans rfl
                  have hcz40_3 : wc.cell? ⟨gb227, 3, none⟩ = some (.bool a0_3) := (blk_cell BK227.out 3).trans rfl
                  have hcz40_4 : wc.cell? ⟨gb227, 4, none⟩ = some (.int .i64 a0_4) := (blk_cell BK227.out 4).trans rfl
                  have hcz40_5 : wc.cell? ⟨gb227, 5, none⟩ = some (.int .i64 a0_5) := (blk_cell BK227.out 5).trans rfl
                  have hcz40_6 : wc.cell? ⟨gb227, 6, none⟩ = some (.int .i64 a0_6) := (blk_cell BK227.out 6).trans rfl
                  have hcz40_7 : wc.cell? ⟨gb227, 7, none⟩ = some (.int .i64 a0_7) := (blk_cell BK227.out 7).trans rfl
                  have hcz40_8 : wc.cell? ⟨gb227, 8, none⟩ = some (.int .i64 a0_8) := (blk_cell BK227.out 8).trans rfl
                  have hcz40_9 : wc.cell? ⟨gb227, 9, none⟩ = some (.int .i64 a0_9) := (blk_cell BK227.out 9).trans rfl
                  have hfz40_0 := blk_frozen BK227.out 0
                  have hfz40_1 := blk_frozen BK227.out 1
                  have hfz40_2 := blk_frozen BK227.out 2
                  have hfz40_3 := blk_frozen BK227.out 3
                  have hfz40_4 := blk_frozen BK227.out 4
                  have hfz40_5 := blk_frozen BK227.out 5
                  have hfz40_6 := blk_frozen BK227.out 6
                  have hfz40_7 := blk_frozen BK227.out 7
                  have hfz40_8 := blk_frozen BK227.out 8
                  have hfz40_9 := blk_frozen BK227.out 9
                  go_wp2_with (first | ((with_reducible refine gate_callee (f := 61) rfl ?_); refine goesL_ (some 68) rfl rfl Try.func61 (by kernel_rfl) rfl #[.int .i64 a0_4, .int .i64 a0_7] rfl (by (try simp only [List.map_toArray, List.map_cons, List.map_nil]); first | done | rfl | (simp only [List.length_drop, List.length_take]; rfl)) ?_; (with_reducible refine (miradorref13_mask.calls a0_4 a0_7 t231 _ A34.out).mono ?_); rintro e w' ⟨rfl, ⟨nd, rfl⟩⟩; refine ⟨_, rfl, ?_⟩) | ((with_reducible refine gate_callee (f := 61) rfl ?_); refine goesL_ (some 73) rfl rfl Try.func61 (by kernel_rfl) rfl #[.int .i64 a0_5, .int .i64 a0_8] rfl (by (try simp only [List.map_toArray, List.map_cons, List.map_nil]); first | done | rfl | (simp only [List.length_drop, List.length_take]; rfl)) ?_; (with_reducible refine (miradorref13_mask.calls a0_5 a0_8 t232 _ A35.out).mono ?_); rintro e w' ⟨rfl, ⟨nd, rfl⟩⟩; refine ⟨_, rfl, ?_⟩) | ((with_reducible refine gate_callee (f := 61) rfl ?_); refine goesL_ (some 78) rfl rfl Try.func61 (by kernel_rfl) rfl #[.int .i64 a0_6, .int .i64 a0_9] rfl (by (try simp only [List.map_toArray, List.map_cons, List.map_nil]); first | done | rfl | (simp only [List.length_drop, List.length_take]; rfl)) ?_; (with_reducible refine (miradorref13_mask.calls a0_6 a0_9 t233 _ A36.out).mono ?_); rintro e w' ⟨rfl, ⟨nd, rfl⟩⟩; refine ⟨_, rfl, ?_⟩))
                  go_ret
                  exact ⟨by first | rfl | (simp [errW_none, errW_some] <;> rfl) | (simp [*, errW_none, errW_some] <;> rfl), by repeat (first | (with_reducible first | exact HB.out | apply below_alloc | apply pw_below_drewN | apply below_drew1 | refine below_set ?_ GE227.out) | exact HB.out)⟩
              · rw [if_neg c37] at H
                have c37b0 : ((Go.bits .and .i64 t231 t232) == 0) = false := beq_eq_false_iff_ne.mpr c37
                have c37b1 : ((Go.bits .and .i64 t231 t232) != 0) = true := bne_iff_ne.mpr c37
                obtain rfl := Option.some.inj H
                have hcz41_0 : wc.cell? ⟨gb227, 0, none⟩ = some (.int .i64 a0_0) := (blk_cell BK227.out 0).trans rfl
                have hcz41_1 : wc.cell? ⟨gb227, 1, none⟩ = some (.int .i64 a0_1) := (blk_cell BK227.out 1).trans rfl
                have hcz41_2 : wc.cell? ⟨gb227, 2, none⟩ = some (.bool a0_2) := (blk_cell BK227.out 2).trans rfl
                have hcz41_3 : wc.cell? ⟨gb227, 3, none⟩ = some (.bool a0_3) := (blk_cell BK227.out 3).trans rfl
                have hcz41_4 : wc.cell? ⟨gb227, 4, none⟩ = some (.int .i64 a0_4) := (blk_cell BK227.out 4).trans rfl
                have hcz41_5 : wc.cell? ⟨gb227, 5, none⟩ = some (.int .i64 a0_5) := (blk_cell BK227.out 5).trans rfl
                have hcz41_6 : wc.cell? ⟨gb227, 6, none⟩ = some (.int .i64 a0_6) := (blk_cell BK227.out 6).trans rfl
                have hcz41_7 : wc.cell? ⟨gb227, 7, none⟩ = some (.int .i64 a0_7) := (blk_cell BK227.out 7).trans rfl
                have hcz41_8 : wc.cell? ⟨gb227, 8, none⟩ = some (.int .i64 a0_8) := (blk_cell BK227.out 8).trans rfl
                have hcz41_9 : wc.cell? ⟨gb227, 9, none⟩ = some (.int .i64 a0_9) := (blk_cell BK227.out 9).trans rfl
                have hfz41_0 := blk_frozen BK227.out 0
                have hfz41_1 := blk_frozen BK227.out 1
                have hfz41_2 := blk_frozen BK227.out 2
                have hfz41_3 := blk_frozen BK227.out 3
                have hfz41_4 := blk_frozen BK227.out 4
                have hfz41_5 := blk_frozen BK227.out 5
                have hfz41_6 := blk_frozen BK227.out 6
                have hfz41_7 := blk_frozen BK227.out 7
                have hfz41_8 := blk_frozen BK227.out 8
                have hfz41_9 := blk_frozen BK227.out 9
                go_wp2_with (first | ((with_reducible refine gate_callee (f := 61) rfl ?_); refine goesL_ (some 68) rfl rfl Try.func61 (by kernel_rfl) rfl #[.int .i64 a0_4, .int .i64 a0_7] rfl (by (try simp only [List.map_toArray, List.map_cons, List.map_nil]); first | done | rfl | (simp only [List.length_drop, List.length_take]; rfl)) ?_; (with_reducible refine (miradorref13_mask.calls a0_4 a0_7 t231 _ A34.out).mono ?_); rintro e w' ⟨rfl, ⟨nd, rfl⟩⟩; refine ⟨_, rfl, ?_⟩) | ((with_reducible refine gate_callee (f := 61) rfl ?_); refine goesL_ (some 73) rfl rfl Try.func61 (by kernel_rfl) rfl #[.int .i64 a0_5, .int .i64 a0_8] rfl (by (try simp only [List.map_toArray, List.map_cons, List.map_nil]); first | done | rfl | (simp only [List.length_drop, List.length_take]; rfl)) ?_; (with_reducible refine (miradorref13_mask.calls a0_5 a0_8 t232 _ A35.out).mono ?_); rintro e w' ⟨rfl, ⟨nd, rfl⟩⟩; refine ⟨_, rfl, ?_⟩) | ((with_reducible refine gate_callee (f := 61) rfl ?_); refine goesL_ (some 78) rfl rfl Try.func61 (by kernel_rfl) rfl #[.int .i64 a0_6, .int .i64 a0_9] rfl (by (try simp only [List.map_toArray, List.map_cons, List.map_nil]); first | done | rfl | (simp only [List.length_drop, List.length_take]; rfl)) ?_; (with_reducible refine (miradorref13_mask.calls a0_6 a0_9 t233 _ A36.out).mono ?_); rintro e w' ⟨rfl, ⟨nd, rfl⟩⟩; refine ⟨_, rfl, ?_⟩))
                go_ret
                exact ⟨by first | rfl | (simp [errW_none, errW_some] <;> rfl) | (simp [*, errW_none, errW_some] <;> rfl), by repeat (first | (with_reducible first | exact HB.out | apply below_alloc | apply pw_below_drewN | apply below_drew1 | refine below_set ?_ GE227.out) | exact HB.out)⟩

end Go.Proofs.Ytkmfhfejogjnfaa.X
