/- What each Go function that these laws use answers: as a Lean function, with the proof that the machine's call comes to it. Written by a program of this session (xprint.py). -/
import Derived.Test.YtkmfhfejogjnfaaXx0
import Derived.Test.YtkmfhfejogjnfaaXx8
namespace Go.Proofs.Ytkmfhfejogjnfaa.X
open Go.RowKit Go.Proofs.YtkmfhfejogjnfaaW.PrintWords Go.Proofs.YtkmfhfejogjnfaaW.PrintLast Go.Proofs.YtkmfhfejogjnfaaW.PrintMore
attribute [local go_sem] max2_int min2_int max_two min_two max_three min_three max_four min_four   -- for this text's walks alone
set_option linter.unusedVariables false
set_option linter.unusedSimpArgs false

/-! ### format_get: function 64 -/
def format_get.l0 : Nat → Int → ByteArray → Int → Int → Int → Int → Int → Bool → Bool → Int → Int → Int → Int → Int → Int → Option (Int × Int)
  | 0, _, _, _, _, _, _, _, _, _, _, _, _, _, _, _ => none
  | k + 1, x1, x2, x8, x20, x21, x146000, x146001, x146002, x146003, x146004, x146005, x146006, x146007, x146008, x146009 => if x21 < x20 then (if x146002 = true then (if 0 ≤ x21 then (if x21 < (x2.size : Int) then (format_get.l0 k x1 x2 (Go.bits .or .i64 (wrap64 (x8 * 256)) (wrap64 (bt x2 x21))) x20 (wrap64 (x21 + 1)) x146000 x146001 x146002 x146003 x146004 x146005 x146006 x146007 x146008 x146009) else (none)) else (none)) else (if 0 ≤ (wrap64 ((wrap64 (x1 - 1)) - x21)) then (if (wrap64 ((wrap64 (x1 - 1)) - x21)) < (x2.size : Int) then (format_get.l0 k x1 x2 (Go.bits .or .i64 (wrap64 (x8 * 256)) (wrap64 (bt x2 (wrap64 ((wrap64 (x1 - 1)) - x21))))) x20 (wrap64 (x21 + 1)) x146000 x146001 x146002 x146003 x146004 x146005 x146006 x146007 x146008 x146009) else (none)) else (none))) else (some (x8, 0))
def format_get.f (k : Nat) (a0_0 : Int) (a0_1 : Int) (a0_2 : Bool) (a0_3 : Bool) (a0_4 : Int) (a0_5 : Int) (a0_6 : Int) (a0_7 : Int) (a0_8 : Int) (a0_9 : Int) (a1 : Int) (a2 : ByteArray) : Option (Int × Int) := (format_Valid.f a0_0 a0_1 a0_2 a0_3 a0_4 a0_5 a0_6 a0_7 a0_8 a0_9).bind fun t146 => (if t146 = true then (if (a2.size : Int) < a1 then (some (0, 2)) else (format_get.l0 k a1 a2 0 a1 0 a0_0 a0_1 a0_2 a0_3 a0_4 a0_5 a0_6 a0_7 a0_8 a0_9)) else (some (0, 130)))
theorem format_get.mono_l : ∀ k, (∀ y0 y1 y2 y3 y4 y5 y6 y7 y8 y9 y10 y11 y12 y13 y14, LeO (format_get.l0 k y0 y1 y2 y3 y4 y5 y6 y7 y8 y9 y10 y11 y12 y13 y14) (format_get.l0 (k + 1) y0 y1 y2 y3 y4 y5 y6 y7 y8 y9 y10 y11 y12 y13 y14))
  | 0 => fun _ _ _ _ _ _ _ _ _ _ _ _ _ _ _ r h => by simp [format_get.l0] at h
  | k + 1 => by
    have ih0 := format_get.mono_l k
    · intro y0 y1 y2 y3 y4 y5 y6 y7 y8 y9 y10 y11 y12 y13 y14
      unfold format_get.l0
      repeat' first
      | (with_reducible exact ih0 _ _ _ _ _ _ _ _ _ _ _ _ _ _ _)
      | (with_reducible exact LeO.refl _)
      | (with_reducible exact LeO.none _)
      | (with_reducible refine LeO.ite ?_ ?_)
      | (with_reducible refine LeO.bind ?_ (fun _ => ?_))
      | exact ih0 _ _ _ _ _ _ _ _ _ _ _ _ _ _ _
      | exact LeO.none _
      | refine LeO.ite ?_ ?_
      | refine LeO.bind ?_ (fun _ => ?_)
theorem format_get.mono : ∀ a0 a1 a2 a3 a4 a5 a6 a7 a8 a9 a10 a11 k, LeO (format_get.f k a0 a1 a2 a3 a4 a5 a6 a7 a8 a9 a10 a11) (format_get.f (k + 1) a0 a1 a2 a3 a4 a5 a6 a7 a8 a9 a10 a11) := by
  intro a0 a1 a2 a3 a4 a5 a6 a7 a8 a9 a10 a11 k
  have ih0 := format_get.mono_l k
  unfold format_get.f
  repeat' first
      | (with_reducible exact ih0 _ _ _ _ _ _ _ _ _ _ _ _ _ _ _)
      | (with_reducible exact LeO.refl _)
      | (with_reducible exact LeO.none _)
      | (with_reducible refine LeO.ite ?_ ?_)
      | (with_reducible refine LeO.bind ?_ (fun _ => ?_))
      | exact ih0 _ _ _ _ _ _ _ _ _ _ _ _ _ _ _
      | exact LeO.none _
      | refine LeO.ite ?_ ?_
      | refine LeO.bind ?_ (fun _ => ?_)
set_option maxHeartbeats 8000000 in
set_option maxRecDepth 100000 in
theorem format_get.calls (k : Nat) (a0_0 : Int) (a0_1 : Int) (a0_2 : Bool) (a0_3 : Bool) (a0_4 : Int) (a0_5 : Int) (a0_6 : Int) (a0_7 : Int) (a0_8 : Int) (a0_9 : Int) (a1 : Int) (a2 : ByteArray) (r1 : Int) (r2 : Int) (w : World) (h : format_get.f k a0_0 a0_1 a0_2 a0_3 a0_4 a0_5 a0_6 a0_7 a0_8 a0_9 a1 a2 = some (r1, r2)) :
    Calls Try.prog 64 #[.agg #[.int .i64 a0_0, .int .i64 a0_1, .bool a0_2, .bool a0_3, .int .i64 a0_4, .int .i64 a0_5, .int .i64 a0_6, .int .i64 a0_7, .int .i64 a0_8, .int .i64 a0_9], .int .i64 a1, .string a2] w fun e w' => e = .returned (.tuple #[.int .i64 r1, .int .i64 r2]) ∧ Below w.heap.size w w' := by
  have hu37 := Try.underlying37
  have HB := Aside0.mk (Below.refl w.heap.size w)
  have H : ((format_Valid.f a0_0 a0_1 a0_2 a0_3 a0_4 a0_5 a0_6 a0_7 a0_8 a0_9).bind fun t146 => (if t146 = true then (if (a2.size : Int) < a1 then (some (0, 2)) else (format_get.l0 k a1 a2 0 a1 0 a0_0 a0_1 a0_2 a0_3 a0_4 a0_5 a0_6 a0_7 a0_8 a0_9)) else (some (0, 130)))) = some (r1, r2) := h
  clear h
  replace H := Option.bind_eq_some_iff.mp H
  obtain ⟨t146, A40, H⟩ := H
  replace H : (if t146 = true then (if (a2.size : Int) < a1 then (some (0, 2)) else (format_get.l0 k a1 a2 0 a1 0 a0_0 a0_1 a0_2 a0_3 a0_4 a0_5 a0_6 a0_7 a0_8 a0_9)) else (some (0, 130))) = some (r1, r2) := H
  have A4 := Aside0.mk A40
  clear A40
  by_cases c5 : t146 = true
  · subst c5
    have H1 : (if (a2.size : Int) < a1 then (some (0, 2)) else (format_get.l0 k a1 a2 0 a1 0 a0_0 a0_1 a0_2 a0_3 a0_4 a0_5 a0_6 a0_7 a0_8 a0_9)) = some (r1, r2) := by rw [if_pos rfl] at H; exact H
    clear H
    have H := H1
    clear H1
    by_cases c6 : (a2.size : Int) < a1
    · rw [if_pos c6] at H
      have c6b0 : decide ((a2.size : Int) < a1) = true := decide_eq_true c6
      clear c6
      simp only [Option.some.injEq, Prod.mk.injEq] at H
      obtain ⟨rfl, rfl⟩ := H
      go_enter Try.func64, Try.ntmps64
      go_wp2_with (first | ((with_reducible refine gate_dst (N := 3) rfl ?_); refine box_event ?hg (N := 3) ?hd (cs := #[.int .i64 a0_0, .int .i64 a0_1, .bool a0_2, .bool a0_3, .int .i64 a0_4, .int .i64 a0_5, .int .i64 a0_6, .int .i64 a0_7, .int .i64 a0_8, .int .i64 a0_9]) (t := 37) ?hr ?_; (case hd => rfl); (case hg => rfl); (case hr => first | (go_simp; done) | (go_simp; rfl)); intro gb145 hg w7 hbox hb; have n0_ := Aside0.mk (below_step (by repeat (first | (with_reducible first | exact HB.out | apply below_alloc | apply pw_below_drewN | apply below_drew1) | exact HB.out)) hb); have n1_ := Aside0.mk (hbox); have n2_ := Aside0.mk ((by rw [hg]; exact (below_size (by repeat (first | (with_reducible first | exact HB.out | apply below_alloc | apply pw_below_drewN | apply below_drew1) | exact HB.out))) : w.heap.size ≤ gb145)); have n3_ := Aside0.mk ((by rw [hg]; exact (below_size (by repeat (first | (with_reducible first | exact HB.out | apply below_alloc | apply pw_below_drewN | apply below_drew1) | exact HB.out))) : w.heap.size ≤ gb145)); clear HB; have HB := n0_; have BK145 := n1_; have GW145 := n2_; have GE145 := n3_; clear n0_ n1_ n2_ n3_; clear hb hbox hg; have hcz8_0 : w7.cell? ⟨gb145, 0, none⟩ = some (.int .i64 a0_0) := (blk_cell BK145.out 0).trans rfl; have hcz8_1 : w7.cell? ⟨gb145, 1, none⟩ = some (.int .i64 a0_1) := (blk_cell BK145.out 1).trans rfl; have hcz8_2 : w7.cell? ⟨gb145, 2, none⟩ = some (.bool a0_2) := (blk_cell BK145.out 2).trans rfl; have hcz8_3 : w7.cell? ⟨gb145, 3, none⟩ = some (.bool a0_3) := (blk_cell BK145.out 3).trans rfl; have hcz8_4 : w7.cell? ⟨gb145, 4, none⟩ = some (.int .i64 a0_4) := (blk_cell BK145.out 4).trans rfl; have hcz8_5 : w7.cell? ⟨gb145, 5, none⟩ = some (.int .i64 a0_5) := (blk_cell BK145.out 5).trans rfl; have hcz8_6 : w7.cell? ⟨gb145, 6, none⟩ = some (.int .i64 a0_6) := (blk_cell BK145.out 6).trans rfl; have hcz8_7 : w7.cell? ⟨gb145, 7, none⟩ = some (.int .i64 a0_7) := (blk_cell BK145.out 7).trans rfl; have hcz8_8 : w7.cell? ⟨gb145, 8, none⟩ = some (.int .i64 a0_8) := (blk_cell BK145.out 8).trans rfl; have hcz8_9 : w7.cell? ⟨gb145, 9, none⟩ = some (.int .i64 a0_9) := (blk_cell BK145.out 9).trans rfl; have hfz8_0 := blk_frozen BK145.out 0; have hfz8_1 := blk_frozen BK145.out 1; have hfz8_2 := blk_frozen BK145.out 2; have hfz8_3 := blk_frozen BK145.out 3; have hfz8_4 := blk_frozen BK145.out 4; have hfz8_5 := blk_frozen BK145.out 5; have hfz8_6 := blk_frozen BK145.out 6; have hfz8_7 := blk_frozen BK145.out 7; have hfz8_8 := blk_frozen BK145.out 8; have hfz8_9 := blk_frozen BK145.out 9) | ((with_reducible refine gate_callee (f := 50) rfl ?_); refine goesL_ (some 13) rfl rfl Try.func50 (by kernel_rfl) rfl #[.agg #[.int .i64 a0_0, .int .i64 a0_1, .bool a0_2, .bool a0_3, .int .i64 a0_4, .int .i64 a0_5, .int .i64 a0_6, .int .i64 a0_7, .int .i64 a0_8, .int .i64 a0_9]] rfl (by (try simp only [List.map_toArray, List.map_cons, List.map_nil]); first | done | rfl | (simp only [List.length_drop, List.length_take]; rfl)) ?_; (with_reducible refine (format_Valid.calls a0_0 a0_1 a0_2 a0_3 a0_4 a0_5 a0_6 a0_7 a0_8 a0_9 true _ A4.out).mono ?_); rintro e w9 ⟨rfl, hb⟩; refine ⟨_, rfl, ?_⟩; have n0_ := Aside0.mk (blk_below (g := gb145) (o := .cells #[.int .i64 a0_0, .int .i64 a0_1, .bool a0_2, .bool a0_3, .int .i64 a0_4, .int .i64 a0_5, .int .i64 a0_6, .int .i64 a0_7, .int .i64 a0_8, .int .i64 a0_9] 37 (0, 0)) (by (with_reducible repeat (first | refine blk_drewN ?_ _ | refine blk_drew ?_ | refine blk_alloc ?_ _)); exact BK145.out) hb); have n1_ := Aside0.mk (below_step (by repeat (first | (with_reducible first | exact HB.out | apply below_alloc | apply pw_below_drewN | apply below_drew1 | refine below_set ?_ GE145.out) | exact HB.out)) hb); clear BK145; clear HB; have BK145 := n0_; have HB := n1_; clear n0_ n1_; (try clear hb); (try clear hb2); (try clear hk); (try clear hi)))
      go_ret2
      exact ⟨by first | rfl | (simp [errW_none, errW_some] <;> rfl) | (simp [*, errW_none, errW_some] <;> rfl), by repeat (first | (with_reducible first | exact HB.out | apply below_alloc | apply pw_below_drewN | apply below_drew1 | refine below_set ?_ GE145.out) | exact HB.out)⟩
    · rw [if_neg c6] at H
      have c6b0 : decide ((a2.size : Int) < a1) = false := decide_eq_false c6
      clear c6
      have H' := Aside0.mk H
      clear H
      go_enter Try.func64, Try.ntmps64
      go_wp2_with (first | ((with_reducible refine gate_dst (N := 3) rfl ?_); refine box_event ?hg (N := 3) ?hd (cs := #[.int .i64 a0_0, .int .i64 a0_1, .bool a0_2, .bool a0_3, .int .i64 a0_4, .int .i64 a0_5, .int .i64 a0_6, .int .i64 a0_7, .int .i64 a0_8, .int .i64 a0_9]) (t := 37) ?hr ?_; (case hd => rfl); (case hg => rfl); (case hr => first | (go_simp; done) | (go_simp; rfl)); intro gb145 hg w10 hbox hb; have n0_ := Aside0.mk (below_step (by repeat (first | (with_reducible first | exact HB.out | apply below_alloc | apply pw_below_drewN | apply below_drew1) | exact HB.out)) hb); have n1_ := Aside0.mk (hbox); have n2_ := Aside0.mk ((by rw [hg]; exact (below_size (by repeat (first | (with_reducible first | exact HB.out | apply below_alloc | apply pw_below_drewN | apply below_drew1) | exact HB.out))) : w.heap.size ≤ gb145)); have n3_ := Aside0.mk ((by rw [hg]; exact (below_size (by repeat (first | (with_reducible first | exact HB.out | apply below_alloc | apply pw_below_drewN | apply below_drew1) | exact HB.out))) : w.heap.size ≤ gb145)); clear HB; have HB := n0_; have BK145 := n1_; have GW145 := n2_; have GE145 := n3_; clear n0_ n1_ n2_ n3_; clear hb hbox hg; have hcz11_0 : w10.cell? ⟨gb145, 0, none⟩ = some (.int .i64 a0_0) := (blk_cell BK145.out 0).trans rfl; have hcz11_1 : w10.cell? ⟨gb145, 1, none⟩ = some (.int .i64 a0_1) := (blk_cell BK145.out 1).trans rfl; have hcz11_2 : w10.cell? ⟨gb145, 2, none⟩ = some (.bool a0_2) := (blk_cell BK145.out 2).trans rfl; have hcz11_3 : w10.cell? ⟨gb145, 3, none⟩ = some (.bool a0_3) := (blk_cell BK145.out 3).trans rfl; have hcz11_4 : w10.cell? ⟨gb145, 4, none⟩ = some (.int .i64 a0_4) := (blk_cell BK145.out 4).trans rfl; have hcz11_5 : w10.cell? ⟨gb145, 5, none⟩ = some (.int .i64 a0_5) := (blk_cell BK145.out 5).trans rfl; have hcz11_6 : w10.cell? ⟨gb145, 6, none⟩ = some (.int .i64 a0_6) := (blk_cell BK145.out 6).trans rfl; have hcz11_7 : w10.cell? ⟨gb145, 7, none⟩ = some (.int .i64 a0_7) := (blk_cell BK145.out 7).trans rfl; have hcz11_8 : w10.cell? ⟨gb145, 8, none⟩ = some (.int .i64 a0_8) := (blk_cell BK145.out 8).trans rfl; have hcz11_9 : w10.cell? ⟨gb145, 9, none⟩ = some (.int .i64 a0_9) := (blk_cell BK145.out 9).trans rfl; have hfz11_0 := blk_frozen BK145.out 0; have hfz11_1 := blk_frozen BK145.out 1; have hfz11_2 := blk_frozen BK145.out 2; have hfz11_3 := blk_frozen BK145.out 3; have hfz11_4 := blk_frozen BK145.out 4; have hfz11_5 := blk_frozen BK145.out 5; have hfz11_6 := blk_frozen BK145.out 6; have hfz11_7 := blk_frozen BK145.out 7; have hfz11_8 := blk_frozen BK145.out 8; have hfz11_9 := blk_frozen BK145.out 9) | ((with_reducible refine gate_callee (f := 50) rfl ?_); refine goesL_ (some 13) rfl rfl Try.func50 (by kernel_rfl) rfl #[.agg #[.int .i64 a0_0, .int .i64 a0_1, .bool a0_2, .bool a0_3, .int .i64 a0_4, .int .i64 a0_5, .int .i64 a0_6, .int .i64 a0_7, .int .i64 a0_8, .int .i64 a0_9]] rfl (by (try simp only [List.map_toArray, List.map_cons, List.map_nil]); first | done | rfl | (simp only [List.length_drop, List.length_take]; rfl)) ?_; (with_reducible refine (format_Valid.calls a0_0 a0_1 a0_2 a0_3 a0_4 a0_5 a0_6 a0_7 a0_8 a0_9 true _ A4.out).mono ?_); rintro e w12 ⟨rfl, hb⟩; refine ⟨_, rfl, ?_⟩; have n0_ := Aside0.mk (blk_below (g := gb145) (o := .cells #[.int .i64 a0_0, .int .i64 a0_1, .bool a0_2, .bool a0_3, .int .i64 a0_4, .int .i64 a0_5, .int .i64 a0_6, .int .i64 a0_7, .int .i64 a0_8, .int .i64 a0_9] 37 (0, 0)) (by (with_reducible repeat (first | refine blk_drewN ?_ _ | refine blk_drew ?_ | refine blk_alloc ?_ _)); exact BK145.out) hb); have n1_ := Aside0.mk (below_step (by repeat (first | (with_reducible first | exact HB.out | apply below_alloc | apply pw_below_drewN | apply below_drew1 | refine below_set ?_ GE145.out) | exact HB.out)) hb); clear BK145; clear HB; have BK145 := n0_; have HB := n1_; clear n0_ n1_; (try clear hb); (try clear hb2); (try clear hk); (try clear hi)))
      go_loopg [8, 21] k (fun kq v8 v21 w' => ∃ (x8_1 : Int) (x21_1 : Int), v8 = .int .i64 x8_1 ∧ v21 = .int .i64 x21_1 ∧ Aside0 (format_get.l0 kq a1 a2 x8_1 a1 x21_1 a0_0 a0_1 a0_2 a0_3 a0_4 a0_5 a0_6 a0_7 a0_8 a0_9 = some (r1, r2)) ∧ Aside0 (kq ≤ k) ∧ Aside0 (w'.heap[gb145]? = some (.cells #[.int .i64 a0_0, .int .i64 a0_1, .bool a0_2, .bool a0_3, .int .i64 a0_4, .int .i64 a0_5, .int .i64 a0_6, .int .i64 a0_7, .int .i64 a0_8, .int .i64 a0_9] 37 (0, 0))) ∧ Aside0 (Below w.heap.size w w'))
      case atStart => exact ⟨(0), (0), (by first | rfl | (simp; done) | (simp [*]; done)), (by first | rfl | (simp; done) | (simp [*]; done)), H', ⟨Nat.le_refl _⟩, ⟨by (with_reducible repeat (first | refine blk_drewN ?_ _ | refine blk_drew ?_ | refine blk_alloc ?_ _)); exact BK145.out⟩, ⟨by repeat (first | (with_reducible first | exact HB.out | apply below_alloc | apply pw_below_drewN | apply below_drew1 | refine below_set ?_ GE145.out) | exact HB.out)⟩⟩
      case round =>
        clear H'
        try clear p2
        try clear c5
        try clear c6
        try clear c6b0
        try clear hcz11_0
        try clear hcz11_1
        try clear hcz11_2
        try clear hcz11_3
        try clear hcz11_4
        try clear hcz11_5
        try clear hcz11_6
        try clear hcz11_7
        try clear hcz11_8
        try clear hcz11_9
        try clear hcz8_0
        try clear hcz8_1
        try clear hcz8_2
        try clear hcz8_3
        try clear hcz8_4
        try clear hcz8_5
        try clear hcz8_6
        try clear hcz8_7
        try clear hcz8_8
        try clear hcz8_9
        try clear hfz11_0
        try clear hfz11_1
        try clear hfz11_2
        try clear hfz11_3
        try clear hfz11_4
        try clear hfz11_5
        try clear hfz11_6
        try clear hfz11_7
        try clear hfz11_8
        try clear hfz11_9
        try clear hfz8_0
        try clear hfz8_1
        try clear hfz8_2
        try clear hfz8_3
        try clear hfz8_4
        try clear hfz8_5
        try clear hfz8_6
        try clear hfz8_7
        try clear hfz8_8
        try clear hfz8_9
        obtain ⟨x8_1, x21_1, rfl, rfl, HA, HK1, BK145, HB⟩ := hrel
        cases gk with
        | zero => exact absurd HA.out (by simp [format_get.l0])
        | succ k1 =>
          have H := HA.out
          clear HA
          simp only [format_get.l0] at H
          by_cases c13 : x21_1 < a1
          · rw [if_pos c13] at H
            have c13b0 : decide (x21_1 < a1) = true := decide_eq_true c13
            clear c13
            by_cases c14 : a0_2 = true
            · subst c14
              have H1 : (if 0 ≤ x21_1 then (if x21_1 < (a2.size : Int) then (format_get.l0 k1 a1 a2 (Go.bits .or .i64 (wrap64 (x8_1 * 256)) (wrap64 (bt a2 x21_1))) a1 (wrap64 (x21_1 + 1)) a0_0 a0_1 true a0_3 a0_4 a0_5 a0_6 a0_7 a0_8 a0_9) else (none)) else (none)) = some (r1, r2) := by rw [if_pos rfl] at H; exact H
              clear H
              have H := H1
              clear H1
              by_cases c15 : 0 ≤ x21_1
              · rw [if_pos c15] at H
                have c15b0 : decide (0 ≤ x21_1) = true := decide_eq_true c15
                clear c15
                by_cases c16 : x21_1 < (a2.size : Int)
                · rw [if_pos c16] at H
                  have c16b0 : decide (x21_1 < (a2.size : Int)) = true := decide_eq_true c16
                  clear c16
                  have H' := Aside0.mk H
                  clear H
                  have hcz18_0 : wr.cell? ⟨gb145, 0, none⟩ = some (.int .i64 a0_0) := (blk_cell BK145.out 0).trans rfl
                  have hcz18_1 : wr.cell? ⟨gb145, 1, none⟩ = some (.int .i64 a0_1) := (blk_cell BK145.out 1).trans rfl
                  have hcz18_2 : wr.cell? ⟨gb145, 2, none⟩ = some (.bool true) := (blk_cell BK145.out 2).trans rfl
                  have hcz18_3 : wr.cell? ⟨gb145, 3, none⟩ = some (.bool a0_3) := (blk_cell BK145.out 3).trans rfl
                  have hcz18_4 : wr.cell? ⟨gb145, 4, none⟩ = some (.int .i64 a0_4) := (blk_cell BK145.out 4).trans rfl
                  have hcz18_5 : wr.cell? ⟨gb145, 5, none⟩ = some (.int .i64 a0_5) := (blk_cell BK145.out 5).trans rfl
                  have hcz18_6 : wr.cell? ⟨gb145, 6, none⟩ = some (.int .i64 a0_6) := (blk_cell BK145.out 6).trans rfl
                  have hcz18_7 : wr.cell? ⟨gb145, 7, none⟩ = some (.int .i64 a0_7) := (blk_cell BK145.out 7).trans rfl
                  have hcz18_8 : wr.cell? ⟨gb145, 8, none⟩ = some (.int .i64 a0_8) := (blk_cell BK145.out 8).trans rfl
                  have hcz18_9 : wr.cell? ⟨gb145, 9, none⟩ = some (.int .i64 a0_9) := (blk_cell BK145.out 9).trans rfl
                  have hfz18_0 := blk_frozen BK145.out 0
                  have hfz18_1 := blk_frozen BK145.out 1
                  have hfz18_2 := blk_frozen BK145.out 2
                  have hfz18_3 := blk_frozen BK145.out 3
                  have hfz18_4 := blk_frozen BK145.out 4
                  have hfz18_5 := blk_frozen BK145.out 5
                  have hfz18_6 := blk_frozen BK145.out 6
                  have hfz18_7 := blk_frozen BK145.out 7
                  have hfz18_8 := blk_frozen BK145.out 8
                  have hfz18_9 := blk_frozen BK145.out 9
                  have p17 : 0 ≤ (x21_1 : Int) := of_decide_eq_true (by first | (with_reducible assumption) | assumption)
                  have q17 : x21_1 < (a2.size : Int) := of_decide_eq_true (by first | (with_reducible assumption) | assumption)
                  have hx17 := bt_at a2 x21_1
                  replace p17 := eq_true p17
                  replace q17 := eq_true q17
                  go_wp2
                  go_roundg k1
                  case measure => have := HK1.out; omega
                  case rel => exact ⟨(Go.bits .or .i64 (wrap64 (x8_1 * 256)) (wrap64 (bt a2 x21_1))), (wrap64 (x21_1 + 1)), (by first | rfl | (simp; done) | (simp [*]; done)), (by first | rfl | (simp; done) | (simp [*]; done)), H', ⟨by have := HK1.out; omega⟩, ⟨by (with_reducible repeat (first | refine blk_drewN ?_ _ | refine blk_drew ?_ | refine blk_alloc ?_ _)); exact BK145.out⟩, ⟨by repeat (first | (with_reducible first | exact HB.out | apply below_alloc | apply pw_below_drewN | apply below_drew1 | refine below_set ?_ GE145.out) | exact HB.out)⟩⟩
                · rw [if_neg c16] at H
                  exact absurd H (by simp)
              · rw [if_neg c15] at H
                exact absurd H (by simp)
            · replace c14 := Bool.eq_false_iff.mpr c14
              subst c14
              have H1 : (if 0 ≤ (wrap64 ((wrap64 (a1 - 1)) - x21_1)) then (if (wrap64 ((wrap64 (a1 - 1)) - x21_1)) < (a2.size : Int) then (format_get.l0 k1 a1 a2 (Go.bits .or .i64 (wrap64 (x8_1 * 256)) (wrap64 (bt a2 (wrap64 ((wrap64 (a1 - 1)) - x21_1))))) a1 (wrap64 (x21_1 + 1)) a0_0 a0_1 false a0_3 a0_4 a0_5 a0_6 a0_7 a0_8 a0_9) else (none)) else (none)) = some (r1, r2) := by rw [if_neg (show ¬ (false = true) by decide)] at H; exact H
              clear H
              have H := H1
              clear H1
              obtain ⟨ji19, hji19⟩ : ∃ j_ : Int, (wrap64 ((wrap64 (a1 - 1)) - x21_1)) = j_ := ⟨_, rfl⟩
              replace H : (if 0 ≤ (ji19) then (if (ji19) < (a2.size : Int) then (format_get.l0 k1 a1 a2 (Go.bits .or .i64 (wrap64 (x8_1 * 256)) (wrap64 (bt a2 (ji19)))) a1 (wrap64 (x21_1 + 1)) a0_0 a0_1 false a0_3 a0_4 a0_5 a0_6 a0_7 a0_8 a0_9) else (none)) else (none)) = some (r1, r2) := by first | (rw [hji19] at H; exact H) | (simp only [hji19] at H ⊢; exact H)
              have hji19w : (IntKind.i64.wrap ((wrap64 (a1 - 1)) - x21_1)) = ji19 := (i64_w _).trans hji19
              by_cases c20 : 0 ≤ (ji19)
              · rw [if_pos c20] at H
                have c20b0 : decide (0 ≤ (ji19)) = true := decide_eq_true c20
                clear c20
                by_cases c21 : (ji19) < (a2.size : Int)
                · rw [if_pos c21] at H
                  have c21b0 : decide ((ji19) < (a2.size : Int)) = true := decide_eq_true c21
                  clear c21
                  have H' := Aside0.mk H
                  clear H
                  have hcz23_0 : wr.cell? ⟨gb145, 0, none⟩ = some (.int .i64 a0_0) := (blk_cell BK145.out 0).trans rfl
                  have hcz23_1 : wr.cell? ⟨gb145, 1, none⟩ = some (.int .i64 a0_1) := (blk_cell BK145.out 1).trans rfl
                  have hcz23_2 : wr.cell? ⟨gb145, 2, none⟩ = some (.bool false) := (blk_cell BK145.out 2).trans rfl
                  have hcz23_3 : wr.cell? ⟨gb145, 3, none⟩ = some (.bool a0_3) := (blk_cell BK145.out 3).trans rfl
                  have hcz23_4 : wr.cell? ⟨gb145, 4, none⟩ = some (.int .i64 a0_4) := (blk_cell BK145.out 4).trans rfl
                  have hcz23_5 : wr.cell? ⟨gb145, 5, none⟩ = some (.int .i64 a0_5) := (blk_cell BK145.out 5).trans rfl
                  have hcz23_6 : wr.cell? ⟨gb145, 6, none⟩ = some (.int .i64 a0_6) := (blk_cell BK145.out 6).trans rfl
                  have hcz23_7 : wr.cell? ⟨gb145, 7, none⟩ = some (.int .i64 a0_7) := (blk_cell BK145.out 7).trans rfl
                  have hcz23_8 : wr.cell? ⟨gb145, 8, none⟩ = some (.int .i64 a0_8) := (blk_cell BK145.out 8).trans rfl
                  have hcz23_9 : wr.cell? ⟨gb145, 9, none⟩ = some (.int .i64 a0_9) := (blk_cell BK145.out 9).trans rfl
                  have hfz23_0 := blk_frozen BK145.out 0
                  have hfz23_1 := blk_frozen BK145.out 1
                  have hfz23_2 := blk_frozen BK145.out 2
                  have hfz23_3 := blk_frozen BK145.out 3
                  have hfz23_4 := blk_frozen BK145.out 4
                  have hfz23_5 := blk_frozen BK145.out 5
                  have hfz23_6 := blk_frozen BK145.out 6
                  have hfz23_7 := blk_frozen BK145.out 7
                  have hfz23_8 := blk_frozen BK145.out 8
                  have hfz23_9 := blk_frozen BK145.out 9
                  have p22 : 0 ≤ ((ji19) : Int) := of_decide_eq_true (by first | (with_reducible assumption) | assumption)
                  have q22 : (ji19) < (a2.size : Int) := of_decide_eq_true (by first | (with_reducible assumption) | assumption)
                  have hx22 := bt_at a2 (ji19)
                  replace p22 := eq_true p22
                  replace q22 := eq_true q22
                  go_wp2
                  go_roundg k1
                  case measure => have := HK1.out; omega
                  case rel => exact ⟨(Go.bits .or .i64 (wrap64 (x8_1 * 256)) (wrap64 (bt a2 (ji19)))), (wrap64 (x21_1 + 1)), (by first | rfl | (simp; done) | (simp only [← hji19] <;> (first | rfl | simp)) | (simp [*]; done)), (by first | rfl | (simp; done) | (simp [*]; done)), H', ⟨by have := HK1.out; omega⟩, ⟨by (with_reducible repeat (first | refine blk_drewN ?_ _ | refine blk_drew ?_ | refine blk_alloc ?_ _)); exact BK145.out⟩, ⟨by repeat (first | (with_reducible first | exact HB.out | apply below_alloc | apply pw_below_drewN | apply below_drew1 | refine below_set ?_ GE145.out) | exact HB.out)⟩⟩
                · rw [if_neg c21] at H
                  exact absurd H (by simp)
              · rw [if_neg c20] at H
                exact absurd H (by simp)
          · rw [if_neg c13] at H
            have c13b0 : decide (x21_1 < a1) = false := decide_eq_false c13
            clear c13
            simp only [Option.some.injEq, Prod.mk.injEq] at H
            obtain ⟨rfl, rfl⟩ := H
            go_wp2
            go_ret2
            exact ⟨by first | rfl | (simp [errW_none, errW_some] <;> rfl) | (simp [*, errW_none, errW_some] <;> rfl), by repeat (first | (with_reducible first | exact HB.out | apply below_alloc | apply pw_below_drewN | apply below_drew1 | refine below_set ?_ GE145.out) | exact HB.out)⟩
  · replace c5 := Bool.eq_false_iff.mpr c5
    subst c5
    have H1 : (some (0, 130)) = some (r1, r2) := by rw [if_neg (show ¬ (false = true) by decide)] at H; exact H
    clear H
    have H := H1
    clear H1
    simp only [Option.some.injEq, Prod.mk.injEq] at H
    obtain ⟨rfl, rfl⟩ := H
    go_enter Try.func64, Try.ntmps64
    go_wp2_with (first | ((with_reducible refine gate_dst (N := 3) rfl ?_); refine box_event ?hg (N := 3) ?hd (cs := #[.int .i64 a0_0, .int .i64 a0_1, .bool a0_2, .bool a0_3, .int .i64 a0_4, .int .i64 a0_5, .int .i64 a0_6, .int .i64 a0_7, .int .i64 a0_8, .int .i64 a0_9]) (t := 37) ?hr ?_; (case hd => rfl); (case hg => rfl); (case hr => first | (go_simp; done) | (go_simp; rfl)); intro gb145 hg w24 hbox hb; have n0_ := Aside0.mk (below_step (by repeat (first | (with_reducible first | exact HB.out | apply below_alloc | apply pw_below_drewN | apply below_drew1) | exact HB.out)) hb); have n1_ := Aside0.mk (hbox); have n2_ := Aside0.mk ((by rw [hg]; exact (below_size (by repeat (first | (with_reducible first | exact HB.out | apply below_alloc | apply pw_below_drewN | apply below_drew1) | exact HB.out))) : w.heap.size ≤ gb145)); have n3_ := Aside0.mk ((by rw [hg]; exact (below_size (by repeat (first | (with_reducible first | exact HB.out | apply below_alloc | apply pw_below_drewN | apply below_drew1) | exact HB.out))) : w.heap.size ≤ gb145)); clear HB; have HB := n0_; have BK145 := n1_; have GW145 := n2_; have GE145 := n3_; clear n0_ n1_ n2_ n3_; clear hb hbox hg; have hcz25_0 : w24.cell? ⟨gb145, 0, none⟩ = some (.int .i64 a0_0) := (blk_cell BK145.out 0).trans rfl; have hcz25_1 : w24.cell? ⟨gb145, 1, none⟩ = some (.int .i64 a0_1) := (blk_cell BK145.out 1).trans rfl; have hcz25_2 : w24.cell? ⟨gb145, 2, none⟩ = some (.bool a0_2) := (blk_cell BK145.out 2).trans rfl; have hcz25_3 : w24.cell? ⟨gb145, 3, none⟩ = some (.bool a0_3) := (blk_cell BK145.out 3).trans rfl; have hcz25_4 : w24.cell? ⟨gb145, 4, none⟩ = some (.int .i64 a0_4) := (blk_cell BK145.out 4).trans rfl; have hcz25_5 : w24.cell? ⟨gb145, 5, none⟩ = some (.int .i64 a0_5) := (blk_cell BK145.out 5).trans rfl; have hcz25_6 : w24.cell? ⟨gb145, 6, none⟩ = some (.int .i64 a0_6) := (blk_cell BK145.out 6).trans rfl; have hcz25_7 : w24.cell? ⟨gb145, 7, none⟩ = some (.int .i64 a0_7) := (blk_cell BK145.out 7).trans rfl; have hcz25_8 : w24.cell? ⟨gb145, 8, none⟩ = some (.int .i64 a0_8) := (blk_cell BK145.out 8).trans rfl; have hcz25_9 : w24.cell? ⟨gb145, 9, none⟩ = some (.int .i64 a0_9) := (blk_cell BK145.out 9).trans rfl; have hfz25_0 := blk_frozen BK145.out 0; have hfz25_1 := blk_frozen BK145.out 1; have hfz25_2 := blk_frozen BK145.out 2; have hfz25_3 := blk_frozen BK145.out 3; have hfz25_4 := blk_frozen BK145.out 4; have hfz25_5 := blk_frozen BK145.out 5; have hfz25_6 := blk_frozen BK145.out 6; have hfz25_7 := blk_frozen BK145.out 7; have hfz25_8 := blk_frozen BK145.out 8; have hfz25_9 := blk_frozen BK145.out 9) | ((with_reducible refine gate_callee (f := 50) rfl ?_); refine goesL_ (some 13) rfl rfl Try.func50 (by kernel_rfl) rfl #[.agg #[.int .i64 a0_0, .int .i64 a0_1, .bool a0_2, .bool a0_3, .int .i64 a0_4, .int .i64 a0_5, .int .i64 a0_6, .int .i64 a0_7, .int .i64 a0_8, .int .i64 a0_9]] rfl (by (try simp only [List.map_toArray, List.map_cons, List.map_nil]); first | done | rfl | (simp only [List.length_drop, List.length_take]; rfl)) ?_; (with_reducible refine (format_Valid.calls a0_0 a0_1 a0_2 a0_3 a0_4 a0_5 a0_6 a0_7 a0_8 a0_9 false _ A4.out).mono ?_); rintro e w26 ⟨rfl, hb⟩; refine ⟨_, rfl, ?_⟩; have n0_ := Aside0.mk (blk_below (g := gb145) (o := .cells #[.int .i64 a0_0, .int .i64 a0_1, .bool a0_2, .bool a0_3, .int .i64 a0_4, .int .i64 a0_5, .int .i64 a0_6, .int .i64 a0_7, .int .i64 a0_8, .int .i64 a0_9] 37 (0, 0)) (by (with_reducible repeat (first | refine blk_drewN ?_ _ | refine blk_drew ?_ | refine blk_alloc ?_ _)); exact BK145.out) hb); have n1_ := Aside0.mk (below_step (by repeat (first | (with_reducible first | exact HB.out | apply below_alloc | apply pw_below_drewN | apply below_drew1 | refine below_set ?_ GE145.out) | exact HB.out)) hb); clear BK145; clear HB; have BK145 := n0_; have HB := n1_; clear n0_ n1_; (try clear hb); (try clear hb2); (try clear hk); (try clear hi)))
    go_ret2
    exact ⟨by first | rfl | (simp [errW_none, errW_some] <;> rfl) | (simp [*, errW_none, errW_some] <;> rfl), by repeat (first | (with_reducible first | exact HB.out | apply below_alloc | apply pw_below_drewN | apply below_drew1 | refine below_set ?_ GE145.out) | exact HB.out)⟩

end Go.Proofs.Ytkmfhfejogjnfaa.X
