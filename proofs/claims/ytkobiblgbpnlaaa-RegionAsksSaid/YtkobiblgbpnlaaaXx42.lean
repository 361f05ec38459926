/- What each Go function that these laws use answers: as a Lean function, with the proof that the machine's call comes to it. Written by a program of this session (xprint.py). -/
import Derived.Test.YtkobiblgbpnlaaaXx0
import Derived.Test.YtkobiblgbpnlaaaXx25
namespace Go.Proofs.Ytkobiblgbpnlaaa.X
open Go.RowKit Go.Proofs.YtkobiblgbpnlaaaW.PrintWords Go.Proofs.YtkobiblgbpnlaaaW.PrintLast Go.Proofs.YtkobiblgbpnlaaaW.PrintMore
attribute [local go_sem] max2_int min2_int max_two min_two max_three min_three max_four min_four   -- for this text's walks alone
set_option linter.unusedVariables false
set_option linter.unusedSimpArgs false

/-! ### miradorref15_Bounds: function 24 -/
def miradorref15_Bounds.f (k : Nat) (l0 : List (S26)) : Option (Int × Int × Int × Int) := (miradorref15_Borders.f k l0).bind fun bt619 => (if (bt619.1.length : Int) = 0 then (some (0, 0, 0, 0)) else (if 0 < (bt619.1.length : Int) then (if 0 < (bt619.2.length : Int) then (if 0 ≤ (wrap64 ((bt619.1.length : Int) - 1)) then (if (wrap64 ((bt619.1.length : Int) - 1)) < (bt619.1.length : Int) then (if 0 ≤ (wrap64 ((bt619.2.length : Int) - 1)) then (if (wrap64 ((bt619.2.length : Int) - 1)) < (bt619.2.length : Int) then (some (rd bt619.1 0, rd bt619.2 0, wrap64 ((rd bt619.1 (wrap64 ((bt619.1.length : Int) - 1))) - (rd bt619.1 0)), wrap64 ((rd bt619.2 (wrap64 ((bt619.2.length : Int) - 1))) - (rd bt619.2 0)))) else (none)) else (none)) else (none)) else (none)) else (none)) else (none)))
theorem miradorref15_Bounds.mono : ∀ a0 k, LeO (miradorref15_Bounds.f k a0) (miradorref15_Bounds.f (k + 1) a0) := by
  intro a0 k
  unfold miradorref15_Bounds.f
  repeat' first
      | (with_reducible exact miradorref15_Borders.mono _ _)
      | (with_reducible exact LeO.refl _)
      | (with_reducible exact LeO.none _)
      | (with_reducible refine LeO.ite ?_ ?_)
      | (with_reducible refine LeO.bind ?_ (fun _ => ?_))
      | exact miradorref15_Borders.mono _ _
      | exact LeO.none _
      | refine LeO.ite ?_ ?_
      | refine LeO.bind ?_ (fun _ => ?_)
def miradorref15_Bounds.T6 : Bool × List (List Nat × List Nat) := (true, [([], []), ([], []), ([], []), ([], []), ([3], [3]), ([4], [4]), ([2, 5], [2, 5]), ([6], [6]), ([], []), ([7, 8], [7, 8]), ([], []), ([], []), ([11], [11]), ([12], [12]), ([10, 13], [10, 13]), ([14], [14]), ([], []), ([15, 16], [15, 16]), ([0, 1, 9, 17], [0, 1, 9, 17]), ([18, 0, 1, 2, 3, 4, 5, 6, 7, 8, 9, 10, 11, 12, 13, 14, 15, 16, 17, 18], [18])])
def miradorref15_Bounds.B6 : List Nat := [0, 0, 0, 0, 8, 24, 60, 124, 0, 508, 0, 0, 2048, 6144, 15360, 31744, 0, 130048, 262143, 524287]
theorem miradorref15_Bounds.tab6 : rtab .any (opsOf Try.f24 6) = miradorref15_Bounds.T6 := by kernel_rfl
theorem miradorref15_Bounds.bits6 : waitsOk miradorref15_Bounds.T6.2 miradorref15_Bounds.B6 = true := by kernel_rfl
set_option maxHeartbeats 8000000 in
set_option maxRecDepth 100000 in
theorem miradorref15_Bounds.calls (k : Nat) (A0 : Option Addr) (c0 : Nat) (l0 : List (S26)) (r1 : Int) (r2 : Int) (r3 : Int) (r4 : Int) (w : World) (hr0 : Kd.C k26 w A0 l0.length l0) (hc0 : l0.length ≤ c0) (h : miradorref15_Bounds.f k l0 = some (r1, r2, r3, r4)) :
    Calls Try.prog 24 #[.slice A0 l0.length c0] w fun e w' => e = .returned (.agg #[.int .i64 r1, .int .i64 r2, .int .i64 r3, .int .i64 r4]) ∧ Below w.heap.size w w' := by
  have hu26 := Try.underlying26
  have HR0 := Aside0.mk hr0
  have HC0 := Aside0.mk hc0
  clear hr0 hc0
  have HB := Aside0.mk (Below.refl w.heap.size w)
  have H : ((miradorref15_Borders.f k l0).bind fun bt619 => (if (bt619.1.length : Int) = 0 then (some (0, 0, 0, 0)) else (if 0 < (bt619.1.length : Int) then (if 0 < (bt619.2.length : Int) then (if 0 ≤ (wrap64 ((bt619.1.length : Int) - 1)) then (if (wrap64 ((bt619.1.length : Int) - 1)) < (bt619.1.length : Int) then (if 0 ≤ (wrap64 ((bt619.2.length : Int) - 1)) then (if (wrap64 ((bt619.2.length : Int) - 1)) < (bt619.2.length : Int) then (some (rd bt619.1 0, rd bt619.2 0, wrap64 ((rd bt619.1 (wrap64 ((bt619.1.length : Int) - 1))) - (rd bt619.1 0)), wrap64 ((rd bt619.2 (wrap64 ((bt619.2.length : Int) - 1))) - (rd bt619.2 0)))) else (none)) else (none)) else (none)) else (none)) else (none)) else (none)))) = some (r1, r2, r3, r4) := h
  clear h
  replace H := Option.bind_eq_some_iff.mp H
  obtain ⟨⟨t619, t620⟩, A20, H⟩ := H
  replace H : (if (t619.length : Int) = 0 then (some (0, 0, 0, 0)) else (if 0 < (t619.length : Int) then (if 0 < (t620.length : Int) then (if 0 ≤ (wrap64 ((t619.length : Int) - 1)) then (if (wrap64 ((t619.length : Int) - 1)) < (t619.length : Int) then (if 0 ≤ (wrap64 ((t620.length : Int) - 1)) then (if (wrap64 ((t620.length : Int) - 1)) < (t620.length : Int) then (some (rd t619 0, rd t620 0, wrap64 ((rd t619 (wrap64 ((t619.length : Int) - 1))) - (rd t619 0)), wrap64 ((rd t620 (wrap64 ((t620.length : Int) - 1))) - (rd t620 0)))) else (none)) else (none)) else (none)) else (none)) else (none)) else (none))) = some (r1, r2, r3, r4) := H
  have A2 := Aside0.mk A20
  clear A20
  by_cases c3 : (t619.length : Int) = 0
  · rw [if_pos c3] at H
    have c3b0 : ((t619.length : Int) == 0) = true := beq_iff_eq.mpr c3
    have c3b1 : ((t619.length : Int) != 0) = false := bne_eq_false_iff_eq.mpr c3
    clear c3
    simp only [Option.some.injEq, Prod.mk.injEq] at H
    obtain ⟨rfl, rfl, rfl, rfl⟩ := H
    go_enter Try.func24, Try.ntmps24
    go_wp2_with (first | ((with_reducible refine gate_dst (N := 2) rfl ?_); refine box_event ?hg (N := 2) ?hd (cs := #[.int .i64 0, .int .i64 0, .int .i64 0, .int .i64 0]) (t := 26) ?hr ?_; (case hd => rfl); (case hg => rfl); (case hr => first | (go_simp; done) | (go_simp; rfl)); intro gb618 hg w4 hbox hb; have n0_ := Aside0.mk (below_step (by repeat (first | (with_reducible first | exact HB.out | apply below_alloc | apply pw_below_drewN | apply below_drew1) | exact HB.out)) hb); have n1_ := Aside0.mk (hbox); have n2_ := Aside0.mk ((by rw [hg]; exact (below_size (by repeat (first | (with_reducible first | exact HB.out | apply below_alloc | apply pw_below_drewN | apply below_drew1) | exact HB.out))) : w.heap.size ≤ gb618)); have n3_ := Aside0.mk ((by rw [hg]; exact (below_size (by repeat (first | (with_reducible first | exact HB.out | apply below_alloc | apply pw_below_drewN | apply below_drew1) | exact HB.out))) : w.heap.size ≤ gb618)); clear HB; have HB := n0_; have BK618 := n1_; have GW618 := n2_; have GE618 := n3_; clear n0_ n1_ n2_ n3_; clear hb hbox hg) | ((with_reducible refine gate_callee (f := 27) rfl ?_); refine goesL_ (some 9) rfl rfl Try.func27 (by kernel_rfl) rfl #[.slice A0 l0.length c0] rfl (by (try simp only [List.map_toArray, List.map_cons, List.map_nil]); first | done | rfl | (simp only [List.length_drop, List.length_take]; rfl)) ?_; (with_reducible refine (miradorref15_Borders.calls k _ _ l0 t619 t620 _ ?side1 ?side2 A2.out).mono ?_); (case side1 => repeat (first | exact (Kd.C_below HR0.out HB.out) | (with_reducible refine Kd.C_alloc ?_ _) | (with_reducible refine Kd.C_drewN ?_ _) | (with_reducible refine Kd.C_drew ?_))); (case side2 => exact HC0.out); rintro e w5 ⟨v621, v623, rfl, ho0, ho1, hb⟩; refine ⟨_, rfl, ?_⟩; have n0_ := Aside0.mk (Kd.R_lower ho0 (below_size (by repeat (first | (with_reducible first | exact HB.out | apply below_alloc | apply pw_below_drewN | apply below_drew1 | refine below_set ?_ GE618.out) | exact HB.out)))); have n1_ := Aside0.mk (Kd.R_lower ho1 (below_size (by repeat (first | (with_reducible first | exact HB.out | apply below_alloc | apply pw_below_drewN | apply below_drew1 | refine below_set ?_ GE618.out) | exact HB.out)))); have n2_ := Aside0.mk (blk_below (g := gb618) (o := .cells #[.int .i64 0, .int .i64 0, .int .i64 0, .int .i64 0] 26 (0, 0)) (by (with_reducible repeat (first | refine blk_drewN ?_ _ | refine blk_drew ?_ | refine blk_alloc ?_ _)); exact BK618.out) hb); have n3_ := Aside0.mk (below_step (by repeat (first | (with_reducible first | exact HB.out | apply below_alloc | apply pw_below_drewN | apply below_drew1 | refine below_set ?_ GE618.out) | exact HB.out)) hb); clear BK618; clear HB; have HO622 := n0_; have HO624 := n1_; have BK618 := n2_; have HB := n3_; clear n0_ n1_ n2_ n3_; (try clear hb); (try clear hb2); (try clear hk); (try clear hi); (try clear ho0); (try clear ho1); obtain ⟨Ao6, co6, eo6⟩ := Kd.R_slice HO622.out; subst eo6; have hcz7_0 : w5.cell? ⟨gb618, 0, none⟩ = some (.int .i64 0) := (blk_cell BK618.out 0).trans rfl; have hcz7_1 : w5.cell? ⟨gb618, 1, none⟩ = some (.int .i64 0) := (blk_cell BK618.out 1).trans rfl; have hcz7_2 : w5.cell? ⟨gb618, 2, none⟩ = some (.int .i64 0) := (blk_cell BK618.out 2).trans rfl; have hcz7_3 : w5.cell? ⟨gb618, 3, none⟩ = some (.int .i64 0) := (blk_cell BK618.out 3).trans rfl; have hfz7_0 := blk_frozen BK618.out 0; have hfz7_1 := blk_frozen BK618.out 1; have hfz7_2 := blk_frozen BK618.out 2; have hfz7_3 := blk_frozen BK618.out 3))
    refine bodyPost_ret (results_cell_row rfl _ _ gb618 26 #[.int .i64 0, .int .i64 0, .int .i64 0, .int .i64 0] (0, 0) _ rfl (by (with_reducible repeat (first | refine blk_drewN ?_ _ | refine blk_drew ?_ | refine blk_alloc ?_ _)); refine blk_put (cs := #[.int .i64 0, .int .i64 0, .int .i64 0, .int .i64 0]) ?_ 3 _ rfl; (with_reducible repeat (first | refine blk_drewN ?_ _ | refine blk_drew ?_ | refine blk_alloc ?_ _)); refine blk_put (cs := #[.int .i64 0, .int .i64 0, .int .i64 0, .int .i64 0]) ?_ 2 _ rfl; (with_reducible repeat (first | refine blk_drewN ?_ _ | refine blk_drew ?_ | refine blk_alloc ?_ _)); refine blk_put (cs := #[.int .i64 0, .int .i64 0, .int .i64 0, .int .i64 0]) ?_ 1 _ rfl; (with_reducible repeat (first | refine blk_drewN ?_ _ | refine blk_drew ?_ | refine blk_alloc ?_ _)); refine blk_put (cs := #[.int .i64 0, .int .i64 0, .int .i64 0, .int .i64 0]) ?_ 0 _ rfl; (with_reducible repeat (first | refine blk_drewN ?_ _ | refine blk_drew ?_ | refine blk_alloc ?_ _)); exact BK618.out) Try.underlying26 rfl (by kernel_rfl)) rfl ?_
    exact ⟨by first | rfl | (simp [errW_none, errW_some] <;> rfl) | (simp [*, errW_none, errW_some] <;> rfl), by repeat (first | (with_reducible first | exact HB.out | apply below_alloc | apply pw_below_drewN | apply below_drew1 | refine below_set ?_ GE618.out) | exact HB.out)⟩
  · rw [if_neg c3] at H
    have c3b0 : ((t619.length : Int) == 0) = false := beq_eq_false_iff_ne.mpr c3
    have c3b1 : ((t619.length : Int) != 0) = true := bne_iff_ne.mpr c3
    have c3b2 : ¬ (t619 = []) := fun h_ => c3 (by rw [h_]; rfl)
    by_cases c8 : 0 < (t619.length : Int)
    · rw [if_pos c8] at H
      have c8b0 : decide (0 < (t619.length : Int)) = true := decide_eq_true c8
      have c8b1 : decide (0 < t619.length) = true := decide_eq_true (by omega)
      clear c8
      by_cases c9 : 0 < (t620.length : Int)
      · rw [if_pos c9] at H
        have c9b0 : decide (0 < (t620.length : Int)) = true := decide_eq_true c9
        have c9b1 : decide (0 < t620.length) = true := decide_eq_true (by omega)
        clear c9
        obtain ⟨ji10, hji10⟩ : ∃ j_ : Int, (wrap64 ((t619.length : Int) - 1)) = j_ := ⟨_, rfl⟩
        replace H : (if 0 ≤ (ji10) then (if (ji10) < (t619.length : Int) then (if 0 ≤ (wrap64 ((t620.length : Int) - 1)) then (if (wrap64 ((t620.length : Int) - 1)) < (t620.length : Int) then (some (rd t619 0, rd t620 0, wrap64 ((rd t619 (ji10)) - (rd t619 0)), wrap64 ((rd t620 (wrap64 ((t620.length : Int) - 1))) - (rd t620 0)))) else (none)) else (none)) else (none)) else (none)) = some (r1, r2, r3, r4) := by first | (rw [hji10] at H; exact H) | (simp only [hji10] at H ⊢; exact H)
        (try rw [hji10] at A2)
        have hji10w : (IntKind.i64.wrap ((t619.length : Int) - 1)) = ji10 := (i64_w _).trans hji10
        by_cases c11 : 0 ≤ (ji10)
        · rw [if_pos c11] at H
          have c11b0 : decide (0 ≤ (ji10)) = true := decide_eq_true c11
          clear c11
          by_cases c12 : (ji10) < (t619.length : Int)
          · rw [if_pos c12] at H
            have c12b0 : decide ((ji10) < (t619.length : Int)) = true := decide_eq_true c12
            clear c12
            obtain ⟨ji13, hji13⟩ : ∃ j_ : Int, (wrap64 ((t620.length : Int) - 1)) = j_ := ⟨_, rfl⟩
            replace H : (if 0 ≤ (ji13) then (if (ji13) < (t620.length : Int) then (some (rd t619 0, rd t620 0, wrap64 ((rd t619 (ji10)) - (rd t619 0)), wrap64 ((rd t620 (ji13)) - (rd t620 0)))) else (none)) else (none)) = some (r1, r2, r3, r4) := by first | (rw [hji13] at H; exact H) | (simp only [hji13] at H ⊢; exact H)
            (try rw [hji13] at A2)
            have hji13w : (IntKind.i64.wrap ((t620.length : Int) - 1)) = ji13 := (i64_w _).trans hji13
            by_cases c14 : 0 ≤ (ji13)
            · rw [if_pos c14] at H
              have c14b0 : decide (0 ≤ (ji13)) = true := decide_eq_true c14
              clear c14
              by_cases c15 : (ji13) < (t620.length : Int)
              · rw [if_pos c15] at H
                have c15b0 : decide ((ji13) < (t620.length : Int)) = true := decide_eq_true c15
                clear c15
                simp only [Option.some.injEq, Prod.mk.injEq] at H
                obtain ⟨rfl, rfl, rfl, rfl⟩ := H
                go_enter Try.func24, Try.ntmps24
                try go_wp2_with (first | ((with_reducible refine gate_dst (N := 2) rfl ?_); refine box_event ?hg (N := 2) ?hd (cs := #[.int .i64 0, .int .i64 0, .int .i64 0, .int .i64 0]) (t := 26) ?hr ?_; (case hd => rfl); (case hg => rfl); (case hr => first | (go_simp; done) | (go_simp; rfl)); intro gb618 hg w16 hbox hb; have n0_ := Aside0.mk (below_step (by repeat (first | (with_reducible first | exact HB.out | apply below_alloc | apply pw_below_drewN | apply below_drew1) | exact HB.out)) hb); have n1_ := Aside0.mk (hbox); have n2_ := Aside0.mk ((by rw [hg]; exact (below_size (by repeat (first | (with_reducible first | exact HB.out | apply below_alloc | apply pw_below_drewN | apply below_drew1) | exact HB.out))) : w.heap.size ≤ gb618)); have n3_ := Aside0.mk ((by rw [hg]; exact (below_size (by repeat (first | (with_reducible first | exact HB.out | apply below_alloc | apply pw_below_drewN | apply below_drew1) | exact HB.out))) : w.heap.size ≤ gb618)); clear HB; have HB := n0_; have BK618 := n1_; have GW618 := n2_; have GE618 := n3_; clear n0_ n1_ n2_ n3_; clear hb hbox hg) | ((with_reducible refine gate_callee (f := 27) rfl ?_); refine goesL_ (some 9) rfl rfl Try.func27 (by kernel_rfl) rfl #[.slice A0 l0.length c0] rfl (by (try simp only [List.map_toArray, List.map_cons, List.map_nil]); first | done | rfl | (simp only [List.length_drop, List.length_take]; rfl)) ?_; (with_reducible refine (miradorref15_Borders.calls k _ _ l0 t619 t620 _ ?side1 ?side2 A2.out).mono ?_); (case side1 => repeat (first | exact (Kd.C_below HR0.out HB.out) | (with_reducible refine Kd.C_alloc ?_ _) | (with_reducible refine Kd.C_drewN ?_ _) | (with_reducible refine Kd.C_drew ?_))); (case side2 => exact HC0.out); rintro e w17 ⟨v621, v623, rfl, ho0, ho1, hb⟩; refine ⟨_, rfl, ?_⟩; have n0_ := Aside0.mk (Kd.R_lower ho0 (below_size (by repeat (first | (with_reducible first | exact HB.out | apply below_alloc | apply pw_below_drewN | apply below_drew1 | refine below_set ?_ GE618.out) | exact HB.out)))); have n1_ := Aside0.mk (Kd.R_lower ho1 (below_size (by repeat (first | (with_reducible first | exact HB.out | apply below_alloc | apply pw_below_drewN | apply below_drew1 | refine below_set ?_ GE618.out) | exact HB.out)))); have n2_ := Aside0.mk (blk_below (g := gb618) (o := .cells #[.int .i64 0, .int .i64 0, .int .i64 0, .int .i64 0] 26 (0, 0)) (by (with_reducible repeat (first | refine blk_drewN ?_ _ | refine blk_drew ?_ | refine blk_alloc ?_ _)); exact BK618.out) hb); have n3_ := Aside0.mk (below_step (by repeat (first | (with_reducible first | exact HB.out | apply below_alloc | apply pw_below_drewN | apply below_drew1 | refine below_set ?_ GE618.out) | exact HB.out)) hb); clear BK618; clear HB; have HO622 := n0_; have HO624 := n1_; have BK618 := n2_; have HB := n3_; clear n0_ n1_ n2_ n3_; (try clear hb); (try clear hb2); (try clear hk); (try clear hi); (try clear ho0); (try clear ho1); obtain ⟨Ao18, co18, eo18⟩ := Kd.R_slice HO622.out; subst eo18; have p625 : 0 ≤ (0 : Int) := (by omega); have q625 : 0 < (t619.length : Int) := of_decide_eq_true (by first | (with_reducible assumption) | assumption); obtain ⟨ad625, e625, hx625_0⟩ := Kd.at_int (Kd.R_reads' HO622.out).2.2 0 p625 q625; cases e625; have qi625 : (0 < t619.length) = True := eq_true (by omega); (try rw [show ((0 : Int)).toNat = 0 from rfl] at hx625_0); (try rw [Addr.add_zero'] at hx625_0); replace p625 := eq_true p625; replace q625 := eq_true q625; obtain ⟨Ao19, co19, eo19⟩ := Kd.R_slice HO624.out; subst eo19; have p626 : 0 ≤ (0 : Int) := (by omega); have q626 : 0 < (t620.length : Int) := of_decide_eq_true (by first | (with_reducible assumption) | assumption); obtain ⟨ad626, e626, hx626_0⟩ := Kd.at_int (Kd.R_reads' HO624.out).2.2 0 p626 q626; cases e626; have qi626 : (0 < t620.length) = True := eq_true (by omega); (try rw [show ((0 : Int)).toNat = 0 from rfl] at hx626_0); (try rw [Addr.add_zero'] at hx626_0); replace p626 := eq_true p626; replace q626 := eq_true q626))
                have n0_ := Aside0.mk (Kd.R_drew HO622.out)
                have n1_ := Aside0.mk (Kd.R_drew HO624.out)
                have n2_ := Aside0.mk (blk_drew BK618.out)
                have n3_ := Aside0.mk (below_drew1 HB.out)
                clear HO622
                clear HO624
                clear BK618
                clear HB
                have HO622 := n0_
                have HO624 := n1_
                have BK618 := n2_
                have HB := n3_
                clear n0_ n1_ n2_ n3_
                have p627 : 0 ≤ ((ji10) : Int) := of_decide_eq_true (by first | (with_reducible assumption) | assumption)
                have q627 : (ji10) < (t619.length : Int) := of_decide_eq_true (by first | (with_reducible assumption) | assumption)
                obtain ⟨ad627, e627, hx627_0⟩ := Kd.at_int (Kd.R_reads' HO622.out).2.2 (ji10) p627 q627
                obtain rfl : ad625 = ad627 := (by injection e627)
                replace p627 := eq_true p627
                replace q627 := eq_true q627
                have p628 : 0 ≤ ((ji13) : Int) := of_decide_eq_true (by first | (with_reducible assumption) | assumption)
                have q628 : (ji13) < (t620.length : Int) := of_decide_eq_true (by first | (with_reducible assumption) | assumption)
                obtain ⟨ad628, e628, hx628_0⟩ := Kd.at_int (Kd.R_reads' HO624.out).2.2 (ji13) p628 q628
                obtain rfl : ad626 = ad628 := (by injection e628)
                replace p628 := eq_true p628
                replace q628 := eq_true q628
                refine start_ (n := 20) (S := fun w' => w'.cell? (ad625.add ((ji10)).toNat) = some (.int .i64 (rd t619 (ji10))) ∧ w'.cell? (ad626.add ((ji13)).toNat) = some (.int .i64 (rd t620 (ji13)))) (ds := []) #[false, false, false, false, false, false, false, false, false, false, false, false, false, false, false, false, false, false, false, false] (by kernel_rfl) rfl rfl ⟨hx627_0, hx628_0⟩ (fun hHeld => ?_); refine with_tabW miradorref15_Bounds.tab6 miradorref15_Bounds.bits6 (fun HT_ HW_ => ?_)
                generalize w17.drew = w20 at HO622 HO624 BK618 HB hx627_0 hx628_0 hHeld ⊢
                refine pure_ (i := 0) (N := some 22) (v := ?_) (a' := ?_) #[true, false, false, false, false, false, false, false, false, false, false, false, false, false, false, false, false, false, false, false] rfl rfl (any_of HT_.out (by kernel_rfl)) (fun _ _ _ h => h) (Or.inl ⟨by rfl, ?_⟩) ?_ ?_
                rotate_left
                · intro w'
                  go_simp
                  with_reducible rfl
                rotate_left
                · simp only [Act.put, List.setIfInBounds_toArray, List.set_cons_zero, List.set_cons_succ, i64_w, i32_w]
                  rfl
                refine pure_ (i := 1) (N := some 23) (v := ?_) (a' := ?_) #[true, true, false, false, false, false, false, false, false, false, false, false, false, false, false, false, false, false, false, false] rfl rfl (any_of HT_.out (by kernel_rfl)) (fun _ _ _ h => h) (Or.inl ⟨by rfl, ?_⟩) ?_ ?_
                rotate_left
                · intro w'
                  go_simp
                  with_reducible rfl
                rotate_left
                · simp only [Act.put, List.setIfInBounds_toArray, List.set_cons_zero, List.set_cons_succ, i64_w, i32_w]
                  rfl
                refine pure_ (i := 2) (N := some 24) (v := ?_) (a' := ?_) #[true, true, true, false, false, false, false, false, false, false, false, false, false, false, false, false, false, false, false, false] rfl rfl (any_of HT_.out (by kernel_rfl)) (fun _ _ _ h => h) (Or.inl ⟨by rfl, ?_⟩) ?_ ?_
                rotate_left
                · intro w'
                  go_simp
                  with_reducible rfl
                rotate_left
                · simp only [Act.put, List.setIfInBounds_toArray, List.set_cons_zero, List.set_cons_succ, i64_w, i32_w]
                  rfl
                refine pure_ (i := 3) (N := some 25) (v := ?_) (a' := ?_) #[true, true, true, true, false, false, false, false, false, false, false, false, false, false, false, false, false, false, false, false] rfl rfl (any_of HT_.out (by kernel_rfl)) (fun _ _ _ h => h) (Or.inl ⟨by rfl, ?_⟩) ?_ ?_
                rotate_left
                · intro w'
                  go_simp
                  with_reducible rfl
                rotate_left
                · simp only [Act.put, List.setIfInBounds_toArray, List.set_cons_zero, List.set_cons_succ, i64_w, i32_w]
                  rfl
                refine pure_ (i := 4) (N := some 26) (v := ?_) (a' := ?_) #[true, true, true, true, true, false, false, false, false, false, false, false, false, false, false, false, false, false, false, false] rfl rfl (any_of HT_.out (by kernel_rfl)) (fun _ _ _ h => h) (Or.inl ⟨by rfl, ?_⟩) ?_ ?_
                rotate_left
                · intro w'
                  go_simp
                  with_reducible rfl
                rotate_left
                · simp only [Act.put, List.setIfInBounds_toArray, List.set_cons_zero, List.set_cons_succ, i64_w, i32_w]
                  rfl
                refine pure_ (i := 5) (N := some 27) (v := ?_) (a' := ?_) #[true, true, true, true, true, true, false, false, false, false, false, false, false, false, false, false, false, false, false, false] rfl rfl (any_of HT_.out (by kernel_rfl)) (fun _ _ _ h => h) (Or.inl ⟨by rfl, ?_⟩) ?_ ?_
                rotate_left
                · intro w'
                  go_simp
                  with_reducible rfl
                rotate_left
                · simp only [Act.put, List.setIfInBounds_toArray, List.set_cons_zero, List.set_cons_succ, i64_w, i32_w]
                  rfl
                refine pure_ (i := 6) (N := some 28) (v := ?_) (a' := ?_) #[true, true, true, true, true, true, true, false, false, false, false, false, false, false, false, false, false, false, false, false] rfl rfl (any_of HT_.out (by kernel_rfl)) (fun _ _ _ h => h) (Or.inl ⟨by rfl, ?_⟩) ?_ ?_
                rotate_left
                · intro w'
                  go_simp
                  with_reducible rfl
                rotate_left
                · simp only [Act.put, List.setIfInBounds_toArray, List.set_cons_zero, List.set_cons_succ, i64_w, i32_w]
                  rfl
                refine pure_ (i := 8) (N := some 30) (v := ?_) (a' := ?_) #[true, true, true, true, true, true, true, false, true, false, false, false, false, false, false, false, false, false, false, false] rfl rfl (any_of HT_.out (by kernel_rfl)) (fun _ _ _ h => h) (Or.inl ⟨by rfl, ?_⟩) ?_ ?_
                rotate_left
                · intro w'
                  go_simp
                  with_reducible rfl
                rotate_left
                · simp only [Act.put, List.setIfInBounds_toArray, List.set_cons_zero, List.set_cons_succ, i64_w, i32_w]
                  rfl
                refine pure_ (i := 10) (N := some 32) (v := ?_) (a' := ?_) #[true, true, true, true, true, true, true, false, true, false, true, false, false, false, false, false, false, false, false, false] rfl rfl (any_of HT_.out (by kernel_rfl)) (fun _ _ _ h => h) (Or.inl ⟨by rfl, ?_⟩) ?_ ?_
                rotate_left
                · intro w'
                  go_simp
                  with_reducible rfl
                rotate_left
                · simp only [Act.put, List.setIfInBounds_toArray, List.set_cons_zero, List.set_cons_succ, i64_w, i32_w]
                  rfl
                refine pure_ (i := 11) (N := some 33) (v := ?_) (a' := ?_) #[true, true, true, true, true, true, true, false, true, false, true, true, false, false, false, false, false, false, false, false] rfl rfl (any_of HT_.out (by kernel_rfl)) (fun _ _ _ h => h) (Or.inl ⟨by rfl, ?_⟩) ?_ ?_
                rotate_left
                · intro w'
                  go_simp
                  with_reducible rfl
                rotate_left
                · simp only [Act.put, List.setIfInBounds_toArray, List.set_cons_zero, List.set_cons_succ, i64_w, i32_w]
                  rfl
                refine pure_ (i := 12) (N := some 34) (v := ?_) (a' := ?_) #[true, true, true, true, true, true, true, false, true, false, true, true, true, false, false, false, false, false, false, false] rfl rfl (any_of HT_.out (by kernel_rfl)) (fun _ _ _ h => h) (Or.inl ⟨by rfl, ?_⟩) ?_ ?_
                rotate_left
                · intro w'
                  go_simp
                  with_reducible rfl
                rotate_left
                · simp only [Act.put, List.setIfInBounds_toArray, List.set_cons_zero, List.set_cons_succ, i64_w, i32_w]
                  rfl
                refine pure_ (i := 13) (N := some 35) (v := ?_) (a' := ?_) #[true, true, true, true, true, true, true, false, true, false, true, true, true, true, false, false, false, false, false, false] rfl rfl (any_of HT_.out (by kernel_rfl)) (fun _ _ _ h => h) (Or.inl ⟨by rfl, ?_⟩) ?_ ?_
                rotate_left
                · intro w'
                  go_simp
                  with_reducible rfl
                rotate_left
                · simp only [Act.put, List.setIfInBounds_toArray, List.set_cons_zero, List.set_cons_succ, i64_w, i32_w]
                  rfl
                refine pure_ (i := 14) (N := some 36) (v := ?_) (a' := ?_) #[true, true, true, true, true, true, true, false, true, false, true, true, true, true, true, false, false, false, false, false] rfl rfl (any_of HT_.out (by kernel_rfl)) (fun _ _ _ h => h) (Or.inl ⟨by rfl, ?_⟩) ?_ ?_
                rotate_left
                · intro w'
                  go_simp
                  with_reducible rfl
                rotate_left
                · simp only [Act.put, List.setIfInBounds_toArray, List.set_cons_zero, List.set_cons_succ, i64_w, i32_w]
                  rfl
                refine pure_ (i := 16) (N := some 38) (v := ?_) (a' := ?_) #[true, true, true, true, true, true, true, false, true, false, true, true, true, true, true, false, true, false, false, false] rfl rfl (any_of HT_.out (by kernel_rfl)) (fun _ _ _ h => h) (Or.inl ⟨by rfl, ?_⟩) ?_ ?_
                rotate_left
                · intro w'
                  go_simp
                  with_reducible rfl
                rotate_left
                · simp only [Act.put, List.setIfInBounds_toArray, List.set_cons_zero, List.set_cons_succ, i64_w, i32_w]
                  rfl
                refine take_ (i := 7) (N := some 29) (v := ?_) (a' := ?_) #[true, true, true, true, true, true, true, true, true, false, true, true, true, true, true, false, true, false, false, false] rfl rfl (take_ofW HT_.out HW_.out (by kernel_rfl)) (fun _ _ _ h => h) (Or.inl ⟨by rfl, ?_⟩) hHeld ?_ ?_
                rotate_left
                · rintro w' ⟨s0, s1⟩
                  go_simp
                  with_reducible rfl
                rotate_left
                · simp only [Act.put, List.setIfInBounds_toArray, List.set_cons_zero, List.set_cons_succ, i64_w, i32_w]
                  rfl
                refine pure_ (i := 9) (N := some 31) (v := ?_) (a' := ?_) #[true, true, true, true, true, true, true, true, true, true, true, true, true, true, true, false, true, false, false, false] rfl rfl (any_of HT_.out (by kernel_rfl)) (fun _ _ _ h => h) (Or.inl ⟨by rfl, ?_⟩) ?_ ?_
                rotate_left
                · intro w'
                  go_simp
                  with_reducible rfl
                rotate_left
                · simp only [Act.put, List.setIfInBounds_toArray, List.set_cons_zero, List.set_cons_succ, i64_w, i32_w]
                  rfl
                refine take_ (i := 15) (N := some 37) (v := ?_) (a' := ?_) #[true, true, true, true, true, true, true, true, true, true, true, true, true, true, true, true, true, false, false, false] rfl rfl (take_ofW HT_.out HW_.out (by kernel_rfl)) (fun _ _ _ h => h) (Or.inl ⟨by rfl, ?_⟩) hHeld ?_ ?_
                rotate_left
                · rintro w' ⟨s0, s1⟩
                  go_simp
                  with_reducible rfl
                rotate_left
                · simp only [Act.put, List.setIfInBounds_toArray, List.set_cons_zero, List.set_cons_succ, i64_w, i32_w]
                  rfl
                refine pure_ (i := 17) (N := some 39) (v := ?_) (a' := ?_) #[true, true, true, true, true, true, true, true, true, true, true, true, true, true, true, true, true, true, false, false] rfl rfl (any_of HT_.out (by kernel_rfl)) (fun _ _ _ h => h) (Or.inl ⟨by rfl, ?_⟩) ?_ ?_
                rotate_left
                · intro w'
                  go_simp
                  with_reducible rfl
                rotate_left
                · simp only [Act.put, List.setIfInBounds_toArray, List.set_cons_zero, List.set_cons_succ, i64_w, i32_w]
                  rfl
                refine pure_ (i := 18) (N := some 40) (v := ?_) (a' := ?_) #[true, true, true, true, true, true, true, true, true, true, true, true, true, true, true, true, true, true, true, false] rfl rfl (any_of HT_.out (by kernel_rfl)) (fun _ _ _ h => h) (Or.inl ⟨by rfl, ?_⟩) ?_ ?_
                rotate_left
                · intro w'
                  go_simp
                  with_reducible rfl
                rotate_left
                · simp only [Act.put, List.setIfInBounds_toArray, List.set_cons_zero, List.set_cons_succ, i64_w, i32_w]
                  rfl
                refine one_ (i := 19) (N := none) #[true, true, true, true, true, true, true, true, true, true, true, true, true, true, true, true, true, true, true, true] rfl rfl (one_of HT_.out (by kernel_rfl)) (by decide) (fun K hK => ?_)
                have hs21 : w20.cell? ⟨gb618, 0, none⟩ = some (.int .i64 0) := (blk_cell BK618.out 0).trans rfl
                have hfs21 := blk_frozen BK618.out 0
                have hs22 : w20.cell? ⟨gb618, 1, none⟩ = some (.int .i64 0) := (blk_cell BK618.out 1).trans rfl
                have hfs22 := blk_frozen BK618.out 1
                have hs23 : w20.cell? ⟨gb618, 2, none⟩ = some (.int .i64 0) := (blk_cell BK618.out 2).trans rfl
                have hfs23 := blk_frozen BK618.out 2
                have hs24 : w20.cell? ⟨gb618, 3, none⟩ = some (.int .i64 0) := (blk_cell BK618.out 3).trans rfl
                have hfs24 := blk_frozen BK618.out 3
                refine skip_ (w1 := ?_) (by rfl) rfl ?_ ?_
                rotate_left
                · go_simp
                  rfl
                refine hK.out _ _ ⟨((cell_far (p := ⟨gb618, _, none⟩) (by first | exact Kd.own_blk (Kd.R_ne HO622.out BK618.out (by decide)) | (rw [add_block]; exact Kd.own_blk (Kd.R_ne HO622.out BK618.out (by decide))) | (show (Addr.add _ _).block ≠ _; rw [add_block]; exact Kd.own_blk (Kd.R_ne HO622.out BK618.out (by decide))) | (dsimp only; exact Kd.own_blk (Kd.R_ne HO622.out BK618.out (by decide)))) _).trans (((cell_far (p := ⟨gb618, _, none⟩) (by first | exact Kd.own_blk (Kd.R_ne HO622.out BK618.out (by decide)) | (rw [add_block]; exact Kd.own_blk (Kd.R_ne HO622.out BK618.out (by decide))) | (show (Addr.add _ _).block ≠ _; rw [add_block]; exact Kd.own_blk (Kd.R_ne HO622.out BK618.out (by decide))) | (dsimp only; exact Kd.own_blk (Kd.R_ne HO622.out BK618.out (by decide)))) _).trans (((cell_far (p := ⟨gb618, _, none⟩) (by first | exact Kd.own_blk (Kd.R_ne HO622.out BK618.out (by decide)) | (rw [add_block]; exact Kd.own_blk (Kd.R_ne HO622.out BK618.out (by decide))) | (show (Addr.add _ _).block ≠ _; rw [add_block]; exact Kd.own_blk (Kd.R_ne HO622.out BK618.out (by decide))) | (dsimp only; exact Kd.own_blk (Kd.R_ne HO622.out BK618.out (by decide)))) _).trans (((cell_far (p := ⟨gb618, _, none⟩) (by first | exact Kd.own_blk (Kd.R_ne HO622.out BK618.out (by decide)) | (rw [add_block]; exact Kd.own_blk (Kd.R_ne HO622.out BK618.out (by decide))) | (show (Addr.add _ _).block ≠ _; rw [add_block]; exact Kd.own_blk (Kd.R_ne HO622.out BK618.out (by decide))) | (dsimp only; exact Kd.own_blk (Kd.R_ne HO622.out BK618.out (by decide)))) _).trans (hHeld.1)))))))), ((cell_far (p := ⟨gb618, _, none⟩) (by first | exact Kd.own_blk (Kd.R_ne HO624.out BK618.out (by decide)) | (rw [add_block]; exact Kd.own_blk (Kd.R_ne HO624.out BK618.out (by decide))) | (show (Addr.add _ _).block ≠ _; rw [add_block]; exact Kd.own_blk (Kd.R_ne HO624.out BK618.out (by decide))) | (dsimp only; exact Kd.own_blk (Kd.R_ne HO624.out BK618.out (by decide)))) _).trans (((cell_far (p := ⟨gb618, _, none⟩) (by first | exact Kd.own_blk (Kd.R_ne HO624.out BK618.out (by decide)) | (rw [add_block]; exact Kd.own_blk (Kd.R_ne HO624.out BK618.out (by decide))) | (show (Addr.add _ _).block ≠ _; rw [add_block]; exact Kd.own_blk (Kd.R_ne HO624.out BK618.out (by decide))) | (dsimp only; exact Kd.own_blk (Kd.R_ne HO624.out BK618.out (by decide)))) _).trans (((cell_far (p := ⟨gb618, _, none⟩) (by first | exact Kd.own_blk (Kd.R_ne HO624.out BK618.out (by decide)) | (rw [add_block]; exact Kd.own_blk (Kd.R_ne HO624.out BK618.out (by decide))) | (show (Addr.add _ _).block ≠ _; rw [add_block]; exact Kd.own_blk (Kd.R_ne HO624.out BK618.out (by decide))) | (dsimp only; exact Kd.own_blk (Kd.R_ne HO624.out BK618.out (by decide)))) _).trans (((cell_far (p := ⟨gb618, _, none⟩) (by first | exact Kd.own_blk (Kd.R_ne HO624.out BK618.out (by decide)) | (rw [add_block]; exact Kd.own_blk (Kd.R_ne HO624.out BK618.out (by decide))) | (show (Addr.add _ _).block ≠ _; rw [add_block]; exact Kd.own_blk (Kd.R_ne HO624.out BK618.out (by decide))) | (dsimp only; exact Kd.own_blk (Kd.R_ne HO624.out BK618.out (by decide)))) _).trans (hHeld.2))))))))⟩ (fun hHeld => ?_)
                clear hK K
                refine done_ (done_of HT_.out (by kernel_rfl)) ?_
                try go_wp2
                refine bodyPost_ret (results_cell_row rfl _ _ gb618 26 #[.int .i64 (rd t619 0), .int .i64 (rd t620 0), .int .i64 (wrap64 ((rd t619 (ji10)) - (rd t619 0))), .int .i64 (wrap64 ((rd t620 (ji13)) - (rd t620 0)))] (0, 0) _ rfl (by (with_reducible repeat (first | refine blk_drewN ?_ _ | refine blk_drew ?_ | refine blk_alloc ?_ _)); refine blk_put (cs := #[.int .i64 (rd t619 0), .int .i64 (rd t620 0), .int .i64 (wrap64 ((rd t619 (ji10)) - (rd t619 0))), .int .i64 0]) ?_ 3 _ rfl; (with_reducible repeat (first | refine blk_drewN ?_ _ | refine blk_drew ?_ | refine blk_alloc ?_ _)); refine blk_put (cs := #[.int .i64 (rd t619 0), .int .i64 (rd t620 0), .int .i64 0, .int .i64 0]) ?_ 2 _ rfl; (with_reducible repeat (first | refine blk_drewN ?_ _ | refine blk_drew ?_ | refine blk_alloc ?_ _)); refine blk_put (cs := #[.int .i64 (rd t619 0), .int .i64 0, .int .i64 0, .int .i64 0]) ?_ 1 _ rfl; (with_reducible repeat (first | refine blk_drewN ?_ _ | refine blk_drew ?_ | refine blk_alloc ?_ _)); refine blk_put (cs := #[.int .i64 0, .int .i64 0, .int .i64 0, .int .i64 0]) ?_ 0 _ rfl; (with_reducible repeat (first | refine blk_drewN ?_ _ | refine blk_drew ?_ | refine blk_alloc ?_ _)); exact BK618.out) Try.underlying26 rfl (by kernel_rfl)) rfl ?_
                exact ⟨by first | rfl | (simp [errW_none, errW_some] <;> rfl) | (simp only [← hji10, ← hji13]; first | rfl | (simp [errW_none, errW_some] <;> rfl)) | (simp [*, errW_none, errW_some] <;> rfl), by repeat (first | (with_reducible first | exact HB.out | apply below_alloc | apply pw_below_drewN | apply below_drew1 | refine below_set ?_ GE618.out) | exact HB.out)⟩
              · rw [if_neg c15] at H
                exact absurd H (by simp)
            · rw [if_neg c14] at H
              exact absurd H (by simp)
          · rw [if_neg c12] at H
            exact absurd H (by simp)
        · rw [if_neg c11] at H
          exact absurd H (by simp)
      · rw [if_neg c9] at H
        exact absurd H (by simp)
    · rw [if_neg c8] at H
      exact absurd H (by simp)

end Go.Proofs.Ytkobiblgbpnlaaa.X
