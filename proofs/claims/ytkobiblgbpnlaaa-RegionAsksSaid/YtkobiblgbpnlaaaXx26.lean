/- What each Go function that these laws use answers: as a Lean function, with the proof that the machine's call comes to it. Written by a program of this session (xprint.py). -/
import Derived.Test.YtkobiblgbpnlaaaXx0
import Derived.Test.YtkobiblgbpnlaaaXx23
namespace Go.Proofs.Ytkobiblgbpnlaaa.X
open Go.RowKit Go.Proofs.YtkobiblgbpnlaaaW.PrintWords Go.Proofs.YtkobiblgbpnlaaaW.PrintLast Go.Proofs.YtkobiblgbpnlaaaW.PrintMore
attribute [local go_sem] max2_int min2_int max_two min_two max_three min_three max_four min_four   -- for this text's walks alone
set_option linter.unusedVariables false
set_option linter.unusedSimpArgs false

/-! ### miradorref15_Has: function 23 -/
def miradorref15_Has.l0 : Nat → List (S26) → Int → Int → Int → Option (Bool)
  | 0, _, _, _, _ => none
  | k + 1, x0, x1, x2, x7 => if x7 < (x0.length : Int) then (if 0 ≤ x7 then ((miradorref15_Counts.f ((rd_T26 x0 x7).f0) ((rd_T26 x0 x7).f1) ((rd_T26 x0 x7).f2) ((rd_T26 x0 x7).f3)).bind fun t367 => (if t367 = true then (if x1 ≥ ((rd_T26 x0 x7).f0) then (if x1 < (wrap64 (((rd_T26 x0 x7).f0) + ((rd_T26 x0 x7).f2))) then (if x2 ≥ ((rd_T26 x0 x7).f1) then (if x2 < (wrap64 (((rd_T26 x0 x7).f1) + ((rd_T26 x0 x7).f3))) then (some true) else (miradorref15_Has.l0 k x0 x1 x2 (wrap64 (x7 + 1)))) else (miradorref15_Has.l0 k x0 x1 x2 (wrap64 (x7 + 1)))) else (miradorref15_Has.l0 k x0 x1 x2 (wrap64 (x7 + 1)))) else (miradorref15_Has.l0 k x0 x1 x2 (wrap64 (x7 + 1)))) else (miradorref15_Has.l0 k x0 x1 x2 (wrap64 (x7 + 1))))) else (none)) else (some false)
def miradorref15_Has.f (k : Nat) (l0 : List (S26)) (a1 : Int) (a2 : Int) : Option (Bool) := miradorref15_Has.l0 k l0 a1 a2 0
theorem miradorref15_Has.mono_l : ∀ k, (∀ y0 y1 y2 y3, LeO (miradorref15_Has.l0 k y0 y1 y2 y3) (miradorref15_Has.l0 (k + 1) y0 y1 y2 y3))
  | 0 => fun _ _ _ _ r h => by simp [miradorref15_Has.l0] at h
  | k + 1 => by
    have ih0 := miradorref15_Has.mono_l k
    · intro y0 y1 y2 y3
      unfold miradorref15_Has.l0
      repeat' first
      | (with_reducible exact ih0 _ _ _ _)
      | (with_reducible exact LeO.refl _)
      | (with_reducible exact LeO.none _)
      | (with_reducible refine LeO.ite ?_ ?_)
      | (with_reducible refine LeO.bind ?_ (fun _ => ?_))
      | exact ih0 _ _ _ _
      | exact LeO.none _
      | refine LeO.ite ?_ ?_
      | refine LeO.bind ?_ (fun _ => ?_)
theorem miradorref15_Has.mono : ∀ a0 a1 a2 k, LeO (miradorref15_Has.f k a0 a1 a2) (miradorref15_Has.f (k + 1) a0 a1 a2) := by
  intro a0 a1 a2 k
  have ih0 := miradorref15_Has.mono_l k
  unfold miradorref15_Has.f
  repeat' first
      | (with_reducible exact ih0 _ _ _ _)
      | (with_reducible exact LeO.refl _)
      | (with_reducible exact LeO.none _)
      | (with_reducible refine LeO.ite ?_ ?_)
      | (with_reducible refine LeO.bind ?_ (fun _ => ?_))
      | exact ih0 _ _ _ _
      | exact LeO.none _
      | refine LeO.ite ?_ ?_
      | refine LeO.bind ?_ (fun _ => ?_)
set_option maxHeartbeats 8000000 in
set_option maxRecDepth 100000 in
theorem miradorref15_Has.calls (k : Nat) (A0 : Option Addr) (c0 : Nat) (l0 : List (S26)) (a1 : Int) (a2 : Int) (r : Bool) (w : World) (hr0 : Kd.C k26 w A0 l0.length l0) (hc0 : l0.length ≤ c0) (h : miradorref15_Has.f k l0 a1 a2 = some r) :
    Calls Try.prog 23 #[.slice A0 l0.length c0, .int .i64 a1, .int .i64 a2] w fun e w' => e = .returned (.bool r) ∧ Below w.heap.size w w' := by
  have hu26 := Try.underlying26
  have HR0 := Aside0.mk hr0
  have HC0 := Aside0.mk hc0
  clear hr0 hc0
  have HB := Aside0.mk (Below.refl w.heap.size w)
  have H : (miradorref15_Has.l0 k l0 a1 a2 0) = some r := h
  clear h
  have H' := Aside0.mk H
  clear H
  go_enter Try.func23, Try.ntmps23
  go_wp2
  go_loopg [7] k (fun kq v7 w' => ∃ (x7_1 : Int), v7 = .int .i64 x7_1 ∧ Aside0 (miradorref15_Has.l0 kq l0 a1 a2 x7_1 = some r) ∧ Aside0 (kq ≤ k) ∧ Aside0 (Below w.heap.size w w'))
  case atStart => exact ⟨(0), (by first | rfl | (simp; done) | (simp [*]; done)), H', ⟨Nat.le_refl _⟩, ⟨by repeat (first | (with_reducible first | exact HB.out | apply below_alloc | apply pw_below_drewN | apply below_drew1) | exact HB.out)⟩⟩
  case round =>
    clear H'
    try clear c2
    try clear p2
    obtain ⟨x7_1, rfl, HA, HK1, HB⟩ := hrel
    cases gk with
    | zero => exact absurd HA.out (by simp [miradorref15_Has.l0])
    | succ k1 =>
      have H := HA.out
      clear HA
      simp only [miradorref15_Has.l0] at H
      by_cases c4 : x7_1 < (l0.length : Int)
      · rw [if_pos c4] at H
        have c4b0 : decide (x7_1 < (l0.length : Int)) = true := decide_eq_true c4
        clear c4
        by_cases c5 : 0 ≤ x7_1
        · rw [if_pos c5] at H
          have c5b0 : decide (0 ≤ x7_1) = true := decide_eq_true c5
          clear c5
          replace H := Option.bind_eq_some_iff.mp H
          obtain ⟨t367, A60, H⟩ := H
          replace H : (if t367 = true then (if a1 ≥ ((rd_T26 l0 x7_1).f0) then (if a1 < (wrap64 (((rd_T26 l0 x7_1).f0) + ((rd_T26 l0 x7_1).f2))) then (if a2 ≥ ((rd_T26 l0 x7_1).f1) then (if a2 < (wrap64 (((rd_T26 l0 x7_1).f1) + ((rd_T26 l0 x7_1).f3))) then (some true) else (miradorref15_Has.l0 k1 l0 a1 a2 (wrap64 (x7_1 + 1)))) else (miradorref15_Has.l0 k1 l0 a1 a2 (wrap64 (x7_1 + 1)))) else (miradorref15_Has.l0 k1 l0 a1 a2 (wrap64 (x7_1 + 1)))) else (miradorref15_Has.l0 k1 l0 a1 a2 (wrap64 (x7_1 + 1)))) else (miradorref15_Has.l0 k1 l0 a1 a2 (wrap64 (x7_1 + 1)))) = some r := H
          have A6 := Aside0.mk A60
          clear A60
          by_cases c7 : t367 = true
          · subst c7
            have H1 : (if a1 ≥ ((rd_T26 l0 x7_1).f0) then (if a1 < (wrap64 (((rd_T26 l0 x7_1).f0) + ((rd_T26 l0 x7_1).f2))) then (if a2 ≥ ((rd_T26 l0 x7_1).f1) then (if a2 < (wrap64 (((rd_T26 l0 x7_1).f1) + ((rd_T26 l0 x7_1).f3))) then (some true) else (miradorref15_Has.l0 k1 l0 a1 a2 (wrap64 (x7_1 + 1)))) else (miradorref15_Has.l0 k1 l0 a1 a2 (wrap64 (x7_1 + 1)))) else (miradorref15_Has.l0 k1 l0 a1 a2 (wrap64 (x7_1 + 1)))) else (miradorref15_Has.l0 k1 l0 a1 a2 (wrap64 (x7_1 + 1)))) = some r := by rw [if_pos rfl] at H; exact H
            clear H
            have H := H1
            clear H1
            by_cases c8 : a1 ≥ ((rd_T26 l0 x7_1).f0)
            · rw [if_pos c8] at H
              have c8b0 : decide (((rd_T26 l0 x7_1).f0) ≤ a1) = true := decide_eq_true c8
              clear c8
              by_cases c9 : a1 < (wrap64 (((rd_T26 l0 x7_1).f0) + ((rd_T26 l0 x7_1).f2)))
              · rw [if_pos c9] at H
                have c9b0 : decide (a1 < (wrap64 (((rd_T26 l0 x7_1).f0) + ((rd_T26 l0 x7_1).f2)))) = true := decide_eq_true c9
                clear c9
                by_cases c10 : a2 ≥ ((rd_T26 l0 x7_1).f1)
                · rw [if_pos c10] at H
                  have c10b0 : decide (((rd_T26 l0 x7_1).f1) ≤ a2) = true := decide_eq_true c10
                  clear c10
                  by_cases c11 : a2 < (wrap64 (((rd_T26 l0 x7_1).f1) + ((rd_T26 l0 x7_1).f3)))
                  · rw [if_pos c11] at H
                    have c11b0 : decide (a2 < (wrap64 (((rd_T26 l0 x7_1).f1) + ((rd_T26 l0 x7_1).f3)))) = true := decide_eq_true c11
                    clear c11
                    obtain rfl := Option.some.inj H
                    have p365 : 0 ≤ (x7_1 : Int) := of_decide_eq_true (by first | (with_reducible assumption) | assumption)
                    have q365 : x7_1 < (l0.length : Int) := of_decide_eq_true (by first | (with_reducible assumption) | assumption)
                    obtain ⟨ad365, e365, hx365_0, hx365_1, hx365_2, hx365_3⟩ := at_T26 HR0.out x7_1 p365 q365
                    cases e365
                    replace hx365_0 := (HB.out.cell (World.block_lt_of_cell? w _ hx365_0)).trans hx365_0
                    replace hx365_1 := (HB.out.cell (World.block_lt_of_cell? w _ hx365_1)).trans hx365_1
                    replace hx365_2 := (HB.out.cell (World.block_lt_of_cell? w _ hx365_2)).trans hx365_2
                    replace hx365_3 := (HB.out.cell (World.block_lt_of_cell? w _ hx365_3)).trans hx365_3
                    replace p365 := eq_true p365
                    replace q365 := eq_true q365
                    go_wp2_with (first | ((with_reducible refine gate_dst (N := 8) rfl ?_); refine box_event ?hg (N := 8) ?hd (cs := #[.int .i64 0, .int .i64 0, .int .i64 0, .int .i64 0]) (t := 26) ?hr ?_; (case hd => rfl); (case hg => rfl); (case hr => first | (go_simp; done) | (go_simp; rfl)); intro gb366 hg w12 hbox hb; have n0_ := Aside0.mk (below_step (by repeat (first | (with_reducible first | exact HB.out | apply below_alloc | apply pw_below_drewN | apply below_drew1) | exact HB.out)) hb); have n1_ := Aside0.mk (hbox); have n2_ := Aside0.mk ((by rw [hg]; exact (below_size (by repeat (first | (with_reducible first | exact HB.out | apply below_alloc | apply pw_below_drewN | apply below_drew1) | exact HB.out))) : w.heap.size ≤ gb366)); have n3_ := Aside0.mk ((by rw [hg]; exact (below_size (by repeat (first | (with_reducible first | exact HB.out | apply below_alloc | apply pw_below_drewN | apply below_drew1) | exact HB.out))) : w.heap.size ≤ gb366)); clear HB; have HB := n0_; have BK366 := n1_; have GW366 := n2_; have GE366 := n3_; clear n0_ n1_ n2_ n3_; clear hb hbox hg; have hcz13_0 : w12.cell? ⟨gb366, 0, none⟩ = some (.int .i64 0) := (blk_cell BK366.out 0).trans rfl; have hcz13_1 : w12.cell? ⟨gb366, 1, none⟩ = some (.int .i64 0) := (blk_cell BK366.out 1).trans rfl; have hcz13_2 : w12.cell? ⟨gb366, 2, none⟩ = some (.int .i64 0) := (blk_cell BK366.out 2).trans rfl; have hcz13_3 : w12.cell? ⟨gb366, 3, none⟩ = some (.int .i64 0) := (blk_cell BK366.out 3).trans rfl; have hfz13_0 := blk_frozen BK366.out 0; have hfz13_1 := blk_frozen BK366.out 1; have hfz13_2 := blk_frozen BK366.out 2; have hfz13_3 := blk_frozen BK366.out 3) | ((with_reducible refine gate_callee (f := 39) rfl ?_); refine goesL_ (some 20) rfl rfl Try.func39 (by kernel_rfl) rfl #[.agg #[.int .i64 ((rd_T26 l0 x7_1).f0), .int .i64 ((rd_T26 l0 x7_1).f1), .int .i64 ((rd_T26 l0 x7_1).f2), .int .i64 ((rd_T26 l0 x7_1).f3)]] rfl (by (try simp only [List.map_toArray, List.map_cons, List.map_nil]); first | done | rfl | (simp only [List.length_drop, List.length_take]; rfl)) ?_; (with_reducible refine (miradorref15_Counts.calls ((rd_T26 l0 x7_1).f0) ((rd_T26 l0 x7_1).f1) ((rd_T26 l0 x7_1).f2) ((rd_T26 l0 x7_1).f3) true _ A6.out).mono ?_); rintro e w14 ⟨rfl, hb⟩; refine ⟨_, rfl, ?_⟩; have n0_ := Aside0.mk (blk_below (g := gb366) (o := .cells #[.int .i64 ((rd_T26 l0 x7_1).f0), .int .i64 ((rd_T26 l0 x7_1).f1), .int .i64 ((rd_T26 l0 x7_1).f2), .int .i64 ((rd_T26 l0 x7_1).f3)] 26 (0, 0)) (by (with_reducible repeat (first | refine blk_drewN ?_ _ | refine blk_drew ?_ | refine blk_alloc ?_ _)); refine blk_put (cs := #[.int .i64 ((rd_T26 l0 x7_1).f0), .int .i64 ((rd_T26 l0 x7_1).f1), .int .i64 ((rd_T26 l0 x7_1).f2), .int .i64 0]) ?_ 3 _ rfl; (with_reducible repeat (first | refine blk_drewN ?_ _ | refine blk_drew ?_ | refine blk_alloc ?_ _)); refine blk_put (cs := #[.int .i64 ((rd_T26 l0 x7_1).f0), .int .i64 ((rd_T26 l0 x7_1).f1), .int .i64 0, .int .i64 0]) ?_ 2 _ rfl; (with_reducible repeat (first | refine blk_drewN ?_ _ | refine blk_drew ?_ | refine blk_alloc ?_ _)); refine blk_put (cs := #[.int .i64 ((rd_T26 l0 x7_1).f0), .int .i64 0, .int .i64 0, .int .i64 0]) ?_ 1 _ rfl; (with_reducible repeat (first | refine blk_drewN ?_ _ | refine blk_drew ?_ | refine blk_alloc ?_ _)); refine blk_put (cs := #[.int .i64 0, .int .i64 0, .int .i64 0, .int .i64 0]) ?_ 0 _ rfl; (with_reducible repeat (first | refine blk_drewN ?_ _ | refine blk_drew ?_ | refine blk_alloc ?_ _)); exact BK366.out) hb); have n1_ := Aside0.mk (below_step (by repeat (first | (with_reducible first | exact HB.out | apply below_alloc | apply pw_below_drewN | apply below_drew1 | refine below_set ?_ GE366.out) | exact HB.out)) hb); clear BK366; clear HB; have BK366 := n0_; have HB := n1_; clear n0_ n1_; (try clear hb); (try clear hb2); (try clear hk); (try clear hi); have hcz15_0 : w14.cell? ⟨gb366, 0, none⟩ = some (.int .i64 ((rd_T26 l0 x7_1).f0)) := (blk_cell BK366.out 0).trans rfl; have hcz15_1 : w14.cell? ⟨gb366, 1, none⟩ = some (.int .i64 ((rd_T26 l0 x7_1).f1)) := (blk_cell BK366.out 1).trans rfl; have hcz15_2 : w14.cell? ⟨gb366, 2, none⟩ = some (.int .i64 ((rd_T26 l0 x7_1).f2)) := (blk_cell BK366.out 2).trans rfl; have hcz15_3 : w14.cell? ⟨gb366, 3, none⟩ = some (.int .i64 ((rd_T26 l0 x7_1).f3)) := (blk_cell BK366.out 3).trans rfl; have hfz15_0 := blk_frozen BK366.out 0; have hfz15_1 := blk_frozen BK366.out 1; have hfz15_2 := blk_frozen BK366.out 2; have hfz15_3 := blk_frozen BK366.out 3))
                    go_ret
                    exact ⟨by first | rfl | (simp [errW_none, errW_some] <;> rfl) | (simp [*, errW_none, errW_some] <;> rfl), by repeat (first | (with_reducible first | exact HB.out | apply below_alloc | apply pw_below_drewN | apply below_drew1 | refine below_set ?_ GE366.out) | exact HB.out)⟩
                  · rw [if_neg c11] at H
                    have c11b0 : decide (a2 < (wrap64 (((rd_T26 l0 x7_1).f1) + ((rd_T26 l0 x7_1).f3)))) = false := decide_eq_false c11
                    clear c11
                    have H' := Aside0.mk H
                    clear H
                    have p365 : 0 ≤ (x7_1 : Int) := of_decide_eq_true (by first | (with_reducible assumption) | assumption)
                    have q365 : x7_1 < (l0.length : Int) := of_decide_eq_true (by first | (with_reducible assumption) | assumption)
                    obtain ⟨ad365, e365, hx365_0, hx365_1, hx365_2, hx365_3⟩ := at_T26 HR0.out x7_1 p365 q365
                    cases e365
                    replace hx365_0 := (HB.out.cell (World.block_lt_of_cell? w _ hx365_0)).trans hx365_0
                    replace hx365_1 := (HB.out.cell (World.block_lt_of_cell? w _ hx365_1)).trans hx365_1
                    replace hx365_2 := (HB.out.cell (World.block_lt_of_cell? w _ hx365_2)).trans hx365_2
                    replace hx365_3 := (HB.out.cell (World.block_lt_of_cell? w _ hx365_3)).trans hx365_3
                    replace p365 := eq_true p365
                    replace q365 := eq_true q365
                    go_wp2_with (first | ((with_reducible refine gate_dst (N := 8) rfl ?_); refine box_event ?hg (N := 8) ?hd (cs := #[.int .i64 0, .int .i64 0, .int .i64 0, .int .i64 0]) (t := 26) ?hr ?_; (case hd => rfl); (case hg => rfl); (case hr => first | (go_simp; done) | (go_simp; rfl)); intro gb366 hg w16 hbox hb; have n0_ := Aside0.mk (below_step (by repeat (first | (with_reducible first | exact HB.out | apply below_alloc | apply pw_below_drewN | apply below_drew1) | exact HB.out)) hb); have n1_ := Aside0.mk (hbox); have n2_ := Aside0.mk ((by rw [hg]; exact (below_size (by repeat (first | (with_reducible first | exact HB.out | apply below_alloc | apply pw_below_drewN | apply below_drew1) | exact HB.out))) : w.heap.size ≤ gb366)); have n3_ := Aside0.mk ((by rw [hg]; exact (below_size (by repeat (first | (with_reducible first | exact HB.out | apply below_alloc | apply pw_below_drewN | apply below_drew1) | exact HB.out))) : w.heap.size ≤ gb366)); clear HB; have HB := n0_; have BK366 := n1_; have GW366 := n2_; have GE366 := n3_; clear n0_ n1_ n2_ n3_; clear hb hbox hg; have hcz17_0 : w16.cell? ⟨gb366, 0, none⟩ = some (.int .i64 0) := (blk_cell BK366.out 0).trans rfl; have hcz17_1 : w16.cell? ⟨gb366, 1, none⟩ = some (.int .i64 0) := (blk_cell BK366.out 1).trans rfl; have hcz17_2 : w16.cell? ⟨gb366, 2, none⟩ = some (.int .i64 0) := (blk_cell BK366.out 2).trans rfl; have hcz17_3 : w16.cell? ⟨gb366, 3, none⟩ = some (.int .i64 0) := (blk_cell BK366.out 3).trans rfl; have hfz17_0 := blk_frozen BK366.out 0; have hfz17_1 := blk_frozen BK366.out 1; have hfz17_2 := blk_frozen BK366.out 2; have hfz17_3 := blk_frozen BK366.out 3) | ((with_reducible refine gate_callee (f := 39) rfl ?_); refine goesL_ (some 20) rfl rfl Try.func39 (by kernel_rfl) rfl #[.agg #[.int .i64 ((rd_T26 l0 x7_1).f0), .int .i64 ((rd_T26 l0 x7_1).f1), .int .i64 ((rd_T26 l0 x7_1).f2), .int .i64 ((rd_T26 l0 x7_1).f3)]] rfl (by (try simp only [List.map_toArray, List.map_cons, List.map_nil]); first | done | rfl | (simp only [List.length_drop, List.length_take]; rfl)) ?_; (with_reducible refine (miradorref15_Counts.calls ((rd_T26 l0 x7_1).f0) ((rd_T26 l0 x7_1).f1) ((rd_T26 l0 x7_1).f2) ((rd_T26 l0 x7_1).f3) true _ A6.out).mono ?_); rintro e w18 ⟨rfl, hb⟩; refine ⟨_, rfl, ?_⟩; have n0_ := Aside0.mk (blk_below (g := gb366) (o := .cells #[.int .i64 ((rd_T26 l0 x7_1).f0), .int .i64 ((rd_T26 l0 x7_1).f1), .int .i64 ((rd_T26 l0 x7_1).f2), .int .i64 ((rd_T26 l0 x7_1).f3)] 26 (0, 0)) (by (with_reducible repeat (first | refine blk_drewN ?_ _ | refine blk_drew ?_ | refine blk_alloc ?_ _)); refine blk_put (cs := #[.int .i64 ((rd_T26 l0 x7_1).f0), .int .i64 ((rd_T26 l0 x7_1).f1), .int .i64 ((rd_T26 l0 x7_1).f2), .int .i64 0]) ?_ 3 _ rfl; (with_reducible repeat (first | refine blk_drewN ?_ _ | refine blk_drew ?_ | refine blk_alloc ?_ _)); refine blk_put (cs := #[.int .i64 ((rd_T26 l0 x7_1).f0), .int .i64 ((rd_T26 l0 x7_1).f1), .int .i64 0, .int .i64 0]) ?_ 2 _ rfl; (with_reducible repeat (first | refine blk_drewN ?_ _ | refine blk_drew ?_ | refine blk_alloc ?_ _)); refine blk_put (cs := #[.int .i64 ((rd_T26 l0 x7_1).f0), .int .i64 0, .int .i64 0, .int .i64 0]) ?_ 1 _ rfl; (with_reducible repeat (first | refine blk_drewN ?_ _ | refine blk_drew ?_ | refine blk_alloc ?_ _)); refine blk_put (cs := #[.int .i64 0, .int .i64 0, .int .i64 0, .int .i64 0]) ?_ 0 _ rfl; (with_reducible repeat (first | refine blk_drewN ?_ _ | refine blk_drew ?_ | refine blk_alloc ?_ _)); exact BK366.out) hb); have n1_ := Aside0.mk (below_step (by repeat (first | (with_reducible first | exact HB.out | apply below_alloc | apply pw_below_drewN | apply below_drew1 | refine below_set ?_ GE366.out) | exact HB.out)) hb); clear BK366; clear HB; have BK366 := n0_; have HB := n1_; clear n0_ n1_; (try clear hb); (try clear hb2); (try clear hk); (try clear hi); have hcz19_0 : w18.cell? ⟨gb366, 0, none⟩ = some (.int .i64 ((rd_T26 l0 x7_1).f0)) := (blk_cell BK366.out 0).trans rfl; have hcz19_1 : w18.cell? ⟨gb366, 1, none⟩ = some (.int .i64 ((rd_T26 l0 x7_1).f1)) := (blk_cell BK366.out 1).trans rfl; have hcz19_2 : w18.cell? ⟨gb366, 2, none⟩ = some (.int .i64 ((rd_T26 l0 x7_1).f2)) := (blk_cell BK366.out 2).trans rfl; have hcz19_3 : w18.cell? ⟨gb366, 3, none⟩ = some (.int .i64 ((rd_T26 l0 x7_1).f3)) := (blk_cell BK366.out 3).trans rfl; have hfz19_0 := blk_frozen BK366.out 0; have hfz19_1 := blk_frozen BK366.out 1; have hfz19_2 := blk_frozen BK366.out 2; have hfz19_3 := blk_frozen BK366.out 3))
                    go_roundg k1
                    case measure => have := HK1.out; omega
                    case rel => exact ⟨(wrap64 (x7_1 + 1)), (by first | rfl | (simp; done) | (simp [*]; done)), H', ⟨by have := HK1.out; omega⟩, ⟨by repeat (first | (with_reducible first | exact HB.out | apply below_alloc | apply pw_below_drewN | apply below_drew1 | refine below_set ?_ GE366.out) | exact HB.out)⟩⟩
                · rw [if_neg c10] at H
                  have c10b0 : decide (((rd_T26 l0 x7_1).f1) ≤ a2) = false := decide_eq_false c10
                  clear c10
                  have H' := Aside0.mk H
                  clear H
                  have p365 : 0 ≤ (x7_1 : Int) := of_decide_eq_true (by first | (with_reducible assumption) | assumption)
                  have q365 : x7_1 < (l0.length : Int) := of_decide_eq_true (by first | (with_reducible assumption) | assumption)
                  obtain ⟨ad365, e365, hx365_0, hx365_1, hx365_2, hx365_3⟩ := at_T26 HR0.out x7_1 p365 q365
                  cases e365
                  replace hx365_0 := (HB.out.cell (World.block_lt_of_cell? w _ hx365_0)).trans hx365_0
                  replace hx365_1 := (HB.out.cell (World.block_lt_of_cell? w _ hx365_1)).trans hx365_1
                  replace hx365_2 := (HB.out.cell (World.block_lt_of_cell? w _ hx365_2)).trans hx365_2
                  replace hx365_3 := (HB.out.cell (World.block_lt_of_cell? w _ hx365_3)).trans hx365_3
                  replace p365 := eq_true p365
                  replace q365 := eq_true q365
                  go_wp2_with (first | ((with_reducible refine gate_dst (N := 8) rfl ?_); refine box_event ?hg (N := 8) ?hd (cs := #[.int .i64 0, .int .i64 0, .int .i64 0, .int .i64 0]) (t := 26) ?hr ?_; (case hd => rfl); (case hg => rfl); (case hr => first | (go_simp; done) | (go_simp; rfl)); intro gb366 hg w20 hbox hb; have n0_ := Aside0.mk (below_step (by repeat (first | (with_reducible first | exact HB.out | apply below_alloc | apply pw_below_drewN | apply below_drew1) | exact HB.out)) hb); have n1_ := Aside0.mk (hbox); have n2_ := Aside0.mk ((by rw [hg]; exact (below_size (by repeat (first | (with_reducible first | exact HB.out | apply below_alloc | apply pw_below_drewN | apply below_drew1) | exact HB.out))) : w.heap.size ≤ gb366)); have n3_ := Aside0.mk ((by rw [hg]; exact (below_size (by repeat (first | (with_reducible first | exact HB.out | apply below_alloc | apply pw_below_drewN | apply below_drew1) | exact HB.out))) : w.heap.size ≤ gb366)); clear HB; have HB := n0_; have BK366 := n1_; have GW366 := n2_; have GE366 := n3_; clear n0_ n1_ n2_ n3_; clear hb hbox hg; have hcz21_0 : w20.cell? ⟨gb366, 0, none⟩ = some (.int .i64 0) := (blk_cell BK366.out 0).trans rfl; have hcz21_1 : w20.cell? ⟨gb366, 1, none⟩ = some (.int .i64 0) := (blk_cell BK366.out 1).trans rfl; have hcz21_2 : w20.cell? ⟨gb366, 2, none⟩ = some (.int .i64 0) := (blk_cell BK366.out 2).trans rfl; have hcz21_3 : w20.cell? ⟨gb366, 3, none⟩ = some (.int .i64 0) := (blk_cell BK366.out 3).trans rfl; have hfz21_0 := blk_frozen BK366.out 0; have hfz21_1 := blk_frozen BK366.out 1; have hfz21_2 := blk_frozen BK366.out 2; have hfz21_3 := blk_frozen BK366.out 3) | ((with_reducible refine gate_callee (f := 39) rfl ?_); refine goesL_ (some 20) rfl rfl Try.func39 (by kernel_rfl) rfl #[.agg #[.int .i64 ((rd_T26 l0 x7_1).f0), .int .i64 ((rd_T26 l0 x7_1).f1), .int .i64 ((rd_T26 l0 x7_1).f2), .int .i64 ((rd_T26 l0 x7_1).f3)]] rfl (by (try simp only [List.map_toArray, List.map_cons, List.map_nil]); first | done | rfl | (simp only [List.length_drop, List.length_take]; rfl)) ?_; (with_reducible refine (miradorref15_Counts.calls ((rd_T26 l0 x7_1).f0) ((rd_T26 l0 x7_1).f1) ((rd_T26 l0 x7_1).f2) ((rd_T26 l0 x7_1).f3) true _ A6.out).mono ?_); rintro e w22 ⟨rfl, hb⟩; refine ⟨_, rfl, ?_⟩; have n0_ := Aside0.mk (blk_below (g := gb366) (o := .cells #[.int .i64 ((rd_T26 l0 x7_1).f0), .int .i64 ((rd_T26 l0 x7_1).f1), .int .i64 ((rd_T26 l0 x7_1).f2), .int .i64 ((rd_T26 l0 x7_1).f3)] 26 (0, 0)) (by (with_reducible repeat (first | refine blk_drewN ?_ _ | refine blk_drew ?_ | refine blk_alloc ?_ _)); refine blk_put (cs := #[.int .i64 ((rd_T26 l0 x7_1).f0), .int .i64 ((rd_T26 l0 x7_1).f1), .int .i64 ((rd_T26 l0 x7_1).f2), .int .i64 0]) ?_ 3 _ rfl; (with_reducible repeat (first | refine blk_drewN ?_ _ | refine blk_drew ?_ | refine blk_alloc ?_ _)); refine blk_put (cs := #[.int .i64 ((rd_T26 l0 x7_1).f0), .int .i64 ((rd_T26 l0 x7_1).f1), .int .i64 0, .int .i64 0]) ?_ 2 _ rfl; (with_reducible repeat (first | refine blk_drewN ?_ _ | refine blk_drew ?_ | refine blk_alloc ?_ _)); refine blk_put (cs := #[.int .i64 ((rd_T26 l0 x7_1).f0), .int .i64 0, .int .i64 0, .int .i64 0]) ?_ 1 _ rfl; (with_reducible repeat (first | refine blk_drewN ?_ _ | refine blk_drew ?_ | refine blk_alloc ?_ _)); refine blk_put (cs := #[.int .i64 0, .int .i64 0, .int .i64 0, .int .i64 0]) ?_ 0 _ rfl; (with_reducible repeat (first | refine blk_drewN ?_ _ | refine blk_drew ?_ | refine blk_alloc ?_ _)); exact BK366.out) hb); have n1_ := Aside0.mk (below_step (by repeat (first | (with_reducible first | exact HB.out | apply below_alloc | apply pw_below_drewN | apply below_drew1 | refine below_set ?_ GE366.out) | exact HB.out)) hb); clear BK366; clear HB; have BK366 := n0_; have HB := n1_; clear n0_ n1_; (try clear hb); (try clear hb2); (try clear hk); (try clear hi); have hcz23_0 : w22.cell? ⟨gb366, 0, none⟩ = some (.int .i64 ((rd_T26 l0 x7_1).f0)) := (blk_cell BK366.out 0).trans rfl; have hcz23_1 : w22.cell? ⟨gb366, 1, none⟩ = some (.int .i64 ((rd_T26 l0 x7_1).f1)) := (blk_cell BK366.out 1).trans rfl; have hcz23_2 : w22.cell? ⟨gb366, 2, none⟩ = some (.int .i64 ((rd_T26 l0 x7_1).f2)) := (blk_cell BK366.out 2).trans rfl; have hcz23_3 : w22.cell? ⟨gb366, 3, none⟩ = some (.int .i64 ((rd_T26 l0 x7_1).f3)) := (blk_cell BK366.out 3).trans rfl; have hfz23_0 := blk_frozen BK366.out 0; have hfz23_1 := blk_frozen BK366.out 1; have hfz23_2 := blk_frozen BK366.out 2; have hfz23_3 := blk_frozen BK366.out 3))
                  go_roundg k1
                  case measure => have := HK1.out; omega
                  case rel => exact ⟨(wrap64 (x7_1 + 1)), (by first | rfl | (simp; done) | (simp [*]; done)), H', ⟨by have := HK1.out; omega⟩, ⟨by repeat (first | (with_reducible first | exact HB.out | apply below_alloc | apply pw_below_drewN | apply below_drew1 | refine below_set ?_ GE366.out) | exact HB.out)⟩⟩
              · rw [if_neg c9] at H
                have c9b0 : decide (a1 < (wrap64 (((rd_T26 l0 x7_1).f0) + ((rd_T26 l0 x7_1).f2)))) = false := decide_eq_false c9
                clear c9
                have H' := Aside0.mk H
                clear H
                have p365 : 0 ≤ (x7_1 : Int) := of_decide_eq_true (by first | (with_reducible assumption) | assumption)
                have q365 : x7_1 < (l0.length : Int) := of_decide_eq_true (by first | (with_reducible assumption) | assumption)
                obtain ⟨ad365, e365, hx365_0, hx365_1, hx365_2, hx365_3⟩ := at_T26 HR0.out x7_1 p365 q365
                cases e365
                replace hx365_0 := (HB.out.cell (World.block_lt_of_cell? w _ hx365_0)).trans hx365_0
                replace hx365_1 := (HB.out.cell (World.block_lt_of_cell? w _ hx365_1)).trans hx365_1
                replace hx365_2 := (HB.out.cell (World.block_lt_of_cell? w _ hx365_2)).trans hx365_2
                replace hx365_3 := (HB.out.cell (World.block_lt_of_cell? w _ hx365_3)).trans hx365_3
                replace p365 := eq_true p365
                replace q365 := eq_true q365
                go_wp2_with (first | ((with_reducible refine gate_dst (N := 8) rfl ?_); refine box_event ?hg (N := 8) ?hd (cs := #[.int .i64 0, .int .i64 0, .int .i64 0, .int .i64 0]) (t := 26) ?hr ?_; (case hd => rfl); (case hg => rfl); (case hr => first | (go_simp; done) | (go_simp; rfl)); intro gb366 hg w24 hbox hb; have n0_ := Aside0.mk (below_step (by repeat (first | (with_reducible first | exact HB.out | apply below_alloc | apply pw_below_drewN | apply below_drew1) | exact HB.out)) hb); have n1_ := Aside0.mk (hbox); have n2_ := Aside0.mk ((by rw [hg]; exact (below_size (by repeat (first | (with_reducible first | exact HB.out | apply below_alloc | apply pw_below_drewN | apply below_drew1) | exact HB.out))) : w.heap.size ≤ gb366)); have n3_ := Aside0.mk ((by rw [hg]; exact (below_size (by repeat (first | (with_reducible first | exact HB.out | apply below_alloc | apply pw_below_drewN | apply below_drew1) | exact HB.out))) : w.heap.size ≤ gb366)); clear HB; have HB := n0_; have BK366 := n1_; have GW366 := n2_; have GE366 := n3_; clear n0_ n1_ n2_ n3_; clear hb hbox hg; have hcz25_0 : w24.cell? ⟨gb366, 0, none⟩ = some (.int .i64 0) := (blk_cell BK366.out 0).trans rfl; have hcz25_1 : w24.cell? ⟨gb366, 1, none⟩ = some (.int .i64 0) := (blk_cell BK366.out 1).trans rfl; have hcz25_2 : w24.cell? ⟨gb366, 2, none⟩ = some (.int .i64 0) := (blk_cell BK366.out 2).trans rfl; have hcz25_3 : w24.cell? ⟨gb366, 3, none⟩ = some (.int .i64 0) := (blk_cell BK366.out 3).trans rfl; have hfz25_0 := blk_frozen BK366.out 0; have hfz25_1 := blk_frozen BK366.out 1; have hfz25_2 := blk_frozen BK366.out 2; have hfz25_3 := blk_frozen BK366.out 3) | ((with_reducible refine gate_callee (f := 39) rfl ?_); refine goesL_ (some 20) rfl rfl Try.func39 (by kernel_rfl) rfl #[.agg #[.int .i64 ((rd_T26 l0 x7_1).f0), .int .i64 ((rd_T26 l0 x7_1).f1), .int .i64 ((rd_T26 l0 x7_1).f2), .int .i64 ((rd_T26 l0 x7_1).f3)]] rfl (by (try simp only [List.map_toArray, List.map_cons, List.map_nil]); first | done | rfl | (simp only [List.length_drop, List.length_take]; rfl)) ?_; (with_reducible refine (miradorref15_Counts.calls ((rd_T26 l0 x7_1).f0) ((rd_T26 l0 x7_1).f1) ((rd_T26 l0 x7_1).f2) ((rd_T26 l0 x7_1).f3) true _ A6.out).mono ?_); rintro e w26 ⟨rfl, hb⟩; refine ⟨_, rfl, ?_⟩; have n0_ := Aside0.mk (blk_below (g := gb366) (o := .cells #[.int .i64 ((rd_T26 l0 x7_1).f0), .int .i64 ((rd_T26 l0 x7_1).f1), .int .i64 ((rd_T26 l0 x7_1).f2), .int .i64 ((rd_T26 l0 x7_1).f3)] 26 (0, 0)) (by (with_reducible repeat (first | refine blk_drewN ?_ _ | refine blk_drew ?_ | refine blk_alloc ?_ _)); refine blk_put (cs := #[.int .i64 ((rd_T26 l0 x7_1).f0), .int .i64 ((rd_T26 l0 x7_1).f1), .int .i64 ((rd_T26 l0 x7_1).f2), .int .i64 0]) ?_ 3 _ rfl; (with_reducible repeat (first | refine blk_drewN ?_ _ | refine blk_drew ?_ | refine blk_alloc ?_ _)); refine blk_put (cs := #[.int .i64 ((rd_T26 l0 x7_1).f0), .int .i64 ((rd_T26 l0 x7_1).f1), .int .i64 0, .int .i64 0]) ?_ 2 _ rfl; (with_reducible repeat (first | refine blk_drewN ?_ _ | refine blk_drew ?_ | refine blk_alloc ?_ _)); refine blk_put (cs := #[.int .i64 ((rd_T26 l0 x7_1).f0), .int .i64 0, .int .i64 0, .int .i64 0]) ?_ 1 _ rfl; (with_reducible repeat (first | refine blk_drewN ?_ _ | refine blk_drew ?_ | refine blk_alloc ?_ _)); refine blk_put (cs := #[.int .i64 0, .int .i64 0, .int .i64 0, .int .i64 0]) ?_ 0 _ rfl; (with_reducible repeat (first | refine blk_drewN ?_ _ | refine blk_drew ?_ | refine blk_alloc ?_ _)); exact BK366.out) hb); have n1_ := Aside0.mk (below_step (by repeat (first | (with_reducible first | exact HB.out | apply below_alloc | apply pw_below_drewN | apply below_drew1 | refine below_set ?_ GE366.out) | exact HB.out)) hb); clear BK366; clear HB; have BK366 := n0_; have HB := n1_; clear n0_ n1_; (try clear hb); (try clear hb2); (try clear hk); (try clear hi); have hcz27_0 : w26.cell? ⟨gb366, 0, none⟩ = some (.int .i64 ((rd_T26 l0 x7_1).f0)) := (blk_cell BK366.out 0).trans rfl; have hcz27_1 : w26.cell? ⟨gb366, 1, none⟩ = some (.int .i64 ((rd_T26 l0 x7_1).f1)) := (blk_cell BK366.out 1).trans rfl; have hcz27_2 : w26.cell? ⟨gb366, 2, none⟩ = some (.int .i64 ((rd_T26 l0 x7_1).f2)) := (blk_cell BK366.out 2).trans rfl; have hcz27_3 : w26.cell? ⟨gb366, 3, none⟩ = some (.int .i64 ((rd_T26 l0 x7_1).f3)) := (blk_cell BK366.out 3).trans rfl; have hfz27_0 := blk_frozen BK366.out 0; have hfz27_1 := blk_frozen BK366.out 1; have hfz27_2 := blk_frozen BK366.out 2; have hfz27_3 := blk_frozen BK366.out 3))
                go_roundg k1
                case measure => have := HK1.out; omega
                case rel => exact ⟨(wrap64 (x7_1 + 1)), (by first | rfl | (simp; done) | (simp [*]; done)), H', ⟨by have := HK1.out; omega⟩, ⟨by repeat (first | (with_reducible first | exact HB.out | apply below_alloc | apply pw_below_drewN | apply below_drew1 | refine below_set ?_ GE366.out) | exact HB.out)⟩⟩
            · rw [if_neg c8] at H
              have c8b0 : decide (((rd_T26 l0 x7_1).f0) ≤ a1) = false := decide_eq_false c8
              clear c8
              have H' := Aside0.mk H
              clear H
              have p365 : 0 ≤ (x7_1 : Int) := of_decide_eq_true (by first | (with_reducible assumption) | assumption)
              have q365 : x7_1 < (l0.length : Int) := of_decide_eq_true (by first | (with_reducible assumption) | assumption)
              obtain ⟨ad365, e365, hx365_0, hx365_1, hx365_2, hx365_3⟩ := at_T26 HR0.out x7_1 p365 q365
              cases e365
              replace hx365_0 := (HB.out.cell (World.block_lt_of_cell? w _ hx365_0)).trans hx365_0
              replace hx365_1 := (HB.out.cell (World.block_lt_of_cell? w _ hx365_1)).trans hx365_1
              replace hx365_2 := (HB.out.cell (World.block_lt_of_cell? w _ hx365_2)).trans hx365_2
              replace hx365_3 := (HB.out.cell (World.block_lt_of_cell? w _ hx365_3)).trans hx365_3
              replace p365 := eq_true p365
              replace q365 := eq_true q365
              go_wp2_with (first | ((with_reducible refine gate_dst (N := 8) rfl ?_); refine box_event ?hg (N := 8) ?hd (cs := #[.int .i64 0, .int .i64 0, .int .i64 0, .int .i64 0]) (t := 26) ?hr ?_; (case hd => rfl); (case hg => rfl); (case hr => first | (go_simp; done) | (go_simp; rfl)); intro gb366 hg w28 hbox hb; have n0_ := Aside0.mk (below_step (by repeat (first | (with_reducible first | exact HB.out | apply below_alloc | apply pw_below_drewN | apply below_drew1) | exact HB.out)) hb); have n1_ := Aside0.mk (hbox); have n2_ := Aside0.mk ((by rw [hg]; exact (below_size (by repeat (first | (with_reducible first | exact HB.out | apply below_alloc | apply pw_below_drewN | apply below_drew1) | exact HB.out))) : w.heap.size ≤ gb366)); have n3_ := Aside0.mk ((by rw [hg]; exact (below_size (by repeat (first | (with_reducible first | exact HB.out | apply below_alloc | apply pw_below_drewN | apply below_drew1) | exact HB.out))) : w.heap.size ≤ gb366)); clear HB; have HB := n0_; have BK366 := n1_; have GW366 := n2_; have GE366 := n3_; clear n0_ n1_ n2_ n3_; clear hb hbox hg; have hcz29_0 : w28.cell? ⟨gb366, 0, none⟩ = some (.int .i64 0) := (blk_cell BK366.out 0).trans rfl; have hcz29_1 : w28.cell? ⟨gb366, 1, none⟩ = some (.int .i64 0) := (blk_cell BK366.out 1).trans rfl; have hcz29_2 : w28.cell? ⟨gb366, 2, none⟩ = some (.int .i64 0) := (blk_cell BK366.out 2).trans rfl; have hcz29_3 : w28.cell? ⟨gb366, 3, none⟩ = some (.int .i64 0) := (blk_cell BK366.out 3).trans rfl; have hfz29_0 := blk_frozen BK366.out 0; have hfz29_1 := blk_frozen BK366.out 1; have hfz29_2 := blk_frozen BK366.out 2; have hfz29_3 := blk_frozen BK366.out 3) | ((with_reducible refine gate_callee (f := 39) rfl ?_); refine goesL_ (some 20) rfl rfl Try.func39 (by kernel_rfl) rfl #[.agg #[.int .i64 ((rd_T26 l0 x7_1).f0), .int .i64 ((rd_T26 l0 x7_1).f1), .int .i64 ((rd_T26 l0 x7_1).f2), .int .i64 ((rd_T26 l0 x7_1).f3)]] rfl (by (try simp only [List.map_toArray, List.map_cons, List.map_nil]); first | done | rfl | (simp only [List.length_drop, List.length_take]; rfl)) ?_; (with_reducible refine (miradorref15_Counts.calls ((rd_T26 l0 x7_1).f0) ((rd_T26 l0 x7_1).f1) ((rd_T26 l0 x7_1).f2) ((rd_T26 l0 x7_1).f3) true _ A6.out).mono ?_); rintro e w30 ⟨rfl, hb⟩; refine ⟨_, rfl, ?_⟩; have n0_ := Aside0.mk (blk_below (g := gb366) (o := .cells #[.int .i64 ((rd_T26 l0 x7_1).f0), .int .i64 ((rd_T26 l0 x7_1).f1), .int .i64 ((rd_T26 l0 x7_1).f2), .int .i64 ((rd_T26 l0 x7_1).f3)] 26 (0, 0)) (by (with_reducible repeat (first | refine blk_drewN ?_ _ | refine blk_drew ?_ | refine blk_alloc ?_ _)); refine blk_put (cs := #[.int .i64 ((rd_T26 l0 x7_1).f0), .int .i64 ((rd_T26 l0 x7_1).f1), .int .i64 ((rd_T26 l0 x7_1).f2), .int .i64 0]) ?_ 3 _ rfl; (with_reducible repeat (first | refine blk_drewN ?_ _ | refine blk_drew ?_ | refine blk_alloc ?_ _)); refine blk_put (cs := #[.int .i64 ((rd_T26 l0 x7_1).f0), .int .i64 ((rd_T26 l0 x7_1).f1), .int .i64 0, .int .i64 0]) ?_ 2 _ rfl; (with_reducible repeat (first | refine blk_drewN ?_ _ | refine blk_drew ?_ | refine blk_alloc ?_ _)); refine blk_put (cs := #[.int .i64 ((rd_T26 l0 x7_1).f0), .int .i64 0, .int .i64 0, .int .i64 0]) ?_ 1 _ rfl; (with_reducible repeat (first | refine blk_drewN ?_ _ | refine blk_drew ?_ | refine blk_alloc ?_ _)); refine blk_put (cs := #[.int .i64 0, .int .i64 0, .int .i64 0, .int .i64 0]) ?_ 0 _ rfl; (with_reducible repeat (first | refine blk_drewN ?_ _ | refine blk_drew ?_ | refine blk_alloc ?_ _)); exact BK366.out) hb); have n1_ := Aside0.mk (below_step (by repeat (first | (with_reducible first | exact HB.out | apply below_alloc | apply pw_below_drewN | apply below_drew1 | refine below_set ?_ GE366.out) | exact HB.out)) hb); clear BK366; clear HB; have BK366 := n0_; have HB := n1_; clear n0_ n1_; (try clear hb); (try clear hb2); (try clear hk); (try clear hi); have hcz31_0 : w30.cell? ⟨gb366, 0, none⟩ = some (.int .i64 ((rd_T26 l0 x7_1).f0)) := (blk_cell BK366.out 0).trans rfl; have hcz31_1 : w30.cell? ⟨gb366, 1, none⟩ = some (.int .i64 ((rd_T26 l0 x7_1).f1)) := (blk_cell BK366.out 1).trans rfl; have hcz31_2 : w30.cell? ⟨gb366, 2, none⟩ = some (.int .i64 ((rd_T26 l0 x7_1).f2)) := (blk_cell BK366.out 2).trans rfl; have hcz31_3 : w30.cell? ⟨gb366, 3, none⟩ = some (.int .i64 ((rd_T26 l0 x7_1).f3)) := (blk_cell BK366.out 3).trans rfl; have hfz31_0 := blk_frozen BK366.out 0; have hfz31_1 := blk_frozen BK366.out 1; have hfz31_2 := blk_frozen BK366.out 2; have hfz31_3 := blk_frozen BK366.out 3))
              go_roundg k1
              case measure => have := HK1.out; omega
              case rel => exact ⟨(wrap64 (x7_1 + 1)), (by first | rfl | (simp; done) | (simp [*]; done)), H', ⟨by have := HK1.out; omega⟩, ⟨by repeat (first | (with_reducible first | exact HB.out | apply below_alloc | apply pw_below_drewN | apply below_drew1 | refine below_set ?_ GE366.out) | exact HB.out)⟩⟩
          · replace c7 := Bool.eq_false_iff.mpr c7
            subst c7
            have H1 : (miradorref15_Has.l0 k1 l0 a1 a2 (wrap64 (x7_1 + 1))) = some r := by rw [if_neg (show ¬ (false = true) by decide)] at H; exact H
            clear H
            have H := H1
            clear H1
            have H' := Aside0.mk H
            clear H
            have p365 : 0 ≤ (x7_1 : Int) := of_decide_eq_true (by first | (with_reducible assumption) | assumption)
            have q365 : x7_1 < (l0.length : Int) := of_decide_eq_true (by first | (with_reducible assumption) | assumption)
            obtain ⟨ad365, e365, hx365_0, hx365_1, hx365_2, hx365_3⟩ := at_T26 HR0.out x7_1 p365 q365
            cases e365
            replace hx365_0 := (HB.out.cell (World.block_lt_of_cell? w _ hx365_0)).trans hx365_0
            replace hx365_1 := (HB.out.cell (World.block_lt_of_cell? w _ hx365_1)).trans hx365_1
            replace hx365_2 := (HB.out.cell (World.block_lt_of_cell? w _ hx365_2)).trans hx365_2
            replace hx365_3 := (HB.out.cell (World.block_lt_of_cell? w _ hx365_3)).trans hx365_3
            replace p365 := eq_true p365
            replace q365 := eq_true q365
            go_wp2_with (first | ((with_reducible refine gate_dst (N := 8) rfl ?_); refine box_event ?hg (N := 8) ?hd (cs := #[.int .i64 0, .int .i64 0, .int .i64 0, .int .i64 0]) (t := 26) ?hr ?_; (case hd => rfl); (case hg => rfl); (case hr => first | (go_simp; done) | (go_simp; rfl)); intro gb366 hg w32 hbox hb; have n0_ := Aside0.mk (below_step (by repeat (first | (with_reducible first | exact HB.out | apply below_alloc | apply pw_below_drewN | apply below_drew1) | exact HB.out)) hb); have n1_ := Aside0.mk (hbox); have n2_ := Aside0.mk ((by rw [hg]; exact (below_size (by repeat (first | (with_reducible first | exact HB.out | apply below_alloc | apply pw_below_drewN | apply below_drew1) | exact HB.out))) : w.heap.size ≤ gb366)); have n3_ := Aside0.mk ((by rw [hg]; exact (below_size (by repeat (first | (with_reducible first | exact HB.out | apply below_alloc | apply pw_below_drewN | apply below_drew1) | exact HB.out))) : w.heap.size ≤ gb366)); clear HB; have HB := n0_; have BK366 := n1_; have GW366 := n2_; have GE366 := n3_; clear n0_ n1_ n2_ n3_; clear hb hbox hg; have hcz33_0 : w32.cell? ⟨gb366, 0, none⟩ = some (.int .i64 0) := (blk_cell BK366.out 0).trans rfl; have hcz33_1 : w32.cell? ⟨gb366, 1, none⟩ = some (.int .i64 0) := (blk_cell BK366.out 1).trans rfl; have hcz33_2 : w32.cell? ⟨gb366, 2, none⟩ = some (.int .i64 0) := (blk_cell BK366.out 2).trans rfl; have hcz33_3 : w32.cell? ⟨gb366, 3, none⟩ = some (.int .i64 0) := (blk_cell BK366.out 3).trans rfl; have hfz33_0 := blk_frozen BK366.out 0; have hfz33_1 := blk_frozen BK366.out 1; have hfz33_2 := blk_frozen BK366.out 2; have hfz33_3 := blk_frozen BK366.out 3) | ((with_reducible refine gate_callee (f := 39) rfl ?_); refine goesL_ (some 20) rfl rfl Try.func39 (by kernel_rfl) rfl #[.agg #[.int .i64 ((rd_T26 l0 x7_1).f0), .int .i64 ((rd_T26 l0 x7_1).f1), .int .i64 ((rd_T26 l0 x7_1).f2), .int .i64 ((rd_T26 l0 x7_1).f3)]] rfl (by (try simp only [List.map_toArray, List.map_cons, List.map_nil]); first | done | rfl | (simp only [List.length_drop, List.length_take]; rfl)) ?_; (with_reducible refine (miradorref15_Counts.calls ((rd_T26 l0 x7_1).f0) ((rd_T26 l0 x7_1).f1) ((rd_T26 l0 x7_1).f2) ((rd_T26 l0 x7_1).f3) false _ A6.out).mono ?_); rintro e w34 ⟨rfl, hb⟩; refine ⟨_, rfl, ?_⟩; have n0_ := Aside0.mk (blk_below (g := gb366) (o := .cells #[.int .i64 ((rd_T26 l0 x7_1).f0), .int .i64 ((rd_T26 l0 x7_1).f1), .int .i64 ((rd_T26 l0 x7_1).f2), .int .i64 ((rd_T26 l0 x7_1).f3)] 26 (0, 0)) (by (with_reducible repeat (first | refine blk_drewN ?_ _ | refine blk_drew ?_ | refine blk_alloc ?_ _)); refine blk_put (cs := #[.int .i64 ((rd_T26 l0 x7_1).f0), .int .i64 ((rd_T26 l0 x7_1).f1), .int .i64 ((rd_T26 l0 x7_1).f2), .int .i64 0]) ?_ 3 _ rfl; (with_reducible repeat (first | refine blk_drewN ?_ _ | refine blk_drew ?_ | refine blk_alloc ?_ _)); refine blk_put (cs := #[.int .i64 ((rd_T26 l0 x7_1).f0), .int .i64 ((rd_T26 l0 x7_1).f1), .int .i64 0, .int .i64 0]) ?_ 2 _ rfl; (with_reducible repeat (first | refine blk_drewN ?_ _ | refine blk_drew ?_ | refine blk_alloc ?_ _)); refine blk_put (cs := #[.int .i64 ((rd_T26 l0 x7_1).f0), .int .i64 0, .int .i64 0, .int .i64 0]) ?_ 1 _ rfl; (with_reducible repeat (first | refine blk_drewN ?_ _ | refine blk_drew ?_ | refine blk_alloc ?_ _)); refine blk_put (cs := #[.int .i64 0, .int .i64 0, .int .i64 0, .int .i64 0]) ?_ 0 _ rfl; (with_reducible repeat (first | refine blk_drewN ?_ _ | refine blk_drew ?_ | refine blk_alloc ?_ _)); exact BK366.out) hb); have n1_ := Aside0.mk (below_step (by repeat (first | (with_reducible first | exact HB.out | apply below_alloc | apply pw_below_drewN | apply below_drew1 | refine below_set ?_ GE366.out) | exact HB.out)) hb); clear BK366; clear HB; have BK366 := n0_; have HB := n1_; clear n0_ n1_; (try clear hb); (try clear hb2); (try clear hk); (try clear hi)))
            go_roundg k1
            case measure => have := HK1.out; omega
            case rel => exact ⟨(wrap64 (x7_1 + 1)), (by first | rfl | (simp; done) | (simp [*]; done)), H', ⟨by have := HK1.out; omega⟩, ⟨by repeat (first | (with_reducible first | exact HB.out | apply below_alloc | apply pw_below_drewN | apply below_drew1 | refine below_set ?_ GE366.out) | exact HB.out)⟩⟩
        · rw [if_neg c5] at H
          exact absurd H (by simp)
      · rw [if_neg c4] at H
        have c4b0 : decide (x7_1 < (l0.length : Int)) = false := decide_eq_false c4
        clear c4
        obtain rfl := Option.some.inj H
        go_wp2
        go_ret
        exact ⟨by first | rfl | (simp [errW_none, errW_some] <;> rfl) | (simp [*, errW_none, errW_some] <;> rfl), by repeat (first | (with_reducible first | exact HB.out | apply below_alloc | apply pw_below_drewN | apply below_drew1) | exact HB.out)⟩

end Go.Proofs.Ytkobiblgbpnlaaa.X
