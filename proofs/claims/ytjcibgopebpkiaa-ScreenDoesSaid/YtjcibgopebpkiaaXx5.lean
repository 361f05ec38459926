/- What each Go function that these laws use answers: as a Lean function, with the proof that the machine's call comes to it. Written by a program of this session (xprint.py). -/
import Derived.Test.YtjcibgopebpkiaaXx0
import Derived.Test.YtjcibgopebpkiaaXx1
import Derived.Test.YtjcibgopebpkiaaXx2
import Derived.Test.YtjcibgopebpkiaaXx4
namespace Go.Proofs.Ytjcibgopebpkiaa.X
open Go.RowKit Go.Proofs.YtjcibgopebpkiaaW.PrintWords Go.Proofs.YtjcibgopebpkiaaW.PrintLast Go.Proofs.YtjcibgopebpkiaaW.PrintMore
attribute [local go_sem] max2_int min2_int max_two min_two max_three min_three max_four min_four   -- for this text's walks alone
set_option linter.unusedVariables false
set_option linter.unusedSimpArgs false

/-! ### miradorref14_Part: function 28 -/
def miradorref14_Part.l0 : Nat → List Int → Int → Int → Int → List Int → Int → Int → Int → Int → Option (List Int × Int)
  | 0, _, _, _, _, _, _, _, _, _ => none
  | k + 1, x6, x7, x161000, x161001, x161002, x162000, x162001, x162002, x162003 => if x7 < (x161002.length : Int) then (if x161000 = 0 then (none) else ((miradorref14_In.f x162000 x162001 x162002 x162003 (Int.tmod x7 x161000) (wrap64 (Int.tdiv x7 x161000))).bind fun t163 => (if t163 = true then (if 0 ≤ x7 then (if x6.length < 17592186044416 then (miradorref14_Part.l0 k (x6 ++ [rd x161002 x7]) (wrap64 (x7 + 1)) x161000 x161001 x161002 x162000 x162001 x162002 x162003) else (none)) else (none)) else (miradorref14_Part.l0 k x6 (wrap64 (x7 + 1)) x161000 x161001 x161002 x162000 x162001 x162002 x162003)))) else (some (x6, 0))
def miradorref14_Part.f (k : Nat) (a0_0 : Int) (a0_1 : Int) (l0_2 : List Int) (a1_0 : Int) (a1_1 : Int) (a1_2 : Int) (a1_3 : Int) : Option (List Int × Int) := (miradorref14_Inside.f a1_0 a1_1 a1_2 a1_3 a0_0 a0_1).bind fun t162 => (if t162 = true then (miradorref14_Part.l0 k ([] : List Int) 0 a0_0 a0_1 l0_2 a1_0 a1_1 a1_2 a1_3) else (some (([] : List Int), 140)))
theorem miradorref14_Part.mono_l : ∀ k, (∀ y0 y1 y2 y3 y4 y5 y6 y7 y8, LeO (miradorref14_Part.l0 k y0 y1 y2 y3 y4 y5 y6 y7 y8) (miradorref14_Part.l0 (k + 1) y0 y1 y2 y3 y4 y5 y6 y7 y8))
  | 0 => fun _ _ _ _ _ _ _ _ _ r h => by simp [miradorref14_Part.l0] at h
  | k + 1 => by
    have ih0 := miradorref14_Part.mono_l k
    · intro y0 y1 y2 y3 y4 y5 y6 y7 y8
      unfold miradorref14_Part.l0
      repeat' first
      | (with_reducible exact ih0 _ _ _ _ _ _ _ _ _)
      | (with_reducible exact LeO.refl _)
      | (with_reducible exact LeO.none _)
      | (with_reducible refine LeO.ite ?_ ?_)
      | (with_reducible refine LeO.bind ?_ (fun _ => ?_))
      | exact ih0 _ _ _ _ _ _ _ _ _
      | exact LeO.none _
      | refine LeO.ite ?_ ?_
      | refine LeO.bind ?_ (fun _ => ?_)
theorem miradorref14_Part.mono : ∀ a0 a1 a2 a3 a4 a5 a6 k, LeO (miradorref14_Part.f k a0 a1 a2 a3 a4 a5 a6) (miradorref14_Part.f (k + 1) a0 a1 a2 a3 a4 a5 a6) := by
  intro a0 a1 a2 a3 a4 a5 a6 k
  have ih0 := miradorref14_Part.mono_l k
  unfold miradorref14_Part.f
  repeat' first
      | (with_reducible exact ih0 _ _ _ _ _ _ _ _ _)
      | (with_reducible exact LeO.refl _)
      | (with_reducible exact LeO.none _)
      | (with_reducible refine LeO.ite ?_ ?_)
      | (with_reducible refine LeO.bind ?_ (fun _ => ?_))
      | exact ih0 _ _ _ _ _ _ _ _ _
      | exact LeO.none _
      | refine LeO.ite ?_ ?_
      | refine LeO.bind ?_ (fun _ => ?_)
def miradorref14_Part.T7 : Bool × List (List Nat × List Nat) := (true, [([], []), ([], []), ([], []), ([2], [2]), ([1, 3], [1, 3]), ([], []), ([], []), ([6], [6]), ([5, 7], [5, 7]), ([0, 4, 8], [0, 4, 8])])
def miradorref14_Part.B7 : List Nat := [0, 0, 0, 4, 14, 0, 0, 64, 224, 511]
theorem miradorref14_Part.tab7 : rtab .any (opsOf Try.f28 7) = miradorref14_Part.T7 := by kernel_rfl
theorem miradorref14_Part.bits7 : waitsOk miradorref14_Part.T7.2 miradorref14_Part.B7 = true := by kernel_rfl
set_option maxHeartbeats 8000000 in
set_option maxRecDepth 100000 in
theorem miradorref14_Part.calls (k : Nat) (a0_0 : Int) (a0_1 : Int) (A0_2 : Option Addr) (c0_2 : Nat) (l0_2 : List Int) (a1_0 : Int) (a1_1 : Int) (a1_2 : Int) (a1_3 : Int) (r1 : List Int) (r2 : Int) (w : World) (hr0_2 : Kd.C (Kd.int .i64) w A0_2 l0_2.length l0_2) (hc0_2 : l0_2.length ≤ c0_2) (h : miradorref14_Part.f k a0_0 a0_1 l0_2 a1_0 a1_1 a1_2 a1_3 = some (r1, r2)) :
    Calls Try.prog 28 #[.agg #[.int .i64 a0_0, .int .i64 a0_1, .slice A0_2 l0_2.length c0_2], .agg #[.int .i64 a1_0, .int .i64 a1_1, .int .i64 a1_2, .int .i64 a1_3]] w fun e w' => ∃ v0_ : Value, e = .returned (.tuple #[v0_, .int .i64 r2]) ∧ Kd.R (Kd.int .i64) 3 w' w.heap.size (fun _ => True) v0_ r1 ∧ Below w.heap.size w w' := by
  have hu33 := Try.underlying33
  have hu30 := Try.underlying30
  have HR0_2 := Aside0.mk hr0_2
  have HC0_2 := Aside0.mk hc0_2
  clear hr0_2 hc0_2
  have HB := Aside0.mk (Below.refl w.heap.size w)
  have H : ((miradorref14_Inside.f a1_0 a1_1 a1_2 a1_3 a0_0 a0_1).bind fun t162 => (if t162 = true then (miradorref14_Part.l0 k ([] : List Int) 0 a0_0 a0_1 l0_2 a1_0 a1_1 a1_2 a1_3) else (some (([] : List Int), 140)))) = some (r1, r2) := h
  clear h
  replace H := Option.bind_eq_some_iff.mp H
  obtain ⟨t162, A30, H⟩ := H
  replace H : (if t162 = true then (miradorref14_Part.l0 k ([] : List Int) 0 a0_0 a0_1 l0_2 a1_0 a1_1 a1_2 a1_3) else (some (([] : List Int), 140))) = some (r1, r2) := H
  have A3 := Aside0.mk A30
  clear A30
  by_cases c4 : t162 = true
  · subst c4
    have H1 : (miradorref14_Part.l0 k ([] : List Int) 0 a0_0 a0_1 l0_2 a1_0 a1_1 a1_2 a1_3) = some (r1, r2) := by rw [if_pos rfl] at H; exact H
    clear H
    have H := H1
    clear H1
    have H' := Aside0.mk H
    clear H
    go_enter Try.func28, Try.ntmps28
    go_wp2_with (first | ((with_reducible refine gate_dst (N := 2) rfl ?_); refine box_event ?hg (N := 2) ?hd (cs := #[.int .i64 a0_0, .int .i64 a0_1, .slice A0_2 l0_2.length c0_2]) (t := 33) ?hr ?_; (case hd => rfl); (case hg => rfl); (case hr => first | (go_simp; done) | (go_simp; rfl)); intro gb160 hg w5 hbox hb; have n0_ := Aside0.mk (below_step (by repeat (first | (with_reducible first | exact HB.out | apply below_alloc | apply pw_below_drewN | apply below_drew1) | exact HB.out)) hb); have n1_ := Aside0.mk (hbox); have n2_ := Aside0.mk ((by rw [hg]; exact (below_size (by repeat (first | (with_reducible first | exact HB.out | apply below_alloc | apply pw_below_drewN | apply below_drew1) | exact HB.out))) : w.heap.size ≤ gb160)); have n3_ := Aside0.mk ((by rw [hg]; exact (below_size (by repeat (first | (with_reducible first | exact HB.out | apply below_alloc | apply pw_below_drewN | apply below_drew1) | exact HB.out))) : w.heap.size ≤ gb160)); clear HB; have HB := n0_; have BK160 := n1_; have GW160 := n2_; have GE160 := n3_; clear n0_ n1_ n2_ n3_; clear hb hbox hg) | ((with_reducible refine gate_dst (N := 3) rfl ?_); refine box_event ?hg (N := 3) ?hd (cs := #[.int .i64 a1_0, .int .i64 a1_1, .int .i64 a1_2, .int .i64 a1_3]) (t := 30) ?hr ?_; (case hd => rfl); (case hg => rfl); (case hr => first | (go_simp; done) | (go_simp; rfl)); intro gb161 hg w6 hbox hb; have n0_ := Aside0.mk (blk_below (g := gb160) (o := .cells #[.int .i64 a0_0, .int .i64 a0_1, .slice A0_2 l0_2.length c0_2] 33 (0, 0)) (by (with_reducible repeat (first | refine blk_drewN ?_ _ | refine blk_drew ?_ | refine blk_alloc ?_ _)); exact BK160.out) hb); have n1_ := Aside0.mk (below_step (by repeat (first | (with_reducible first | exact HB.out | apply below_alloc | apply pw_below_drewN | apply below_drew1 | refine below_set ?_ GE160.out) | exact HB.out)) hb); have n2_ := Aside0.mk (hbox); have n3_ := Aside0.mk ((by rw [hg]; exact (below_size (by repeat (first | (with_reducible first | exact HB.out | apply below_alloc | apply pw_below_drewN | apply below_drew1 | refine below_set ?_ GE160.out) | exact HB.out))) : w.heap.size ≤ gb161)); have n4_ := Aside0.mk ((by rw [hg]; exact (below_size (by repeat (first | (with_reducible first | exact HB.out | apply below_alloc | apply pw_below_drewN | apply below_drew1 | refine below_set ?_ GE160.out) | exact HB.out))) : w.heap.size ≤ gb161)); have n5_ := Aside0.mk ((by rw [hg]; exact Nat.ne_of_lt (blk_lt (g := gb160) (o := .cells #[.int .i64 a0_0, .int .i64 a0_1, .slice A0_2 l0_2.length c0_2] 33 (0, 0)) (by (with_reducible repeat (first | refine blk_drewN ?_ _ | refine blk_drew ?_ | refine blk_alloc ?_ _)); exact BK160.out)) : gb160 ≠ gb161)); have n6_ := Aside0.mk ((by rw [hg]; exact Nat.ne_of_gt (blk_lt (g := gb160) (o := .cells #[.int .i64 a0_0, .int .i64 a0_1, .slice A0_2 l0_2.length c0_2] 33 (0, 0)) (by (with_reducible repeat (first | refine blk_drewN ?_ _ | refine blk_drew ?_ | refine blk_alloc ?_ _)); exact BK160.out)) : gb161 ≠ gb160)); clear BK160; clear HB; have BK160 := n0_; have HB := n1_; have BK161 := n2_; have GW161 := n3_; have GE161 := n4_; have NB160_161 := n5_; have NB161_160 := n6_; clear n0_ n1_ n2_ n3_ n4_ n5_ n6_; clear hb hbox hg; have hnb7 := NB161_160.out; have hnc7 := NB160_161.out; have hcz8_0 : w6.cell? ⟨gb161, 0, none⟩ = some (.int .i64 a1_0) := (blk_cell BK161.out 0).trans rfl; have hcz8_1 : w6.cell? ⟨gb161, 1, none⟩ = some (.int .i64 a1_1) := (blk_cell BK161.out 1).trans rfl; have hcz8_2 : w6.cell? ⟨gb161, 2, none⟩ = some (.int .i64 a1_2) := (blk_cell BK161.out 2).trans rfl; have hcz8_3 : w6.cell? ⟨gb161, 3, none⟩ = some (.int .i64 a1_3) := (blk_cell BK161.out 3).trans rfl; have hfz8_0 := blk_frozen BK161.out 0; have hfz8_1 := blk_frozen BK161.out 1; have hfz8_2 := blk_frozen BK161.out 2; have hfz8_3 := blk_frozen BK161.out 3; have hcz9_0 : w6.cell? ⟨gb160, 0, none⟩ = some (.int .i64 a0_0) := (blk_cell BK160.out 0).trans rfl; have hcz9_1 : w6.cell? ⟨gb160, 1, none⟩ = some (.int .i64 a0_1) := (blk_cell BK160.out 1).trans rfl; have hcz9_2 : w6.cell? ⟨gb160, 2, none⟩ = some (.slice A0_2 l0_2.length c0_2) := (blk_cell BK160.out 2).trans rfl; have hfz9_0 := blk_frozen BK160.out 0; have hfz9_1 := blk_frozen BK160.out 1; have hfz9_2 := blk_frozen BK160.out 2) | ((with_reducible refine gate_callee (f := 32) rfl ?_); refine goesL_ (some 13) rfl rfl Try.func32 (by kernel_rfl) rfl #[.agg #[.int .i64 a1_0, .int .i64 a1_1, .int .i64 a1_2, .int .i64 a1_3], .int .i64 a0_0, .int .i64 a0_1] rfl (by (try simp only [List.map_toArray, List.map_cons, List.map_nil]); first | done | rfl | (simp only [List.length_drop, List.length_take]; rfl)) ?_; (with_reducible refine (miradorref14_Inside.calls a1_0 a1_1 a1_2 a1_3 a0_0 a0_1 true _ A3.out).mono ?_); rintro e w10 ⟨rfl, hb⟩; refine ⟨_, rfl, ?_⟩; have n0_ := Aside0.mk (blk_below (g := gb160) (o := .cells #[.int .i64 a0_0, .int .i64 a0_1, .slice A0_2 l0_2.length c0_2] 33 (0, 0)) (by (with_reducible repeat (first | refine blk_drewN ?_ _ | refine blk_drew ?_ | refine blk_alloc ?_ _)); exact BK160.out) hb); have n1_ := Aside0.mk (blk_below (g := gb161) (o := .cells #[.int .i64 a1_0, .int .i64 a1_1, .int .i64 a1_2, .int .i64 a1_3] 30 (0, 0)) (by (with_reducible repeat (first | refine blk_drewN ?_ _ | refine blk_drew ?_ | refine blk_alloc ?_ _)); exact BK161.out) hb); have n2_ := Aside0.mk (below_step (by repeat (first | (with_reducible first | exact HB.out | apply below_alloc | apply pw_below_drewN | apply below_drew1 | refine below_set ?_ GE160.out | refine below_set ?_ GE161.out) | exact HB.out)) hb); clear BK160; clear BK161; clear HB; have BK160 := n0_; have BK161 := n1_; have HB := n2_; clear n0_ n1_ n2_; (try clear hb); (try clear hb2); (try clear hk); (try clear hi)))
    go_loopg [6, 7] k (fun kq v6 v7 w' => ∃ (x6_1 : List Int) (x7_1 : Int), v7 = .int .i64 x7_1 ∧ Aside0 (miradorref14_Part.l0 kq x6_1 x7_1 a0_0 a0_1 l0_2 a1_0 a1_1 a1_2 a1_3 = some (r1, r2)) ∧ Aside0 (kq ≤ k) ∧ Aside0 (Kd.R (Kd.int .i64) 3 w' w.heap.size (fun _ => True) v6 x6_1) ∧ Aside0 (w'.heap[gb160]? = some (.cells #[.int .i64 a0_0, .int .i64 a0_1, (.slice A0_2 l0_2.length c0_2)] 33 (0, 0))) ∧ Aside0 (w'.heap[gb161]? = some (.cells #[.int .i64 a1_0, .int .i64 a1_1, .int .i64 a1_2, .int .i64 a1_3] 30 (0, 0))) ∧ Aside0 (Below w.heap.size w w'))
    case atStart => exact ⟨(([] : List Int)), (0), (by first | rfl | (simp; done) | (simp [*]; done)), H', ⟨Nat.le_refl _⟩, ⟨by first | exact Kd.R_nil _ _ _ _ _ | exact Kd.N_nil _ _ _ _ _ | exact Kd.V_nil _ _ _ _ _ | exact Kd.Q_nil _ _ _ _ _ | exact Kd.S_nil _ _ _ _ _⟩, ⟨by (with_reducible repeat (first | refine blk_drewN ?_ _ | refine blk_drew ?_ | refine blk_alloc ?_ _)); exact BK160.out⟩, ⟨by (with_reducible repeat (first | refine blk_drewN ?_ _ | refine blk_drew ?_ | refine blk_alloc ?_ _)); exact BK161.out⟩, ⟨by repeat (first | (with_reducible first | exact HB.out | apply below_alloc | apply pw_below_drewN | apply below_drew1 | refine below_set ?_ GE160.out | refine below_set ?_ GE161.out) | exact HB.out)⟩⟩
    case round =>
      clear H'
      try clear c2
      try clear p2
      try clear c3
      try clear c4
      try clear c7
      try clear hcz8_0
      try clear hcz8_1
      try clear hcz8_2
      try clear hcz8_3
      try clear hcz9_0
      try clear hcz9_1
      try clear hcz9_2
      try clear hfz8_0
      try clear hfz8_1
      try clear hfz8_2
      try clear hfz8_3
      try clear hfz9_0
      try clear hfz9_1
      try clear hfz9_2
      obtain ⟨x6_1, x7_1, rfl, HA, HK1, HO_6, BK160, BK161, HB⟩ := hrel
      cases gk with
      | zero => exact absurd HA.out (by simp [miradorref14_Part.l0])
      | succ k1 =>
        have H := HA.out
        clear HA
        simp only [miradorref14_Part.l0] at H
        by_cases c11 : x7_1 < (l0_2.length : Int)
        · rw [if_pos c11] at H
          have c11b0 : decide (x7_1 < (l0_2.length : Int)) = true := decide_eq_true c11
          clear c11
          by_cases c12 : a0_0 = 0
          · rw [if_pos c12] at H
            exact absurd H (by simp)
          · rw [if_neg c12] at H
            have c12b0 : (a0_0 == 0) = false := beq_eq_false_iff_ne.mpr c12
            have c12b1 : (a0_0 != 0) = true := bne_iff_ne.mpr c12
            replace H := Option.bind_eq_some_iff.mp H
            obtain ⟨t163, A130, H⟩ := H
            replace H : (if t163 = true then (if 0 ≤ x7_1 then (if x6_1.length < 17592186044416 then (miradorref14_Part.l0 k1 (x6_1 ++ [rd l0_2 x7_1]) (wrap64 (x7_1 + 1)) a0_0 a0_1 l0_2 a1_0 a1_1 a1_2 a1_3) else (none)) else (none)) else (miradorref14_Part.l0 k1 x6_1 (wrap64 (x7_1 + 1)) a0_0 a0_1 l0_2 a1_0 a1_1 a1_2 a1_3)) = some (r1, r2) := H
            have A13 := Aside0.mk A130
            clear A130
            by_cases c14 : t163 = true
            · subst c14
              have H1 : (if 0 ≤ x7_1 then (if x6_1.length < 17592186044416 then (miradorref14_Part.l0 k1 (x6_1 ++ [rd l0_2 x7_1]) (wrap64 (x7_1 + 1)) a0_0 a0_1 l0_2 a1_0 a1_1 a1_2 a1_3) else (none)) else (none)) = some (r1, r2) := by rw [if_pos rfl] at H; exact H
              clear H
              have H := H1
              clear H1
              by_cases c15 : 0 ≤ x7_1
              · rw [if_pos c15] at H
                have c15b0 : decide (0 ≤ x7_1) = true := decide_eq_true c15
                clear c15
                by_cases c16 : x6_1.length < 17592186044416
                · rw [if_pos c16] at H
                  have LMc16 := Aside0.mk c16
                  clear c16
                  obtain ⟨y165, hy165⟩ : ∃ y_ : List Int, y_ = (x6_1 ++ [rd l0_2 x7_1]) := ⟨_, rfl⟩
                  replace H : (miradorref14_Part.l0 k1 y165 (wrap64 (x7_1 + 1)) a0_0 a0_1 l0_2 a1_0 a1_1 a1_2 a1_3) = some (r1, r2) := by first | (rw [hy165]; with_reducible exact H) | (have H2_ := (Option.bind_some _ _).symm.trans H; rw [hy165]; with_reducible exact H2_) | (have H2_ := (Option.bind_some _ _).symm.trans H; with_reducible exact H2_) | with_reducible exact H | (rw [hy165]; exact H) | exact H
                  have Ny165 := Aside0.mk hy165
                  clear hy165
                  have H' := Aside0.mk H
                  clear H
                  have hnb17 := NB160_161.out
                  have hnc17 := NB161_160.out
                  have hcz18_0 : wr.cell? ⟨gb160, 0, none⟩ = some (.int .i64 a0_0) := (blk_cell BK160.out 0).trans rfl
                  have hcz18_1 : wr.cell? ⟨gb160, 1, none⟩ = some (.int .i64 a0_1) := (blk_cell BK160.out 1).trans rfl
                  have hcz18_2 : wr.cell? ⟨gb160, 2, none⟩ = some (.slice A0_2 l0_2.length c0_2) := (blk_cell BK160.out 2).trans rfl
                  have hfz18_0 := blk_frozen BK160.out 0
                  have hfz18_1 := blk_frozen BK160.out 1
                  have hfz18_2 := blk_frozen BK160.out 2
                  try go_wp2
                  have n0_ := Aside0.mk (Kd.R_drew HO_6.out)
                  have n1_ := Aside0.mk (blk_drew BK160.out)
                  have n2_ := Aside0.mk (blk_drew BK161.out)
                  have n3_ := Aside0.mk (below_drew1 HB.out)
                  clear HO_6
                  clear BK160
                  clear BK161
                  clear HB
                  have HO_6 := n0_
                  have BK160 := n1_
                  have BK161 := n2_
                  have HB := n3_
                  clear n0_ n1_ n2_ n3_
                  refine start_ (n := 10) (S := fun w' => w'.cell? ⟨gb161, 0, none⟩ = some (.int .i64 a1_0) ∧ w'.cell? ⟨gb161, 1, none⟩ = some (.int .i64 a1_1) ∧ w'.cell? ⟨gb161, 2, none⟩ = some (.int .i64 a1_2) ∧ w'.cell? ⟨gb161, 3, none⟩ = some (.int .i64 a1_3) ∧ w'.cell? ⟨gb160, 0, none⟩ = some (.int .i64 a0_0) ∧ w'.cell? ⟨gb160, 1, none⟩ = some (.int .i64 a0_1) ∧ w'.cell? ⟨gb160, 2, none⟩ = some (.slice A0_2 l0_2.length c0_2)) (ds := []) #[false, false, false, false, false, false, false, false, false, false] (by kernel_rfl) rfl rfl ⟨(blk_cell BK161.out 0).trans rfl, (blk_cell BK161.out 1).trans rfl, (blk_cell BK161.out 2).trans rfl, (blk_cell BK161.out 3).trans rfl, (blk_cell BK160.out 0).trans rfl, (blk_cell BK160.out 1).trans rfl, (blk_cell BK160.out 2).trans rfl⟩ (fun hHeld => ?_); refine with_tabW miradorref14_Part.tab7 miradorref14_Part.bits7 (fun HT_ HW_ => ?_)
                  generalize wr.drew = w19 at HO_6 BK160 BK161 HB hHeld ⊢
                  refine pure_ (i := 1) (N := some 23) (v := ?_) (a' := ?_) #[false, true, false, false, false, false, false, false, false, false] rfl rfl (any_of HT_.out (by kernel_rfl)) (fun _ _ _ h => h) (Or.inl ⟨by rfl, ?_⟩) ?_ ?_
                  rotate_left
                  · intro w'
                    go_simp
                    with_reducible rfl
                  rotate_left
                  · simp only [Act.put, List.setIfInBounds_toArray, List.set_cons_zero, List.set_cons_succ, i64_w, i32_w]
                    rfl
                  refine pure_ (i := 2) (N := some 24) (v := ?_) (a' := ?_) #[false, true, true, false, false, false, false, false, false, false] rfl rfl (any_of HT_.out (by kernel_rfl)) (fun _ _ _ h => h) (Or.inl ⟨by rfl, ?_⟩) ?_ ?_
                  rotate_left
                  · intro w'
                    go_simp
                    with_reducible rfl
                  rotate_left
                  · simp only [Act.put, List.setIfInBounds_toArray, List.set_cons_zero, List.set_cons_succ, i64_w, i32_w]
                    rfl
                  refine pure_ (i := 5) (N := some 27) (v := ?_) (a' := ?_) #[false, true, true, false, false, true, false, false, false, false] rfl rfl (any_of HT_.out (by kernel_rfl)) (fun _ _ _ h => h) (Or.inl ⟨by rfl, ?_⟩) ?_ ?_
                  rotate_left
                  · intro w'
                    go_simp
                    with_reducible rfl
                  rotate_left
                  · simp only [Act.put, List.setIfInBounds_toArray, List.set_cons_zero, List.set_cons_succ, i64_w, i32_w]
                    rfl
                  refine pure_ (i := 6) (N := some 28) (v := ?_) (a' := ?_) #[false, true, true, false, false, true, true, false, false, false] rfl rfl (any_of HT_.out (by kernel_rfl)) (fun _ _ _ h => h) (Or.inl ⟨by rfl, ?_⟩) ?_ ?_
                  rotate_left
                  · intro w'
                    go_simp
                    with_reducible rfl
                  rotate_left
                  · simp only [Act.put, List.setIfInBounds_toArray, List.set_cons_zero, List.set_cons_succ, i64_w, i32_w]
                    rfl
                  refine take_ (i := 0) (N := some 22) (v := ?_) (a' := ?_) #[true, true, true, false, false, true, true, false, false, false] rfl rfl (take_ofW HT_.out HW_.out (by kernel_rfl)) (fun _ _ _ h => h) (Or.inl ⟨by rfl, ?_⟩) hHeld ?_ ?_
                  rotate_left
                  · rintro w' ⟨s0, s1, s2, s3, s4, s5, s6⟩
                    go_simp
                    with_reducible rfl
                  rotate_left
                  · simp only [Act.put, List.setIfInBounds_toArray, List.set_cons_zero, List.set_cons_succ, i64_w, i32_w]
                    rfl
                  refine take_ (i := 3) (N := some 25) (v := ?_) (a' := ?_) #[true, true, true, true, false, true, true, false, false, false] rfl rfl (take_ofW HT_.out HW_.out (by kernel_rfl)) (fun _ _ _ h => h) (Or.inl ⟨by rfl, ?_⟩) hHeld ?_ ?_
                  rotate_left
                  · rintro w' ⟨s0, s1, s2, s3, s4, s5, s6⟩
                    go_simp
                    with_reducible rfl
                  rotate_left
                  · simp only [Act.put, List.setIfInBounds_toArray, List.set_cons_zero, List.set_cons_succ, i64_w, i32_w]
                    rfl
                  refine pure_ (i := 4) (N := some 26) (v := ?_) (a' := ?_) #[true, true, true, true, true, true, true, false, false, false] rfl rfl (any_of HT_.out (by kernel_rfl)) (fun _ _ _ h => h) (Or.inl ⟨by rfl, ?_⟩) ?_ ?_
                  rotate_left
                  · intro w'
                    go_simp
                    with_reducible rfl
                  rotate_left
                  · simp only [Act.put, List.setIfInBounds_toArray, List.set_cons_zero, List.set_cons_succ, i64_w, i32_w]
                    rfl
                  refine take_ (i := 7) (N := some 29) (v := ?_) (a' := ?_) #[true, true, true, true, true, true, true, true, false, false] rfl rfl (take_ofW HT_.out HW_.out (by kernel_rfl)) (fun _ _ _ h => h) (Or.inl ⟨by rfl, ?_⟩) hHeld ?_ ?_
                  rotate_left
                  · rintro w' ⟨s0, s1, s2, s3, s4, s5, s6⟩
                    go_simp
                    with_reducible rfl
                  rotate_left
                  · simp only [Act.put, List.setIfInBounds_toArray, List.set_cons_zero, List.set_cons_succ, i64_w, i32_w]
                    rfl
                  refine pure_ (i := 8) (N := some 30) (v := ?_) (a' := ?_) #[true, true, true, true, true, true, true, true, true, false] rfl rfl (any_of HT_.out (by kernel_rfl)) (fun _ _ _ h => h) (Or.inl ⟨by rfl, ?_⟩) ?_ ?_
                  rotate_left
                  · intro w'
                    go_simp
                    with_reducible rfl
                  rotate_left
                  · simp only [Act.put, List.setIfInBounds_toArray, List.set_cons_zero, List.set_cons_succ, i64_w, i32_w]
                    rfl
                  refine one_ (i := 9) (N := some 31) #[true, true, true, true, true, true, true, true, true, true] rfl rfl (one_of HT_.out (by kernel_rfl)) (by decide) (fun K hK => ?_)
                  refine goes_ Try.func19 (by kernel_rfl) rfl #[.agg #[.int .i64 a1_0, .int .i64 a1_1, .int .i64 a1_2, .int .i64 a1_3], .int .i64 (Int.tmod x7_1 a0_0), .int .i64 (wrap64 (Int.tdiv x7_1 a0_0))] (by rfl) rfl rfl (by (try simp only [List.map_toArray, List.map_cons, List.map_nil]); first | done | rfl | (simp only [List.length_drop, List.length_take]; rfl)) ?_
                  with_reducible refine (miradorref14_In.calls a1_0 a1_1 a1_2 a1_3 (Int.tmod x7_1 a0_0) (wrap64 (Int.tdiv x7_1 a0_0)) true _ A13.out).mono ?_
                  rintro e w20 ⟨rfl, hb⟩
                  refine ⟨_, rfl, ?_⟩
                  have n0_ := Aside0.mk (Kd.R_below (by (with_reducible repeat (first | apply Kd.R_alloc | apply Kd.R_drewN | apply Kd.R_drew)); exact HO_6.out) hb)
                  have n1_ := Aside0.mk (blk_below (g := gb160) (o := .cells #[.int .i64 a0_0, .int .i64 a0_1, .slice A0_2 l0_2.length c0_2] 33 (0, 0)) (by (with_reducible repeat (first | refine blk_drewN ?_ _ | refine blk_drew ?_ | refine blk_alloc ?_ _)); exact BK160.out) hb)
                  have n2_ := Aside0.mk (blk_below (g := gb161) (o := .cells #[.int .i64 a1_0, .int .i64 a1_1, .int .i64 a1_2, .int .i64 a1_3] 30 (0, 0)) (by (with_reducible repeat (first | refine blk_drewN ?_ _ | refine blk_drew ?_ | refine blk_alloc ?_ _)); exact BK161.out) hb)
                  have n3_ := Aside0.mk (below_step (by repeat (first | (with_reducible first | exact HB.out | apply below_alloc | apply pw_below_drewN | apply below_drew1 | refine below_set ?_ GE160.out | refine below_set ?_ GE161.out) | exact HB.out)) hb)
                  clear HO_6
                  clear BK160
                  clear BK161
                  clear HB
                  have HO_6 := n0_
                  have BK160 := n1_
                  have BK161 := n2_
                  have HB := n3_
                  clear n0_ n1_ n2_ n3_
                  (try clear hb)
                  (try clear hb2)
                  (try clear hk)
                  (try clear hi)
                  refine hK.out _ _ ⟨(blk_cell BK161.out 0).trans rfl, (blk_cell BK161.out 1).trans rfl, (blk_cell BK161.out 2).trans rfl, (blk_cell BK161.out 3).trans rfl, (blk_cell BK160.out 0).trans rfl, (blk_cell BK160.out 1).trans rfl, (blk_cell BK160.out 2).trans rfl⟩ (fun hHeld => ?_)
                  clear hK K
                  refine norm_ (a' := ?_) ?_ ?_
                  rotate_left
                  · show Act.put _ (some 31) _ = _
                    simp only [Act.put, List.setIfInBounds_toArray, List.set_cons_zero, List.set_cons_succ, i64_w, i32_w]
                    rfl
                  refine done_ (done_of HT_.out (by kernel_rfl)) ?_
                  have hcz21_0 : w20.cell? ⟨gb160, 0, none⟩ = some (.int .i64 a0_0) := (blk_cell BK160.out 0).trans rfl
                  have hcz21_1 : w20.cell? ⟨gb160, 1, none⟩ = some (.int .i64 a0_1) := (blk_cell BK160.out 1).trans rfl
                  have hcz21_2 : w20.cell? ⟨gb160, 2, none⟩ = some (.slice A0_2 l0_2.length c0_2) := (blk_cell BK160.out 2).trans rfl
                  have hfz21_0 := blk_frozen BK160.out 0
                  have hfz21_1 := blk_frozen BK160.out 1
                  have hfz21_2 := blk_frozen BK160.out 2
                  have p164 : 0 ≤ (x7_1 : Int) := of_decide_eq_true (by first | (with_reducible assumption) | assumption)
                  have q164 : x7_1 < (l0_2.length : Int) := of_decide_eq_true (by first | (with_reducible assumption) | assumption)
                  obtain ⟨ad164, e164, hx164_0⟩ := Kd.at_int HR0_2.out x7_1 p164 q164
                  cases e164
                  replace hx164_0 := (HB.out.cell (World.block_lt_of_cell? w _ hx164_0)).trans hx164_0
                  replace p164 := eq_true p164
                  replace q164 := eq_true q164
                  try go_wp2_with (first | ((with_reducible refine gate_builtin (b := .append) (xs := #[.tmp 32, .tmp 38]) rfl ?_); at_builtin; refine Kd.R_append (Kd.int .i64) (w0 := w) w.heap.size rfl (.tmp 32) (.tmp 38) 22 3 (.int .i64 0) 8 rfl Try.underlying22 info3 rfl (by decide) (by omega) u6 x6_1 (rd l0_2 x7_1) [.int .i64 (rd l0_2 x7_1)] (fun _ => True) (fun _ => False) rfl rfl ?aP (fun _ hk => hk.elim) ?aF ?aO ?aB ?aS ?aL ?_; (case aP => exact rfl); (case aB => exact (by repeat (first | (with_reducible first | exact HB.out | apply below_alloc | apply pw_below_drewN | apply below_drew1 | refine below_set ?_ GE160.out | refine below_set ?_ GE161.out) | exact HB.out))); (case aF => exact (fun _ _ => trivial)); (case aO => exact (by (with_reducible repeat (first | apply Kd.R_alloc | apply Kd.R_drewN | apply Kd.R_drew)); exact HO_6.out)); (case aS => exact (below_size (by repeat (first | (with_reducible first | exact HB.out | apply below_alloc | apply pw_below_drewN | apply below_drew1 | refine below_set ?_ GE160.out | refine below_set ?_ GE161.out) | exact HB.out)))); (case aL => have := LMc16.out; omega); intro v166 w22 ho hb hg hat; rw [← Ny165.out] at ho; have n0_ := Aside0.mk (blk_grown (g := gb160) (o := .cells #[.int .i64 a0_0, .int .i64 a0_1, .slice (some ad164) l0_2.length c0_2] 33 (0, 0)) (by (with_reducible repeat (first | refine blk_drewN ?_ _ | refine blk_drew ?_ | refine blk_alloc ?_ _)); exact BK160.out) hg (Kd.R_ne HO_6.out BK160.out (by decide))); have n1_ := Aside0.mk (blk_grown (g := gb161) (o := .cells #[.int .i64 a1_0, .int .i64 a1_1, .int .i64 a1_2, .int .i64 a1_3] 30 (0, 0)) (by (with_reducible repeat (first | refine blk_drewN ?_ _ | refine blk_drew ?_ | refine blk_alloc ?_ _)); exact BK161.out) hg (Kd.R_ne HO_6.out BK161.out (by decide))); have n2_ := Aside0.mk (hb); have n3_ := Aside0.mk (ho); clear BK160; clear BK161; clear HB; clear HO_6; have BK160 := n0_; have BK161 := n1_; have HB := n2_; have HO167 := n3_; clear n0_ n1_ n2_ n3_; clear ho hb hg hat))
                  go_roundg k1
                  case measure => have := HK1.out; omega
                  case rel => exact ⟨(y165), (wrap64 (x7_1 + 1)), (by first | rfl | (simp; done) | (simp [*]; done)), H', ⟨by have := HK1.out; omega⟩, ⟨by (with_reducible repeat (first | apply Kd.R_alloc | apply Kd.R_drewN | apply Kd.R_drew)); exact HO167.out⟩, ⟨by (with_reducible repeat (first | refine blk_drewN ?_ _ | refine blk_drew ?_ | refine blk_alloc ?_ _)); exact BK160.out⟩, ⟨by (with_reducible repeat (first | refine blk_drewN ?_ _ | refine blk_drew ?_ | refine blk_alloc ?_ _)); exact BK161.out⟩, ⟨by repeat (first | (with_reducible first | exact HB.out | apply below_alloc | apply pw_below_drewN | apply below_drew1 | refine below_set ?_ GE160.out | refine below_set ?_ GE161.out) | exact HB.out)⟩⟩
                · rw [if_neg c16] at H
                  exact absurd H (by simp)
              · rw [if_neg c15] at H
                exact absurd H (by simp)
            · replace c14 := Bool.eq_false_iff.mpr c14
              subst c14
              have H1 : (miradorref14_Part.l0 k1 x6_1 (wrap64 (x7_1 + 1)) a0_0 a0_1 l0_2 a1_0 a1_1 a1_2 a1_3) = some (r1, r2) := by rw [if_neg (show ¬ (false = true) by decide)] at H; exact H
              clear H
              have H := H1
              clear H1
              have H' := Aside0.mk H
              clear H
              have hnb23 := NB160_161.out
              have hnc23 := NB161_160.out
              have hcz24_0 : wr.cell? ⟨gb160, 0, none⟩ = some (.int .i64 a0_0) := (blk_cell BK160.out 0).trans rfl
              have hcz24_1 : wr.cell? ⟨gb160, 1, none⟩ = some (.int .i64 a0_1) := (blk_cell BK160.out 1).trans rfl
              have hcz24_2 : wr.cell? ⟨gb160, 2, none⟩ = some (.slice A0_2 l0_2.length c0_2) := (blk_cell BK160.out 2).trans rfl
              have hfz24_0 := blk_frozen BK160.out 0
              have hfz24_1 := blk_frozen BK160.out 1
              have hfz24_2 := blk_frozen BK160.out 2
              try go_wp2
              have n0_ := Aside0.mk (Kd.R_drew HO_6.out)
              have n1_ := Aside0.mk (blk_drew BK160.out)
              have n2_ := Aside0.mk (blk_drew BK161.out)
              have n3_ := Aside0.mk (below_drew1 HB.out)
              clear HO_6
              clear BK160
              clear BK161
              clear HB
              have HO_6 := n0_
              have BK160 := n1_
              have BK161 := n2_
              have HB := n3_
              clear n0_ n1_ n2_ n3_
              refine start_ (n := 10) (S := fun w' => w'.cell? ⟨gb161, 0, none⟩ = some (.int .i64 a1_0) ∧ w'.cell? ⟨gb161, 1, none⟩ = some (.int .i64 a1_1) ∧ w'.cell? ⟨gb161, 2, none⟩ = some (.int .i64 a1_2) ∧ w'.cell? ⟨gb161, 3, none⟩ = some (.int .i64 a1_3) ∧ w'.cell? ⟨gb160, 0, none⟩ = some (.int .i64 a0_0) ∧ w'.cell? ⟨gb160, 1, none⟩ = some (.int .i64 a0_1) ∧ w'.cell? ⟨gb160, 2, none⟩ = some (.slice A0_2 l0_2.length c0_2)) (ds := []) #[false, false, false, false, false, false, false, false, false, false] (by kernel_rfl) rfl rfl ⟨(blk_cell BK161.out 0).trans rfl, (blk_cell BK161.out 1).trans rfl, (blk_cell BK161.out 2).trans rfl, (blk_cell BK161.out 3).trans rfl, (blk_cell BK160.out 0).trans rfl, (blk_cell BK160.out 1).trans rfl, (blk_cell BK160.out 2).trans rfl⟩ (fun hHeld => ?_); refine with_tabW miradorref14_Part.tab7 miradorref14_Part.bits7 (fun HT_ HW_ => ?_)
              generalize wr.drew = w25 at HO_6 BK160 BK161 HB hHeld ⊢
              refine pure_ (i := 1) (N := some 23) (v := ?_) (a' := ?_) #[false, true, false, false, false, false, false, false, false, false] rfl rfl (any_of HT_.out (by kernel_rfl)) (fun _ _ _ h => h) (Or.inl ⟨by rfl, ?_⟩) ?_ ?_
              rotate_left
              · intro w'
                go_simp
                with_reducible rfl
              rotate_left
              · simp only [Act.put, List.setIfInBounds_toArray, List.set_cons_zero, List.set_cons_succ, i64_w, i32_w]
                rfl
              refine pure_ (i := 2) (N := some 24) (v := ?_) (a' := ?_) #[false, true, true, false, false, false, false, false, false, false] rfl rfl (any_of HT_.out (by kernel_rfl)) (fun _ _ _ h => h) (Or.inl ⟨by rfl, ?_⟩) ?_ ?_
              rotate_left
              · intro w'
                go_simp
                with_reducible rfl
              rotate_left
              · simp only [Act.put, List.setIfInBounds_toArray, List.set_cons_zero, List.set_cons_succ, i64_w, i32_w]
                rfl
              refine pure_ (i := 5) (N := some 27) (v := ?_) (a' := ?_) #[false, true, true, false, false, true, false, false, false, false] rfl rfl (any_of HT_.out (by kernel_rfl)) (fun _ _ _ h => h) (Or.inl ⟨by rfl, ?_⟩) ?_ ?_
              rotate_left
              · intro w'
                go_simp
                with_reducible rfl
              rotate_left
              · simp only [Act.put, List.setIfInBounds_toArray, List.set_cons_zero, List.set_cons_succ, i64_w, i32_w]
                rfl
              refine pure_ (i := 6) (N := some 28) (v := ?_) (a' := ?_) #[false, true, true, false, false, true, true, false, false, false] rfl rfl (any_of HT_.out (by kernel_rfl)) (fun _ _ _ h => h) (Or.inl ⟨by rfl, ?_⟩) ?_ ?_
              rotate_left
              · intro w'
                go_simp
                with_reducible rfl
              rotate_left
              · simp only [Act.put, List.setIfInBounds_toArray, List.set_cons_zero, List.set_cons_succ, i64_w, i32_w]
                rfl
              refine take_ (i := 0) (N := some 22) (v := ?_) (a' := ?_) #[true, true, true, false, false, true, true, false, false, false] rfl rfl (take_ofW HT_.out HW_.out (by kernel_rfl)) (fun _ _ _ h => h) (Or.inl ⟨by rfl, ?_⟩) hHeld ?_ ?_
              rotate_left
              · rintro w' ⟨s0, s1, s2, s3, s4, s5, s6⟩
                go_simp
                with_reducible rfl
              rotate_left
              · simp only [Act.put, List.setIfInBounds_toArray, List.set_cons_zero, List.set_cons_succ, i64_w, i32_w]
                rfl
              refine take_ (i := 3) (N := some 25) (v := ?_) (a' := ?_) #[true, true, true, true, false, true, true, false, false, false] rfl rfl (take_ofW HT_.out HW_.out (by kernel_rfl)) (fun _ _ _ h => h) (Or.inl ⟨by rfl, ?_⟩) hHeld ?_ ?_
              rotate_left
              · rintro w' ⟨s0, s1, s2, s3, s4, s5, s6⟩
                go_simp
                with_reducible rfl
              rotate_left
              · simp only [Act.put, List.setIfInBounds_toArray, List.set_cons_zero, List.set_cons_succ, i64_w, i32_w]
                rfl
              refine pure_ (i := 4) (N := some 26) (v := ?_) (a' := ?_) #[true, true, true, true, true, true, true, false, false, false] rfl rfl (any_of HT_.out (by kernel_rfl)) (fun _ _ _ h => h) (Or.inl ⟨by rfl, ?_⟩) ?_ ?_
              rotate_left
              · intro w'
                go_simp
                with_reducible rfl
              rotate_left
              · simp only [Act.put, List.setIfInBounds_toArray, List.set_cons_zero, List.set_cons_succ, i64_w, i32_w]
                rfl
              refine take_ (i := 7) (N := some 29) (v := ?_) (a' := ?_) #[true, true, true, true, true, true, true, true, false, false] rfl rfl (take_ofW HT_.out HW_.out (by kernel_rfl)) (fun _ _ _ h => h) (Or.inl ⟨by rfl, ?_⟩) hHeld ?_ ?_
              rotate_left
              · rintro w' ⟨s0, s1, s2, s3, s4, s5, s6⟩
                go_simp
                with_reducible rfl
              rotate_left
              · simp only [Act.put, List.setIfInBounds_toArray, List.set_cons_zero, List.set_cons_succ, i64_w, i32_w]
                rfl
              refine pure_ (i := 8) (N := some 30) (v := ?_) (a' := ?_) #[true, true, true, true, true, true, true, true, true, false] rfl rfl (any_of HT_.out (by kernel_rfl)) (fun _ _ _ h => h) (Or.inl ⟨by rfl, ?_⟩) ?_ ?_
              rotate_left
              · intro w'
                go_simp
                with_reducible rfl
              rotate_left
              · simp only [Act.put, List.setIfInBounds_toArray, List.set_cons_zero, List.set_cons_succ, i64_w, i32_w]
                rfl
              refine one_ (i := 9) (N := some 31) #[true, true, true, true, true, true, true, true, true, true] rfl rfl (one_of HT_.out (by kernel_rfl)) (by decide) (fun K hK => ?_)
              refine goes_ Try.func19 (by kernel_rfl) rfl #[.agg #[.int .i64 a1_0, .int .i64 a1_1, .int .i64 a1_2, .int .i64 a1_3], .int .i64 (Int.tmod x7_1 a0_0), .int .i64 (wrap64 (Int.tdiv x7_1 a0_0))] (by rfl) rfl rfl (by (try simp only [List.map_toArray, List.map_cons, List.map_nil]); first | done | rfl | (simp only [List.length_drop, List.length_take]; rfl)) ?_
              with_reducible refine (miradorref14_In.calls a1_0 a1_1 a1_2 a1_3 (Int.tmod x7_1 a0_0) (wrap64 (Int.tdiv x7_1 a0_0)) false _ A13.out).mono ?_
              rintro e w26 ⟨rfl, hb⟩
              refine ⟨_, rfl, ?_⟩
              have n0_ := Aside0.mk (Kd.R_below (by (with_reducible repeat (first | apply Kd.R_alloc | apply Kd.R_drewN | apply Kd.R_drew)); exact HO_6.out) hb)
              have n1_ := Aside0.mk (blk_below (g := gb160) (o := .cells #[.int .i64 a0_0, .int .i64 a0_1, .slice A0_2 l0_2.length c0_2] 33 (0, 0)) (by (with_reducible repeat (first | refine blk_drewN ?_ _ | refine blk_drew ?_ | refine blk_alloc ?_ _)); exact BK160.out) hb)
              have n2_ := Aside0.mk (blk_below (g := gb161) (o := .cells #[.int .i64 a1_0, .int .i64 a1_1, .int .i64 a1_2, .int .i64 a1_3] 30 (0, 0)) (by (with_reducible repeat (first | refine blk_drewN ?_ _ | refine blk_drew ?_ | refine blk_alloc ?_ _)); exact BK161.out) hb)
              have n3_ := Aside0.mk (below_step (by repeat (first | (with_reducible first | exact HB.out | apply below_alloc | apply pw_below_drewN | apply below_drew1 | refine below_set ?_ GE160.out | refine below_set ?_ GE161.out) | exact HB.out)) hb)
              clear HO_6
              clear BK160
              clear BK161
              clear HB
              have HO_6 := n0_
              have BK160 := n1_
              have BK161 := n2_
              have HB := n3_
              clear n0_ n1_ n2_ n3_
              (try clear hb)
              (try clear hb2)
              (try clear hk)
              (try clear hi)
              refine hK.out _ _ ⟨(blk_cell BK161.out 0).trans rfl, (blk_cell BK161.out 1).trans rfl, (blk_cell BK161.out 2).trans rfl, (blk_cell BK161.out 3).trans rfl, (blk_cell BK160.out 0).trans rfl, (blk_cell BK160.out 1).trans rfl, (blk_cell BK160.out 2).trans rfl⟩ (fun hHeld => ?_)
              clear hK K
              refine norm_ (a' := ?_) ?_ ?_
              rotate_left
              · show Act.put _ (some 31) _ = _
                simp only [Act.put, List.setIfInBounds_toArray, List.set_cons_zero, List.set_cons_succ, i64_w, i32_w]
                rfl
              refine done_ (done_of HT_.out (by kernel_rfl)) ?_
              try go_wp2
              go_roundg k1
              case measure => have := HK1.out; omega
              case rel => exact ⟨(x6_1), (wrap64 (x7_1 + 1)), (by first | rfl | (simp; done) | (simp [*]; done)), H', ⟨by have := HK1.out; omega⟩, ⟨by (with_reducible repeat (first | apply Kd.R_alloc | apply Kd.R_drewN | apply Kd.R_drew)); exact HO_6.out⟩, ⟨by (with_reducible repeat (first | refine blk_drewN ?_ _ | refine blk_drew ?_ | refine blk_alloc ?_ _)); exact BK160.out⟩, ⟨by (with_reducible repeat (first | refine blk_drewN ?_ _ | refine blk_drew ?_ | refine blk_alloc ?_ _)); exact BK161.out⟩, ⟨by repeat (first | (with_reducible first | exact HB.out | apply below_alloc | apply pw_below_drewN | apply below_drew1 | refine below_set ?_ GE160.out | refine below_set ?_ GE161.out) | exact HB.out)⟩⟩
        · rw [if_neg c11] at H
          have c11b0 : decide (x7_1 < (l0_2.length : Int)) = false := decide_eq_false c11
          clear c11
          simp only [Option.some.injEq, Prod.mk.injEq] at H
          obtain ⟨rfl, rfl⟩ := H
          have hnb27 := NB160_161.out
          have hnc27 := NB161_160.out
          have hcz28_0 : wr.cell? ⟨gb160, 0, none⟩ = some (.int .i64 a0_0) := (blk_cell BK160.out 0).trans rfl
          have hcz28_1 : wr.cell? ⟨gb160, 1, none⟩ = some (.int .i64 a0_1) := (blk_cell BK160.out 1).trans rfl
          have hcz28_2 : wr.cell? ⟨gb160, 2, none⟩ = some (.slice A0_2 l0_2.length c0_2) := (blk_cell BK160.out 2).trans rfl
          have hfz28_0 := blk_frozen BK160.out 0
          have hfz28_1 := blk_frozen BK160.out 1
          have hfz28_2 := blk_frozen BK160.out 2
          go_wp2
          go_ret2
          exact ⟨_, by first | rfl | (simp [errW_none, errW_some] <;> rfl) | (simp [*, errW_none, errW_some] <;> rfl), by (with_reducible repeat (first | apply Kd.R_alloc | apply Kd.R_drewN | apply Kd.R_drew)); exact HO_6.out, by repeat (first | (with_reducible first | exact HB.out | apply below_alloc | apply pw_below_drewN | apply below_drew1 | refine below_set ?_ GE160.out | refine below_set ?_ GE161.out) | exact HB.out)⟩
  · replace c4 := Bool.eq_false_iff.mpr c4
    subst c4
    have H1 : (some (([] : List Int), 140)) = some (r1, r2) := by rw [if_neg (show ¬ (false = true) by decide)] at H; exact H
    clear H
    have H := H1
    clear H1
    simp only [Option.some.injEq, Prod.mk.injEq] at H
    obtain ⟨rfl, rfl⟩ := H
    go_enter Try.func28, Try.ntmps28
    go_wp2_with (first | ((with_reducible refine gate_dst (N := 2) rfl ?_); refine box_event ?hg (N := 2) ?hd (cs := #[.int .i64 a0_0, .int .i64 a0_1, .slice A0_2 l0_2.length c0_2]) (t := 33) ?hr ?_; (case hd => rfl); (case hg => rfl); (case hr => first | (go_simp; done) | (go_simp; rfl)); intro gb160 hg w29 hbox hb; have n0_ := Aside0.mk (below_step (by repeat (first | (with_reducible first | exact HB.out | apply below_alloc | apply pw_below_drewN | apply below_drew1) | exact HB.out)) hb); have n1_ := Aside0.mk (hbox); have n2_ := Aside0.mk ((by rw [hg]; exact (below_size (by repeat (first | (with_reducible first | exact HB.out | apply below_alloc | apply pw_below_drewN | apply below_drew1) | exact HB.out))) : w.heap.size ≤ gb160)); have n3_ := Aside0.mk ((by rw [hg]; exact (below_size (by repeat (first | (with_reducible first | exact HB.out | apply below_alloc | apply pw_below_drewN | apply below_drew1) | exact HB.out))) : w.heap.size ≤ gb160)); clear HB; have HB := n0_; have BK160 := n1_; have GW160 := n2_; have GE160 := n3_; clear n0_ n1_ n2_ n3_; clear hb hbox hg) | ((with_reducible refine gate_dst (N := 3) rfl ?_); refine box_event ?hg (N := 3) ?hd (cs := #[.int .i64 a1_0, .int .i64 a1_1, .int .i64 a1_2, .int .i64 a1_3]) (t := 30) ?hr ?_; (case hd => rfl); (case hg => rfl); (case hr => first | (go_simp; done) | (go_simp; rfl)); intro gb161 hg w30 hbox hb; have n0_ := Aside0.mk (blk_below (g := gb160) (o := .cells #[.int .i64 a0_0, .int .i64 a0_1, .slice A0_2 l0_2.length c0_2] 33 (0, 0)) (by (with_reducible repeat (first | refine blk_drewN ?_ _ | refine blk_drew ?_ | refine blk_alloc ?_ _)); exact BK160.out) hb); have n1_ := Aside0.mk (below_step (by repeat (first | (with_reducible first | exact HB.out | apply below_alloc | apply pw_below_drewN | apply below_drew1 | refine below_set ?_ GE160.out) | exact HB.out)) hb); have n2_ := Aside0.mk (hbox); have n3_ := Aside0.mk ((by rw [hg]; exact (below_size (by repeat (first | (with_reducible first | exact HB.out | apply below_alloc | apply pw_below_drewN | apply below_drew1 | refine below_set ?_ GE160.out) | exact HB.out))) : w.heap.size ≤ gb161)); have n4_ := Aside0.mk ((by rw [hg]; exact (below_size (by repeat (first | (with_reducible first | exact HB.out | apply below_alloc | apply pw_below_drewN | apply below_drew1 | refine below_set ?_ GE160.out) | exact HB.out))) : w.heap.size ≤ gb161)); have n5_ := Aside0.mk ((by rw [hg]; exact Nat.ne_of_lt (blk_lt (g := gb160) (o := .cells #[.int .i64 a0_0, .int .i64 a0_1, .slice A0_2 l0_2.length c0_2] 33 (0, 0)) (by (with_reducible repeat (first | refine blk_drewN ?_ _ | refine blk_drew ?_ | refine blk_alloc ?_ _)); exact BK160.out)) : gb160 ≠ gb161)); have n6_ := Aside0.mk ((by rw [hg]; exact Nat.ne_of_gt (blk_lt (g := gb160) (o := .cells #[.int .i64 a0_0, .int .i64 a0_1, .slice A0_2 l0_2.length c0_2] 33 (0, 0)) (by (with_reducible repeat (first | refine blk_drewN ?_ _ | refine blk_drew ?_ | refine blk_alloc ?_ _)); exact BK160.out)) : gb161 ≠ gb160)); clear BK160; clear HB; have BK160 := n0_; have HB := n1_; have BK161 := n2_; have GW161 := n3_; have GE161 := n4_; have NB160_161 := n5_; have NB161_160 := n6_; clear n0_ n1_ n2_ n3_ n4_ n5_ n6_; clear hb hbox hg; have hnb31 := NB161_160.out; have hnc31 := NB160_161.out; have hcz32_0 : w30.cell? ⟨gb161, 0, none⟩ = some (.int .i64 a1_0) := (blk_cell BK161.out 0).trans rfl; have hcz32_1 : w30.cell? ⟨gb161, 1, none⟩ = some (.int .i64 a1_1) := (blk_cell BK161.out 1).trans rfl; have hcz32_2 : w30.cell? ⟨gb161, 2, none⟩ = some (.int .i64 a1_2) := (blk_cell BK161.out 2).trans rfl; have hcz32_3 : w30.cell? ⟨gb161, 3, none⟩ = some (.int .i64 a1_3) := (blk_cell BK161.out 3).trans rfl; have hfz32_0 := blk_frozen BK161.out 0; have hfz32_1 := blk_frozen BK161.out 1; have hfz32_2 := blk_frozen BK161.out 2; have hfz32_3 := blk_frozen BK161.out 3; have hcz33_0 : w30.cell? ⟨gb160, 0, none⟩ = some (.int .i64 a0_0) := (blk_cell BK160.out 0).trans rfl; have hcz33_1 : w30.cell? ⟨gb160, 1, none⟩ = some (.int .i64 a0_1) := (blk_cell BK160.out 1).trans rfl; have hcz33_2 : w30.cell? ⟨gb160, 2, none⟩ = some (.slice A0_2 l0_2.length c0_2) := (blk_cell BK160.out 2).trans rfl; have hfz33_0 := blk_frozen BK160.out 0; have hfz33_1 := blk_frozen BK160.out 1; have hfz33_2 := blk_frozen BK160.out 2) | ((with_reducible refine gate_callee (f := 32) rfl ?_); refine goesL_ (some 13) rfl rfl Try.func32 (by kernel_rfl) rfl #[.agg #[.int .i64 a1_0, .int .i64 a1_1, .int .i64 a1_2, .int .i64 a1_3], .int .i64 a0_0, .int .i64 a0_1] rfl (by (try simp only [List.map_toArray, List.map_cons, List.map_nil]); first | done | rfl | (simp only [List.length_drop, List.length_take]; rfl)) ?_; (with_reducible refine (miradorref14_Inside.calls a1_0 a1_1 a1_2 a1_3 a0_0 a0_1 false _ A3.out).mono ?_); rintro e w34 ⟨rfl, hb⟩; refine ⟨_, rfl, ?_⟩; have n0_ := Aside0.mk (blk_below (g := gb160) (o := .cells #[.int .i64 a0_0, .int .i64 a0_1, .slice A0_2 l0_2.length c0_2] 33 (0, 0)) (by (with_reducible repeat (first | refine blk_drewN ?_ _ | refine blk_drew ?_ | refine blk_alloc ?_ _)); exact BK160.out) hb); have n1_ := Aside0.mk (blk_below (g := gb161) (o := .cells #[.int .i64 a1_0, .int .i64 a1_1, .int .i64 a1_2, .int .i64 a1_3] 30 (0, 0)) (by (with_reducible repeat (first | refine blk_drewN ?_ _ | refine blk_drew ?_ | refine blk_alloc ?_ _)); exact BK161.out) hb); have n2_ := Aside0.mk (below_step (by repeat (first | (with_reducible first | exact HB.out | apply below_alloc | apply pw_below_drewN | apply below_drew1 | refine below_set ?_ GE160.out | refine below_set ?_ GE161.out) | exact HB.out)) hb); clear BK160; clear BK161; clear HB; have BK160 := n0_; have BK161 := n1_; have HB := n2_; clear n0_ n1_ n2_; (try clear hb); (try clear hb2); (try clear hk); (try clear hi)))
    go_ret2
    exact ⟨_, by first | rfl | (simp [errW_none, errW_some] <;> rfl) | (simp [*, errW_none, errW_some] <;> rfl), by first | exact Kd.R_nil _ _ _ _ _ | exact Kd.N_nil _ _ _ _ _ | exact Kd.V_nil _ _ _ _ _ | exact Kd.Q_nil _ _ _ _ _ | exact Kd.S_nil _ _ _ _ _, by repeat (first | (with_reducible first | exact HB.out | apply below_alloc | apply pw_below_drewN | apply below_drew1 | refine below_set ?_ GE160.out | refine below_set ?_ GE161.out) | exact HB.out)⟩

/-! ### miradorref14_Move: function 25 -/
def miradorref14_Move.j0 : Nat → List Int → Bool → Int → Int → List Int → Int → Int → Int → Int → Int → Int → Int → Int → Option (Int × Int × List Int × Int)
  | 0, _, _, _, _, _, _, _, _, _, _, _, _, _ => none
  | k + 1, x8, x26, x169000, x169001, x169002, x170000, x170001, x170002, x170003, x171000, x171001, x171002, x171003 => if x26 = true then (some (x169000, x169001, x169002, 140)) else (if x170002 = x171002 then (if x170003 = x171003 then ((miradorref14_Blit.f k x169000 x169001 x169002 x171000 x171001 x171002 x171003 x8).bind fun bt177 => (some (bt177.1, bt177.2.1, bt177.2.2.1, bt177.2.2.2))) else (some (x169000, x169001, x169002, 1))) else (some (x169000, x169001, x169002, 1)))
def miradorref14_Move.f (k : Nat) (a0_0 : Int) (a0_1 : Int) (l0_2 : List Int) (a1_0 : Int) (a1_1 : Int) (a1_2 : Int) (a1_3 : Int) (a2_0 : Int) (a2_1 : Int) (a2_2 : Int) (a2_3 : Int) : Option (Int × Int × List Int × Int) := (miradorref14_Part.f k a0_0 a0_1 l0_2 a1_0 a1_1 a1_2 a1_3).bind fun bt172 => (if bt172.2 = 0 then ((miradorref14_Inside.f a2_0 a2_1 a2_2 a2_3 a0_0 a0_1).bind fun t176 => (miradorref14_Move.j0 k bt172.1 (!t176) a0_0 a0_1 l0_2 a1_0 a1_1 a1_2 a1_3 a2_0 a2_1 a2_2 a2_3)) else (miradorref14_Move.j0 k bt172.1 true a0_0 a0_1 l0_2 a1_0 a1_1 a1_2 a1_3 a2_0 a2_1 a2_2 a2_3))
theorem miradorref14_Move.mono_l : ∀ k, (∀ y0 y1 y2 y3 y4 y5 y6 y7 y8 y9 y10 y11 y12, LeO (miradorref14_Move.j0 k y0 y1 y2 y3 y4 y5 y6 y7 y8 y9 y10 y11 y12) (miradorref14_Move.j0 (k + 1) y0 y1 y2 y3 y4 y5 y6 y7 y8 y9 y10 y11 y12))
  | 0 => fun _ _ _ _ _ _ _ _ _ _ _ _ _ r h => by simp [miradorref14_Move.j0] at h
  | k + 1 => by
    have ih0 := miradorref14_Move.mono_l k
    · intro y0 y1 y2 y3 y4 y5 y6 y7 y8 y9 y10 y11 y12
      unfold miradorref14_Move.j0
      repeat' first
      | (with_reducible exact ih0 _ _ _ _ _ _ _ _ _ _ _ _ _)
      | (with_reducible exact miradorref14_Blit.mono _ _ _ _ _ _ _ _ _)
      | (with_reducible exact miradorref14_Part.mono _ _ _ _ _ _ _ _)
      | (with_reducible exact LeO.refl _)
      | (with_reducible exact LeO.none _)
      | (with_reducible refine LeO.ite ?_ ?_)
      | (with_reducible refine LeO.bind ?_ (fun _ => ?_))
      | exact ih0 _ _ _ _ _ _ _ _ _ _ _ _ _
      | exact miradorref14_Blit.mono _ _ _ _ _ _ _ _ _
      | exact miradorref14_Part.mono _ _ _ _ _ _ _ _
      | exact LeO.none _
      | refine LeO.ite ?_ ?_
      | refine LeO.bind ?_ (fun _ => ?_)
theorem miradorref14_Move.mono : ∀ a0 a1 a2 a3 a4 a5 a6 a7 a8 a9 a10 k, LeO (miradorref14_Move.f k a0 a1 a2 a3 a4 a5 a6 a7 a8 a9 a10) (miradorref14_Move.f (k + 1) a0 a1 a2 a3 a4 a5 a6 a7 a8 a9 a10) := by
  intro a0 a1 a2 a3 a4 a5 a6 a7 a8 a9 a10 k
  have ih0 := miradorref14_Move.mono_l k
  unfold miradorref14_Move.f
  repeat' first
      | (with_reducible exact ih0 _ _ _ _ _ _ _ _ _ _ _ _ _)
      | (with_reducible exact miradorref14_Blit.mono _ _ _ _ _ _ _ _ _)
      | (with_reducible exact miradorref14_Part.mono _ _ _ _ _ _ _ _)
      | (with_reducible exact LeO.refl _)
      | (with_reducible exact LeO.none _)
      | (with_reducible refine LeO.ite ?_ ?_)
      | (with_reducible refine LeO.bind ?_ (fun _ => ?_))
      | exact ih0 _ _ _ _ _ _ _ _ _ _ _ _ _
      | exact miradorref14_Blit.mono _ _ _ _ _ _ _ _ _
      | exact miradorref14_Part.mono _ _ _ _ _ _ _ _
      | exact LeO.none _
      | refine LeO.ite ?_ ?_
      | refine LeO.bind ?_ (fun _ => ?_)
set_option maxHeartbeats 8000000 in
set_option maxRecDepth 100000 in
theorem miradorref14_Move.calls (k : Nat) (a0_0 : Int) (a0_1 : Int) (P0_2_ : Nat → Prop) (u9000_ : Value) (l0_2 : List Int) (a1_0 : Int) (a1_1 : Int) (a1_2 : Int) (a1_3 : Int) (a2_0 : Int) (a2_1 : Int) (a2_2 : Int) (a2_3 : Int) (r1 : Int) (r2 : Int) (r3 : List Int) (r4 : Int) (w0 w : World) (hB : Below w0.heap.size w0 w) (ho0_2 : Kd.R (Kd.int .i64) 3 w w0.heap.size P0_2_ u9000_ l0_2) (h : miradorref14_Move.f k a0_0 a0_1 l0_2 a1_0 a1_1 a1_2 a1_3 a2_0 a2_1 a2_2 a2_3 = some (r1, r2, r3, r4)) :
    Calls Try.prog 25 #[.agg #[.int .i64 a0_0, .int .i64 a0_1, u9000_], .agg #[.int .i64 a1_0, .int .i64 a1_1, .int .i64 a1_2, .int .i64 a1_3], .agg #[.int .i64 a2_0, .int .i64 a2_1, .int .i64 a2_2, .int .i64 a2_3]] w fun e w' => ∃ v2_ : Value, e = .returned (.tuple #[.agg #[.int .i64 r1, .int .i64 r2, v2_], .int .i64 r4]) ∧ Kd.R (Kd.int .i64) 3 w' w0.heap.size (fun k_ => (P0_2_ k_ ∨ w.heap.size ≤ k_)) v2_ r3 ∧ Below w0.heap.size w0 w' ∧ Kept w w' (fun k_ => P0_2_ k_) := by
  have hu33 := Try.underlying33
  have hu30 := Try.underlying30
  have HO0_2 := Aside0.mk (show Kd.R (Kd.int .i64) 3 w w0.heap.size (fun k_ => (P0_2_ k_ ∨ w.heap.size ≤ k_)) u9000_ l0_2 from Kd.R_mono ho0_2 (fun k_ hk => (.inl hk)))
  have HK := Aside0.mk (Kept.refl w (fun k_ => P0_2_ k_))
  have HW0 := Aside0.mk hB.size
  have HB := Aside0.mk hB
  clear hB
  have H : ((miradorref14_Part.f k a0_0 a0_1 l0_2 a1_0 a1_1 a1_2 a1_3).bind fun bt172 => (if bt172.2 = 0 then ((miradorref14_Inside.f a2_0 a2_1 a2_2 a2_3 a0_0 a0_1).bind fun t176 => (miradorref14_Move.j0 k bt172.1 (!t176) a0_0 a0_1 l0_2 a1_0 a1_1 a1_2 a1_3 a2_0 a2_1 a2_2 a2_3)) else (miradorref14_Move.j0 k bt172.1 true a0_0 a0_1 l0_2 a1_0 a1_1 a1_2 a1_3 a2_0 a2_1 a2_2 a2_3))) = some (r1, r2, r3, r4) := h
  clear h
  replace H := Option.bind_eq_some_iff.mp H
  obtain ⟨⟨t172, t175⟩, A40, H⟩ := H
  replace H : (if t175 = 0 then ((miradorref14_Inside.f a2_0 a2_1 a2_2 a2_3 a0_0 a0_1).bind fun t176 => (miradorref14_Move.j0 k t172 (!t176) a0_0 a0_1 l0_2 a1_0 a1_1 a1_2 a1_3 a2_0 a2_1 a2_2 a2_3)) else (miradorref14_Move.j0 k t172 true a0_0 a0_1 l0_2 a1_0 a1_1 a1_2 a1_3 a2_0 a2_1 a2_2 a2_3)) = some (r1, r2, r3, r4) := H
  have A4 := Aside0.mk A40
  clear A40
  have HC5 := Aside0.mk H
  clear H
  obtain ⟨Ao6, co6, eo6⟩ := Kd.R_slice HO0_2.out
  subst eo6
  go_enter Try.func25, Try.ntmps25
  go_upto_region 2 with (first | ((with_reducible refine gate_dst (N := 3) rfl ?_); refine box_event ?hg (N := 3) ?hd (cs := #[.int .i64 a0_0, .int .i64 a0_1, .slice Ao6 l0_2.length co6]) (t := 33) ?hr ?_; (case hd => rfl); (case hg => rfl); (case hr => first | (go_simp; done) | (go_simp; rfl)); intro gb168 hg w7 hbox hb; have n0_ := Aside0.mk (Kd.R_below (by (with_reducible repeat (first | apply Kd.R_alloc | apply Kd.R_drewN | apply Kd.R_drew)); exact HO0_2.out) hb); have n1_ := Aside0.mk (Kept.below (S := (fun k_ => P0_2_ k_)) (by repeat (first | (with_reducible first | exact HK.out | apply Kept.alloc | apply Kept.drewN | apply Kept.drew) | exact HK.out)) hb); have n2_ := Aside0.mk (below_step (by repeat (first | (with_reducible first | exact HB.out | apply below_alloc | apply pw_below_drewN | apply below_drew1) | exact HB.out)) hb); have n3_ := Aside0.mk (hbox); have n4_ := Aside0.mk ((by rw [hg]; exact (by first | exact HK.out.1 | exact (show Kept w _ (fun k_ => P0_2_ k_) from by repeat (first | (with_reducible first | exact HK.out | apply Kept.alloc | apply Kept.drewN | apply Kept.drew) | exact HK.out)).1) : w.heap.size ≤ gb168)); have n5_ := Aside0.mk ((by rw [hg]; exact (below_size (by repeat (first | (with_reducible first | exact HB.out | apply below_alloc | apply pw_below_drewN | apply below_drew1) | exact HB.out))) : w0.heap.size ≤ gb168)); clear HO0_2; clear HK; clear HB; have HO0_2 := n0_; have HK := n1_; have HB := n2_; have BK168 := n3_; have GW168 := n4_; have GE168 := n5_; clear n0_ n1_ n2_ n3_ n4_ n5_; clear hb hbox hg) | ((with_reducible refine gate_dst (N := 4) rfl ?_); refine box_event ?hg (N := 4) ?hd (cs := #[.int .i64 a1_0, .int .i64 a1_1, .int .i64 a1_2, .int .i64 a1_3]) (t := 30) ?hr ?_; (case hd => rfl); (case hg => rfl); (case hr => first | (go_simp; done) | (go_simp; rfl)); intro gb169 hg w8 hbox hb; have n0_ := Aside0.mk (Kd.R_below (by (with_reducible repeat (first | apply Kd.R_alloc | apply Kd.R_drewN | apply Kd.R_drew)); exact HO0_2.out) hb); have n1_ := Aside0.mk (blk_below (g := gb168) (o := .cells #[.int .i64 a0_0, .int .i64 a0_1, .slice Ao6 l0_2.length co6] 33 (0, 0)) (by (with_reducible repeat (first | refine blk_drewN ?_ _ | refine blk_drew ?_ | refine blk_alloc ?_ _)); exact BK168.out) hb); have n2_ := Aside0.mk (Kept.below (S := (fun k_ => P0_2_ k_)) (by repeat (first | (with_reducible first | exact HK.out | apply Kept.alloc | apply Kept.drewN | apply Kept.drew | refine Kept.setCell ?_ (.inr GW168.out) _) | exact HK.out)) hb); have n3_ := Aside0.mk (below_step (by repeat (first | (with_reducible first | exact HB.out | apply below_alloc | apply pw_below_drewN | apply below_drew1 | refine below_set ?_ GE168.out) | exact HB.out)) hb); have n4_ := Aside0.mk (hbox); have n5_ := Aside0.mk ((by rw [hg]; exact (by first | exact HK.out.1 | exact (show Kept w _ (fun k_ => P0_2_ k_) from by repeat (first | (with_reducible first | exact HK.out | apply Kept.alloc | apply Kept.drewN | apply Kept.drew | refine Kept.setCell ?_ (.inr GW168.out) _) | exact HK.out)).1) : w.heap.size ≤ gb169)); have n6_ := Aside0.mk ((by rw [hg]; exact (below_size (by repeat (first | (with_reducible first | exact HB.out | apply below_alloc | apply pw_below_drewN | apply below_drew1 | refine below_set ?_ GE168.out) | exact HB.out))) : w0.heap.size ≤ gb169)); have n7_ := Aside0.mk ((by rw [hg]; exact Nat.ne_of_lt (blk_lt (g := gb168) (o := .cells #[.int .i64 a0_0, .int .i64 a0_1, .slice Ao6 l0_2.length co6] 33 (0, 0)) (by (with_reducible repeat (first | refine blk_drewN ?_ _ | refine blk_drew ?_ | refine blk_alloc ?_ _)); exact BK168.out)) : gb168 ≠ gb169)); have n8_ := Aside0.mk ((by rw [hg]; exact Nat.ne_of_gt (blk_lt (g := gb168) (o := .cells #[.int .i64 a0_0, .int .i64 a0_1, .slice Ao6 l0_2.length co6] 33 (0, 0)) (by (with_reducible repeat (first | refine blk_drewN ?_ _ | refine blk_drew ?_ | refine blk_alloc ?_ _)); exact BK168.out)) : gb169 ≠ gb168)); clear HO0_2; clear BK168; clear HK; clear HB; have HO0_2 := n0_; have BK168 := n1_; have HK := n2_; have HB := n3_; have BK169 := n4_; have GW169 := n5_; have GE169 := n6_; have NB168_169 := n7_; have NB169_168 := n8_; clear n0_ n1_ n2_ n3_ n4_ n5_ n6_ n7_ n8_; clear hb hbox hg) | ((with_reducible refine gate_dst (N := 5) rfl ?_); refine box_event ?hg (N := 5) ?hd (cs := #[.int .i64 a2_0, .int .i64 a2_1, .int .i64 a2_2, .int .i64 a2_3]) (t := 30) ?hr ?_; (case hd => rfl); (case hg => rfl); (case hr => first | (go_simp; done) | (go_simp; rfl)); intro gb170 hg w9 hbox hb; have n0_ := Aside0.mk (Kd.R_below (by (with_reducible repeat (first | apply Kd.R_alloc | apply Kd.R_drewN | apply Kd.R_drew)); exact HO0_2.out) hb); have n1_ := Aside0.mk (blk_below (g := gb168) (o := .cells #[.int .i64 a0_0, .int .i64 a0_1, .slice Ao6 l0_2.length co6] 33 (0, 0)) (by (with_reducible repeat (first | refine blk_drewN ?_ _ | refine blk_drew ?_ | refine blk_alloc ?_ _)); exact BK168.out) hb); have n2_ := Aside0.mk (blk_below (g := gb169) (o := .cells #[.int .i64 a1_0, .int .i64 a1_1, .int .i64 a1_2, .int .i64 a1_3] 30 (0, 0)) (by (with_reducible repeat (first | refine blk_drewN ?_ _ | refine blk_drew ?_ | refine blk_alloc ?_ _)); exact BK169.out) hb); have n3_ := Aside0.mk (Kept.below (S := (fun k_ => P0_2_ k_)) (by repeat (first | (with_reducible first | exact HK.out | apply Kept.alloc | apply Kept.drewN | apply Kept.drew | refine Kept.setCell ?_ (.inr GW168.out) _ | refine Kept.setCell ?_ (.inr GW169.out) _) | exact HK.out)) hb); have n4_ := Aside0.mk (below_step (by repeat (first | (with_reducible first | exact HB.out | apply below_alloc | apply pw_below_drewN | apply below_drew1 | refine below_set ?_ GE168.out | refine below_set ?_ GE169.out) | exact HB.out)) hb); have n5_ := Aside0.mk (hbox); have n6_ := Aside0.mk ((by rw [hg]; exact (by first | exact HK.out.1 | exact (show Kept w _ (fun k_ => P0_2_ k_) from by repeat (first | (with_reducible first | exact HK.out | apply Kept.alloc | apply Kept.drewN | apply Kept.drew | refine Kept.setCell ?_ (.inr GW168.out) _ | refine Kept.setCell ?_ (.inr GW169.out) _) | exact HK.out)).1) : w.heap.size ≤ gb170)); have n7_ := Aside0.mk ((by rw [hg]; exact (below_size (by repeat (first | (with_reducible first | exact HB.out | apply below_alloc | apply pw_below_drewN | apply below_drew1 | refine below_set ?_ GE168.out | refine below_set ?_ GE169.out) | exact HB.out))) : w0.heap.size ≤ gb170)); have n8_ := Aside0.mk ((by rw [hg]; exact Nat.ne_of_lt (blk_lt (g := gb168) (o := .cells #[.int .i64 a0_0, .int .i64 a0_1, .slice Ao6 l0_2.length co6] 33 (0, 0)) (by (with_reducible repeat (first | refine blk_drewN ?_ _ | refine blk_drew ?_ | refine blk_alloc ?_ _)); exact BK168.out)) : gb168 ≠ gb170)); have n9_ := Aside0.mk ((by rw [hg]; exact Nat.ne_of_gt (blk_lt (g := gb168) (o := .cells #[.int .i64 a0_0, .int .i64 a0_1, .slice Ao6 l0_2.length co6] 33 (0, 0)) (by (with_reducible repeat (first | refine blk_drewN ?_ _ | refine blk_drew ?_ | refine blk_alloc ?_ _)); exact BK168.out)) : gb170 ≠ gb168)); have n10_ := Aside0.mk ((by rw [hg]; exact Nat.ne_of_lt (blk_lt (g := gb169) (o := .cells #[.int .i64 a1_0, .int .i64 a1_1, .int .i64 a1_2, .int .i64 a1_3] 30 (0, 0)) (by (with_reducible repeat (first | refine blk_drewN ?_ _ | refine blk_drew ?_ | refine blk_alloc ?_ _)); exact BK169.out)) : gb169 ≠ gb170)); have n11_ := Aside0.mk ((by rw [hg]; exact Nat.ne_of_gt (blk_lt (g := gb169) (o := .cells #[.int .i64 a1_0, .int .i64 a1_1, .int .i64 a1_2, .int .i64 a1_3] 30 (0, 0)) (by (with_reducible repeat (first | refine blk_drewN ?_ _ | refine blk_drew ?_ | refine blk_alloc ?_ _)); exact BK169.out)) : gb170 ≠ gb169)); clear HO0_2; clear BK168; clear BK169; clear HK; clear HB; have HO0_2 := n0_; have BK168 := n1_; have BK169 := n2_; have HK := n3_; have HB := n4_; have BK170 := n5_; have GW170 := n6_; have GE170 := n7_; have NB168_170 := n8_; have NB170_168 := n9_; have NB169_170 := n10_; have NB170_169 := n11_; clear n0_ n1_ n2_ n3_ n4_ n5_ n6_ n7_ n8_ n9_ n10_ n11_; clear hb hbox hg) | ((with_reducible refine gate_dst (N := 6) rfl ?_); refine box_event ?hg (N := 6) ?hd (cs := #[.int .i64 0, .int .i64 0, .slice none 0 0]) (t := 33) ?hr ?_; (case hd => rfl); (case hg => rfl); (case hr => first | (go_simp; done) | (go_simp; rfl)); intro gb171 hg w10 hbox hb; have n0_ := Aside0.mk (Kd.R_below (by (with_reducible repeat (first | apply Kd.R_alloc | apply Kd.R_drewN | apply Kd.R_drew)); exact HO0_2.out) hb); have n1_ := Aside0.mk (blk_below (g := gb168) (o := .cells #[.int .i64 a0_0, .int .i64 a0_1, .slice Ao6 l0_2.length co6] 33 (0, 0)) (by (with_reducible repeat (first | refine blk_drewN ?_ _ | refine blk_drew ?_ | refine blk_alloc ?_ _)); exact BK168.out) hb); have n2_ := Aside0.mk (blk_below (g := gb169) (o := .cells #[.int .i64 a1_0, .int .i64 a1_1, .int .i64 a1_2, .int .i64 a1_3] 30 (0, 0)) (by (with_reducible repeat (first | refine blk_drewN ?_ _ | refine blk_drew ?_ | refine blk_alloc ?_ _)); exact BK169.out) hb); have n3_ := Aside0.mk (blk_below (g := gb170) (o := .cells #[.int .i64 a2_0, .int .i64 a2_1, .int .i64 a2_2, .int .i64 a2_3] 30 (0, 0)) (by (with_reducible repeat (first | refine blk_drewN ?_ _ | refine blk_drew ?_ | refine blk_alloc ?_ _)); exact BK170.out) hb); have n4_ := Aside0.mk (Kept.below (S := (fun k_ => P0_2_ k_)) (by repeat (first | (with_reducible first | exact HK.out | apply Kept.alloc | apply Kept.drewN | apply Kept.drew | refine Kept.setCell ?_ (.inr GW168.out) _ | refine Kept.setCell ?_ (.inr GW169.out) _ | refine Kept.setCell ?_ (.inr GW170.out) _) | exact HK.out)) hb); have n5_ := Aside0.mk (below_step (by repeat (first | (with_reducible first | exact HB.out | apply below_alloc | apply pw_below_drewN | apply below_drew1 | refine below_set ?_ GE168.out | refine below_set ?_ GE169.out | refine below_set ?_ GE170.out) | exact HB.out)) hb); have n6_ := Aside0.mk (hbox); have n7_ := Aside0.mk ((by rw [hg]; exact (by first | exact HK.out.1 | exact (show Kept w _ (fun k_ => P0_2_ k_) from by repeat (first | (with_reducible first | exact HK.out | apply Kept.alloc | apply Kept.drewN | apply Kept.drew | refine Kept.setCell ?_ (.inr GW168.out) _ | refine Kept.setCell ?_ (.inr GW169.out) _ | refine Kept.setCell ?_ (.inr GW170.out) _) | exact HK.out)).1) : w.heap.size ≤ gb171)); have n8_ := Aside0.mk ((by rw [hg]; exact (below_size (by repeat (first | (with_reducible first | exact HB.out | apply below_alloc | apply pw_below_drewN | apply below_drew1 | refine below_set ?_ GE168.out | refine below_set ?_ GE169.out | refine below_set ?_ GE170.out) | exact HB.out))) : w0.heap.size ≤ gb171)); have n9_ := Aside0.mk ((by rw [hg]; exact Nat.ne_of_lt (blk_lt (g := gb168) (o := .cells #[.int .i64 a0_0, .int .i64 a0_1, .slice Ao6 l0_2.length co6] 33 (0, 0)) (by (with_reducible repeat (first | refine blk_drewN ?_ _ | refine blk_drew ?_ | refine blk_alloc ?_ _)); exact BK168.out)) : gb168 ≠ gb171)); have n10_ := Aside0.mk ((by rw [hg]; exact Nat.ne_of_gt (blk_lt (g := gb168) (o := .cells #[.int .i64 a0_0, .int .i64 a0_1, .slice Ao6 l0_2.length co6] 33 (0, 0)) (by (with_reducible repeat (first | refine blk_drewN ?_ _ | refine blk_drew ?_ | refine blk_alloc ?_ _)); exact BK168.out)) : gb171 ≠ gb168)); have n11_ := Aside0.mk ((by rw [hg]; exact Nat.ne_of_lt (blk_lt (g := gb169) (o := .cells #[.int .i64 a1_0, .int .i64 a1_1, .int .i64 a1_2, .int .i64 a1_3] 30 (0, 0)) (by (with_reducible repeat (first | refine blk_drewN ?_ _ | refine blk_drew ?_ | refine blk_alloc ?_ _)); exact BK169.out)) : gb169 ≠ gb171)); have n12_ := Aside0.mk ((by rw [hg]; exact Nat.ne_of_gt (blk_lt (g := gb169) (o := .cells #[.int .i64 a1_0, .int .i64 a1_1, .int .i64 a1_2, .int .i64 a1_3] 30 (0, 0)) (by (with_reducible repeat (first | refine blk_drewN ?_ _ | refine blk_drew ?_ | refine blk_alloc ?_ _)); exact BK169.out)) : gb171 ≠ gb169)); have n13_ := Aside0.mk ((by rw [hg]; exact Nat.ne_of_lt (blk_lt (g := gb170) (o := .cells #[.int .i64 a2_0, .int .i64 a2_1, .int .i64 a2_2, .int .i64 a2_3] 30 (0, 0)) (by (with_reducible repeat (first | refine blk_drewN ?_ _ | refine blk_drew ?_ | refine blk_alloc ?_ _)); exact BK170.out)) : gb170 ≠ gb171)); have n14_ := Aside0.mk ((by rw [hg]; exact Nat.ne_of_gt (blk_lt (g := gb170) (o := .cells #[.int .i64 a2_0, .int .i64 a2_1, .int .i64 a2_2, .int .i64 a2_3] 30 (0, 0)) (by (with_reducible repeat (first | refine blk_drewN ?_ _ | refine blk_drew ?_ | refine blk_alloc ?_ _)); exact BK170.out)) : gb171 ≠ gb170)); clear HO0_2; clear BK168; clear BK169; clear BK170; clear HK; clear HB; have HO0_2 := n0_; have BK168 := n1_; have BK169 := n2_; have BK170 := n3_; have HK := n4_; have HB := n5_; have BK171 := n6_; have GW171 := n7_; have GE171 := n8_; have NB168_171 := n9_; have NB171_168 := n10_; have NB169_171 := n11_; have NB171_169 := n12_; have NB170_171 := n13_; have NB171_170 := n14_; clear n0_ n1_ n2_ n3_ n4_ n5_ n6_ n7_ n8_ n9_ n10_ n11_ n12_ n13_ n14_; clear hb hbox hg; have hnb11 := NB168_169.out; have hnc11 := NB169_168.out; have hnb12 := NB168_170.out; have hnc12 := NB170_168.out; have hnb13 := NB168_171.out; have hnc13 := NB171_168.out; have hcz14_0 : w10.cell? ⟨gb168, 0, none⟩ = some (.int .i64 a0_0) := (blk_cell BK168.out 0).trans rfl; have hcz14_1 : w10.cell? ⟨gb168, 1, none⟩ = some (.int .i64 a0_1) := (blk_cell BK168.out 1).trans rfl; have hcz14_2 : w10.cell? ⟨gb168, 2, none⟩ = some (.slice Ao6 l0_2.length co6) := (blk_cell BK168.out 2).trans rfl; have hfz14_0 := blk_frozen BK168.out 0; have hfz14_1 := blk_frozen BK168.out 1; have hfz14_2 := blk_frozen BK168.out 2; have hnb15 := NB169_170.out; have hnc15 := NB170_169.out; have hnb16 := NB169_171.out; have hnc16 := NB171_169.out; have hcz17_0 : w10.cell? ⟨gb169, 0, none⟩ = some (.int .i64 a1_0) := (blk_cell BK169.out 0).trans rfl; have hcz17_1 : w10.cell? ⟨gb169, 1, none⟩ = some (.int .i64 a1_1) := (blk_cell BK169.out 1).trans rfl; have hcz17_2 : w10.cell? ⟨gb169, 2, none⟩ = some (.int .i64 a1_2) := (blk_cell BK169.out 2).trans rfl; have hcz17_3 : w10.cell? ⟨gb169, 3, none⟩ = some (.int .i64 a1_3) := (blk_cell BK169.out 3).trans rfl; have hfz17_0 := blk_frozen BK169.out 0; have hfz17_1 := blk_frozen BK169.out 1; have hfz17_2 := blk_frozen BK169.out 2; have hfz17_3 := blk_frozen BK169.out 3) | ((with_reducible refine gate_callee (f := 28) rfl ?_); refine goesL_ (some 13) rfl rfl Try.func28 (by kernel_rfl) rfl #[.agg #[.int .i64 a0_0, .int .i64 a0_1, .slice Ao6 l0_2.length co6], .agg #[.int .i64 a1_0, .int .i64 a1_1, .int .i64 a1_2, .int .i64 a1_3]] rfl (by (try simp only [List.map_toArray, List.map_cons, List.map_nil]); first | done | rfl | (simp only [List.length_drop, List.length_take]; rfl)) ?_; (with_reducible refine (miradorref14_Part.calls k a0_0 a0_1 _ _ l0_2 a1_0 a1_1 a1_2 a1_3 t172 t175 _ ?side1 ?side2 A4.out).mono ?_); (case side1 => repeat (first | exact (Kd.R_reads' HO0_2.out).2.2 | (with_reducible refine Kd.C_alloc ?_ _) | (with_reducible refine Kd.C_drewN ?_ _) | (with_reducible refine Kd.C_drew ?_))); (case side2 => exact (Kd.R_reads' HO0_2.out).2.1); rintro e w18 ⟨v173, rfl, ho0, hb⟩; refine ⟨_, rfl, ?_⟩; have n0_ := Aside0.mk (Kd.R_elder' (by (with_reducible repeat (first | apply Kd.R_alloc | apply Kd.R_drewN | apply Kd.R_drew)); exact HO0_2.out) (Kd.R_base ho0) hb); have n1_ := Aside0.mk (Kd.R_lower (Kd.R_new' (Kd.R_newM (M := fun k_ => (P0_2_ k_ ∨ w.heap.size ≤ k_)) ho0 (by first | exact HK.out.1 | exact (show Kept w _ (fun k_ => P0_2_ k_) from by repeat (first | (with_reducible first | exact HK.out | apply Kept.alloc | apply Kept.drewN | apply Kept.drew | refine Kept.setCell ?_ (.inr GW168.out) _ | refine Kept.setCell ?_ (.inr GW169.out) _ | refine Kept.setCell ?_ (.inr GW170.out) _ | refine Kept.setCell ?_ (.inr GW171.out) _) | exact HK.out)).1) (fun k_ h_ => .inr h_)) (Kd.R_lt (by (with_reducible repeat (first | apply Kd.R_alloc | apply Kd.R_drewN | apply Kd.R_drew)); exact HO0_2.out))) (below_size (by repeat (first | (with_reducible first | exact HB.out | apply below_alloc | apply pw_below_drewN | apply below_drew1 | refine below_set ?_ GE168.out | refine below_set ?_ GE169.out | refine below_set ?_ GE170.out | refine below_set ?_ GE171.out) | exact HB.out)))); have n2_ := Aside0.mk (blk_below (g := gb168) (o := .cells #[.int .i64 a0_0, .int .i64 a0_1, .slice Ao6 l0_2.length co6] 33 (0, 0)) (by (with_reducible repeat (first | refine blk_drewN ?_ _ | refine blk_drew ?_ | refine blk_alloc ?_ _)); exact BK168.out) hb); have n3_ := Aside0.mk (blk_below (g := gb169) (o := .cells #[.int .i64 a1_0, .int .i64 a1_1, .int .i64 a1_2, .int .i64 a1_3] 30 (0, 0)) (by (with_reducible repeat (first | refine blk_drewN ?_ _ | refine blk_drew ?_ | refine blk_alloc ?_ _)); exact BK169.out) hb); have n4_ := Aside0.mk (blk_below (g := gb170) (o := .cells #[.int .i64 a2_0, .int .i64 a2_1, .int .i64 a2_2, .int .i64 a2_3] 30 (0, 0)) (by (with_reducible repeat (first | refine blk_drewN ?_ _ | refine blk_drew ?_ | refine blk_alloc ?_ _)); exact BK170.out) hb); have n5_ := Aside0.mk (blk_below (g := gb171) (o := .cells #[.int .i64 0, .int .i64 0, .slice none 0 0] 33 (0, 0)) (by (with_reducible repeat (first | refine blk_drewN ?_ _ | refine blk_drew ?_ | refine blk_alloc ?_ _)); exact BK171.out) hb); have n6_ := Aside0.mk (Kept.below (S := (fun k_ => P0_2_ k_)) (by repeat (first | (with_reducible first | exact HK.out | apply Kept.alloc | apply Kept.drewN | apply Kept.drew | refine Kept.setCell ?_ (.inr GW168.out) _ | refine Kept.setCell ?_ (.inr GW169.out) _ | refine Kept.setCell ?_ (.inr GW170.out) _ | refine Kept.setCell ?_ (.inr GW171.out) _) | exact HK.out)) hb); have n7_ := Aside0.mk (below_step (by repeat (first | (with_reducible first | exact HB.out | apply below_alloc | apply pw_below_drewN | apply below_drew1 | refine below_set ?_ GE168.out | refine below_set ?_ GE169.out | refine below_set ?_ GE170.out | refine below_set ?_ GE171.out) | exact HB.out)) hb); clear HO0_2; clear BK168; clear BK169; clear BK170; clear BK171; clear HK; clear HB; have HO0_2 := n0_; have HO174 := n1_; have BK168 := n2_; have BK169 := n3_; have BK170 := n4_; have BK171 := n5_; have HK := n6_; have HB := n7_; clear n0_ n1_ n2_ n3_ n4_ n5_ n6_ n7_; (try clear hb); (try clear hb2); (try clear hk); (try clear hi); (try clear ho0)))
  (try simp only [Act.put, List.setIfInBounds_toArray, List.set_cons_zero, List.set_cons_succ])
  go_cut [26] (fun v26 wc => ∃ (kq : Nat) (x26_4 : Bool), v26 = .bool x26_4 ∧ Aside0 (miradorref14_Move.j0 kq t172 x26_4 a0_0 a0_1 l0_2 a1_0 a1_1 a1_2 a1_3 a2_0 a2_1 a2_2 a2_3 = some (r1, r2, r3, r4)) ∧ Aside0 (kq ≤ k) ∧ Aside0 (Kd.R (Kd.int .i64) 3 wc w0.heap.size (fun k_ => (P0_2_ k_ ∨ w.heap.size ≤ k_) ∧ some k_ ≠ ((.slice Ao6 l0_2.length co6) : Value).ownBlock) v173 t172) ∧ Aside0 (Kd.R (Kd.int .i64) 3 wc w0.heap.size (fun k_ => (P0_2_ k_ ∨ w.heap.size ≤ k_) ∧ some k_ ≠ (v173 : Value).ownBlock) (.slice Ao6 l0_2.length co6) l0_2) ∧ Aside0 (wc.heap[gb168]? = some (.cells #[.int .i64 a0_0, .int .i64 a0_1, (.slice Ao6 l0_2.length co6)] 33 (0, 0))) ∧ Aside0 (wc.heap[gb169]? = some (.cells #[.int .i64 a1_0, .int .i64 a1_1, .int .i64 a1_2, .int .i64 a1_3] 30 (0, 0))) ∧ Aside0 (wc.heap[gb170]? = some (.cells #[.int .i64 a2_0, .int .i64 a2_1, .int .i64 a2_2, .int .i64 a2_3] 30 (0, 0))) ∧ Aside0 (wc.heap[gb171]? = some (.cells #[.int .i64 0, .int .i64 0, (.slice none 0 0)] 33 (0, 0))) ∧ Aside0 (Kept w wc (fun k_ => P0_2_ k_)) ∧ Aside0 (Below w0.heap.size w0 wc))
  case first =>
    have H := HC5.out
    clear HC5
    by_cases c19 : t175 = 0
    · rw [if_pos c19] at H
      have c19b0 : (t175 == 0) = true := beq_iff_eq.mpr c19
      have c19b1 : (t175 != 0) = false := bne_eq_false_iff_eq.mpr c19
      clear c19
      (first | rw [c19b0] | (simp only [i64_w, i32_w]; rw [c19b0]) | skip)
      replace H := Option.bind_eq_some_iff.mp H
      obtain ⟨t176, A200, H⟩ := H
      replace H : (miradorref14_Move.j0 k t172 (!t176) a0_0 a0_1 l0_2 a1_0 a1_1 a1_2 a1_3 a2_0 a2_1 a2_2 a2_3) = some (r1, r2, r3, r4) := H
      have A20 := Aside0.mk A200
      clear A200
      have H' := Aside0.mk H
      clear H
      have hnb21 := NB170_168.out
      have hnc21 := NB168_170.out
      have hnb22 := NB170_169.out
      have hnc22 := NB169_170.out
      have hnb23 := NB170_171.out
      have hnc23 := NB171_170.out
      have hcz24_0 : w18.cell? ⟨gb170, 0, none⟩ = some (.int .i64 a2_0) := (blk_cell BK170.out 0).trans rfl
      have hcz24_1 : w18.cell? ⟨gb170, 1, none⟩ = some (.int .i64 a2_1) := (blk_cell BK170.out 1).trans rfl
      have hcz24_2 : w18.cell? ⟨gb170, 2, none⟩ = some (.int .i64 a2_2) := (blk_cell BK170.out 2).trans rfl
      have hcz24_3 : w18.cell? ⟨gb170, 3, none⟩ = some (.int .i64 a2_3) := (blk_cell BK170.out 3).trans rfl
      have hfz24_0 := blk_frozen BK170.out 0
      have hfz24_1 := blk_frozen BK170.out 1
      have hfz24_2 := blk_frozen BK170.out 2
      have hfz24_3 := blk_frozen BK170.out 3
      have hnb25 := NB168_169.out
      have hnc25 := NB169_168.out
      have hnb26 := NB168_171.out
      have hnc26 := NB171_168.out
      have hcz27_0 : w18.cell? ⟨gb168, 0, none⟩ = some (.int .i64 a0_0) := (blk_cell BK168.out 0).trans rfl
      have hcz27_1 : w18.cell? ⟨gb168, 1, none⟩ = some (.int .i64 a0_1) := (blk_cell BK168.out 1).trans rfl
      have hcz27_2 : w18.cell? ⟨gb168, 2, none⟩ = some (.slice Ao6 l0_2.length co6) := (blk_cell BK168.out 2).trans rfl
      have hfz27_0 := blk_frozen BK168.out 0
      have hfz27_1 := blk_frozen BK168.out 1
      have hfz27_2 := blk_frozen BK168.out 2
      go_wp2_with (first | (go_at_call 32; (with_reducible refine (miradorref14_Inside.calls a2_0 a2_1 a2_2 a2_3 a0_0 a0_1 t176 _ A20.out).mono ?_); rintro e w28 ⟨rfl, hb⟩; have n0_ := Aside0.mk (Kd.R_below (by (with_reducible repeat (first | apply Kd.R_alloc | apply Kd.R_drewN | apply Kd.R_drew)); exact HO0_2.out) hb); have n1_ := Aside0.mk (Kd.R_below (by (with_reducible repeat (first | apply Kd.R_alloc | apply Kd.R_drewN | apply Kd.R_drew)); exact HO174.out) hb); have n2_ := Aside0.mk (blk_below (g := gb168) (o := .cells #[.int .i64 a0_0, .int .i64 a0_1, .slice Ao6 l0_2.length co6] 33 (0, 0)) (by (with_reducible repeat (first | refine blk_drewN ?_ _ | refine blk_drew ?_ | refine blk_alloc ?_ _)); exact BK168.out) hb); have n3_ := Aside0.mk (blk_below (g := gb169) (o := .cells #[.int .i64 a1_0, .int .i64 a1_1, .int .i64 a1_2, .int .i64 a1_3] 30 (0, 0)) (by (with_reducible repeat (first | refine blk_drewN ?_ _ | refine blk_drew ?_ | refine blk_alloc ?_ _)); exact BK169.out) hb); have n4_ := Aside0.mk (blk_below (g := gb170) (o := .cells #[.int .i64 a2_0, .int .i64 a2_1, .int .i64 a2_2, .int .i64 a2_3] 30 (0, 0)) (by (with_reducible repeat (first | refine blk_drewN ?_ _ | refine blk_drew ?_ | refine blk_alloc ?_ _)); exact BK170.out) hb); have n5_ := Aside0.mk (blk_below (g := gb171) (o := .cells #[.int .i64 0, .int .i64 0, .slice none 0 0] 33 (0, 0)) (by (with_reducible repeat (first | refine blk_drewN ?_ _ | refine blk_drew ?_ | refine blk_alloc ?_ _)); exact BK171.out) hb); have n6_ := Aside0.mk (Kept.below (S := (fun k_ => P0_2_ k_)) (by repeat (first | (with_reducible first | exact HK.out | apply Kept.alloc | apply Kept.drewN | apply Kept.drew | refine Kept.setCell ?_ (.inr GW168.out) _ | refine Kept.setCell ?_ (.inr GW169.out) _ | refine Kept.setCell ?_ (.inr GW170.out) _ | refine Kept.setCell ?_ (.inr GW171.out) _) | exact HK.out)) hb); have n7_ := Aside0.mk (below_step (by repeat (first | (with_reducible first | exact HB.out | apply below_alloc | apply pw_below_drewN | apply below_drew1 | refine below_set ?_ GE168.out | refine below_set ?_ GE169.out | refine below_set ?_ GE170.out | refine below_set ?_ GE171.out) | exact HB.out)) hb); clear HO0_2; clear HO174; clear BK168; clear BK169; clear BK170; clear BK171; clear HK; clear HB; have HO0_2 := n0_; have HO174 := n1_; have BK168 := n2_; have BK169 := n3_; have BK170 := n4_; have BK171 := n5_; have HK := n6_; have HB := n7_; clear n0_ n1_ n2_ n3_ n4_ n5_ n6_ n7_; (try clear hb); (try clear hb2); (try clear hk); (try clear hi)))
      go_meet
      case rel => exact ⟨_, (!t176), (by first | rfl | (simp; done) | (simp [*]; done)), H', ⟨by first | omega | exact Nat.le_refl _⟩, ⟨by (with_reducible repeat (first | apply Kd.R_alloc | apply Kd.R_drewN | apply Kd.R_drew)); exact Kd.R_mono HO174.out (fun _ hk => ⟨hk.1.1, hk.2⟩)⟩, ⟨by (with_reducible repeat (first | apply Kd.R_alloc | apply Kd.R_drewN | apply Kd.R_drew)); exact HO0_2.out⟩, ⟨by (with_reducible repeat (first | refine blk_drewN ?_ _ | refine blk_drew ?_ | refine blk_alloc ?_ _)); exact BK168.out⟩, ⟨by (with_reducible repeat (first | refine blk_drewN ?_ _ | refine blk_drew ?_ | refine blk_alloc ?_ _)); exact BK169.out⟩, ⟨by (with_reducible repeat (first | refine blk_drewN ?_ _ | refine blk_drew ?_ | refine blk_alloc ?_ _)); exact BK170.out⟩, ⟨by (with_reducible repeat (first | refine blk_drewN ?_ _ | refine blk_drew ?_ | refine blk_alloc ?_ _)); exact BK171.out⟩, ⟨by repeat (first | (with_reducible first | exact HK.out | apply Kept.alloc | apply Kept.drewN | apply Kept.drew | refine Kept.setCell ?_ (.inr GW168.out) _ | refine Kept.setCell ?_ (.inr GW169.out) _ | refine Kept.setCell ?_ (.inr GW170.out) _ | refine Kept.setCell ?_ (.inr GW171.out) _) | exact HK.out)⟩, ⟨by repeat (first | (with_reducible first | exact HB.out | apply below_alloc | apply pw_below_drewN | apply below_drew1 | refine below_set ?_ GE168.out | refine below_set ?_ GE169.out | refine below_set ?_ GE170.out | refine below_set ?_ GE171.out) | exact HB.out)⟩⟩
    · rw [if_neg c19] at H
      have c19b0 : (t175 == 0) = false := beq_eq_false_iff_ne.mpr c19
      have c19b1 : (t175 != 0) = true := bne_iff_ne.mpr c19
      (first | rw [c19b0] | (simp only [i64_w, i32_w]; rw [c19b0]) | skip)
      have H' := Aside0.mk H
      clear H
      go_wp2
      go_meet
      case rel => exact ⟨_, (true), (by first | rfl | (simp; done) | (simp [*]; done)), H', ⟨by first | omega | exact Nat.le_refl _⟩, ⟨by (with_reducible repeat (first | apply Kd.R_alloc | apply Kd.R_drewN | apply Kd.R_drew)); exact Kd.R_mono HO174.out (fun _ hk => ⟨hk.1.1, hk.2⟩)⟩, ⟨by (with_reducible repeat (first | apply Kd.R_alloc | apply Kd.R_drewN | apply Kd.R_drew)); exact HO0_2.out⟩, ⟨by (with_reducible repeat (first | refine blk_drewN ?_ _ | refine blk_drew ?_ | refine blk_alloc ?_ _)); exact BK168.out⟩, ⟨by (with_reducible repeat (first | refine blk_drewN ?_ _ | refine blk_drew ?_ | refine blk_alloc ?_ _)); exact BK169.out⟩, ⟨by (with_reducible repeat (first | refine blk_drewN ?_ _ | refine blk_drew ?_ | refine blk_alloc ?_ _)); exact BK170.out⟩, ⟨by (with_reducible repeat (first | refine blk_drewN ?_ _ | refine blk_drew ?_ | refine blk_alloc ?_ _)); exact BK171.out⟩, ⟨by repeat (first | (with_reducible first | exact HK.out | apply Kept.alloc | apply Kept.drewN | apply Kept.drew | refine Kept.setCell ?_ (.inr GW168.out) _ | refine Kept.setCell ?_ (.inr GW169.out) _ | refine Kept.setCell ?_ (.inr GW170.out) _ | refine Kept.setCell ?_ (.inr GW171.out) _) | exact HK.out)⟩, ⟨by repeat (first | (with_reducible first | exact HB.out | apply below_alloc | apply pw_below_drewN | apply below_drew1 | refine below_set ?_ GE168.out | refine below_set ?_ GE169.out | refine below_set ?_ GE170.out | refine below_set ?_ GE171.out) | exact HB.out)⟩⟩
  case rest =>
    clear HC5
    try clear c1
    try clear c2
    try clear p2
    try clear c11
    try clear c12
    try clear c13
    try clear c15
    try clear c16
    try clear c19
    try clear c19b0
    try clear c19b1
    try clear c21
    try clear c22
    try clear c23
    try clear c25
    try clear c26
    try clear c28
    try clear hcz14_0
    try clear hcz14_1
    try clear hcz14_2
    try clear hcz17_0
    try clear hcz17_1
    try clear hcz17_2
    try clear hcz17_3
    try clear hcz24_0
    try clear hcz24_1
    try clear hcz24_2
    try clear hcz24_3
    try clear hcz27_0
    try clear hcz27_1
    try clear hcz27_2
    try clear hfz14_0
    try clear hfz14_1
    try clear hfz14_2
    try clear hfz17_0
    try clear hfz17_1
    try clear hfz17_2
    try clear hfz17_3
    try clear hfz24_0
    try clear hfz24_1
    try clear hfz24_2
    try clear hfz24_3
    try clear hfz27_0
    try clear hfz27_1
    try clear hfz27_2
    obtain ⟨kq, x26_4, rfl, HA, HJ4, HO_8, HO_169002, BK168, BK169, BK170, BK171, HK, HB⟩ := hcut
    cases kq with
    | zero => exact absurd HA.out (by simp [miradorref14_Move.j0])
    | succ kj4 =>
      have H := HA.out
      clear HA
      simp only [miradorref14_Move.j0] at H
      by_cases c29 : x26_4 = true
      · subst c29
        have H1 : (some (a0_0, a0_1, l0_2, 140)) = some (r1, r2, r3, r4) := by rw [if_pos rfl] at H; exact H
        clear H
        have H := H1
        clear H1
        simp only [Option.some.injEq, Prod.mk.injEq] at H
        obtain ⟨rfl, rfl, rfl, rfl⟩ := H
        have hnb30 := NB168_169.out
        have hnc30 := NB169_168.out
        have hnb31 := NB168_170.out
        have hnc31 := NB170_168.out
        have hnb32 := NB168_171.out
        have hnc32 := NB171_168.out
        have hcz33_0 : wc.cell? ⟨gb168, 0, none⟩ = some (.int .i64 a0_0) := (blk_cell BK168.out 0).trans rfl
        have hcz33_1 : wc.cell? ⟨gb168, 1, none⟩ = some (.int .i64 a0_1) := (blk_cell BK168.out 1).trans rfl
        have hcz33_2 : wc.cell? ⟨gb168, 2, none⟩ = some (.slice Ao6 l0_2.length co6) := (blk_cell BK168.out 2).trans rfl
        have hfz33_0 := blk_frozen BK168.out 0
        have hfz33_1 := blk_frozen BK168.out 1
        have hfz33_2 := blk_frozen BK168.out 2
        have hnb34 := NB171_169.out
        have hnc34 := NB169_171.out
        have hnb35 := NB171_170.out
        have hnc35 := NB170_171.out
        have hcz36_0 : wc.cell? ⟨gb171, 0, none⟩ = some (.int .i64 0) := (blk_cell BK171.out 0).trans rfl
        have hcz36_1 : wc.cell? ⟨gb171, 1, none⟩ = some (.int .i64 0) := (blk_cell BK171.out 1).trans rfl
        have hcz36_2 : wc.cell? ⟨gb171, 2, none⟩ = some (.slice none 0 0) := (blk_cell BK171.out 2).trans rfl
        have hfz36_0 := blk_frozen BK171.out 0
        have hfz36_1 := blk_frozen BK171.out 1
        have hfz36_2 := blk_frozen BK171.out 2
        go_wp2
        refine bodyPost_ret (results_ct rfl _ _ gb171 33 #[.int .i64 a0_0, .int .i64 a0_1, .slice Ao6 l0_2.length co6] (0, 0) _ rfl (by (with_reducible repeat (first | refine blk_drewN ?_ _ | refine blk_drew ?_ | refine blk_alloc ?_ _)); refine blk_put (cs := #[.int .i64 a0_0, .int .i64 a0_1, .slice none 0 0]) ?_ 2 _ rfl; (with_reducible repeat (first | refine blk_drewN ?_ _ | refine blk_drew ?_ | refine blk_alloc ?_ _)); refine blk_put (cs := #[.int .i64 a0_0, .int .i64 0, .slice none 0 0]) ?_ 1 _ rfl; (with_reducible repeat (first | refine blk_drewN ?_ _ | refine blk_drew ?_ | refine blk_alloc ?_ _)); refine blk_put (cs := #[.int .i64 0, .int .i64 0, .slice none 0 0]) ?_ 0 _ rfl; (with_reducible repeat (first | refine blk_drewN ?_ _ | refine blk_drew ?_ | refine blk_alloc ?_ _)); exact BK171.out) Try.underlying33 rfl (by kernel_rfl)) rfl ?_
        exact ⟨_, by first | rfl | (simp [errW_none, errW_some] <;> rfl) | (simp [*, errW_none, errW_some] <;> rfl), by (with_reducible repeat (first | apply Kd.R_alloc | apply Kd.R_drewN | apply Kd.R_drew)); exact Kd.R_mono (Kd.R_far (p := ⟨gb171, 2, none⟩) (Kd.R_far (p := ⟨gb171, 1, none⟩) (Kd.R_far (p := ⟨gb171, 0, none⟩) (Kd.R_types HO_169002.out BK171.out (by decide)) (fun _ hk => hk.2) (.int .i64 a0_0)) (fun _ hk => hk.2) (.int .i64 a0_1)) (fun _ hk => hk.2) (.slice Ao6 l0_2.length co6)) (fun _ hk => hk.1.1), by repeat (first | (with_reducible first | exact HB.out | apply below_alloc | apply pw_below_drewN | apply below_drew1 | refine below_set ?_ GE168.out | refine below_set ?_ GE169.out | refine below_set ?_ GE170.out | refine below_set ?_ GE171.out) | exact HB.out), by repeat (first | (with_reducible first | exact HK.out | apply Kept.alloc | apply Kept.drewN | apply Kept.drew | refine Kept.setCell ?_ (.inr GW168.out) _ | refine Kept.setCell ?_ (.inr GW169.out) _ | refine Kept.setCell ?_ (.inr GW170.out) _ | refine Kept.setCell ?_ (.inr GW171.out) _) | exact HK.out)⟩
      · replace c29 := Bool.eq_false_iff.mpr c29
        subst c29
        have H1 : (if a1_2 = a2_2 then (if a1_3 = a2_3 then ((miradorref14_Blit.f kj4 a0_0 a0_1 l0_2 a2_0 a2_1 a2_2 a2_3 t172).bind fun bt177 => (some (bt177.1, bt177.2.1, bt177.2.2.1, bt177.2.2.2))) else (some (a0_0, a0_1, l0_2, 1))) else (some (a0_0, a0_1, l0_2, 1))) = some (r1, r2, r3, r4) := by rw [if_neg (show ¬ (false = true) by decide)] at H; exact H
        clear H
        have H := H1
        clear H1
        by_cases c37 : a1_2 = a2_2
        · rw [if_pos c37] at H
          have c37b0 : (a1_2 == a2_2) = true := beq_iff_eq.mpr c37
          have c37b1 : (a1_2 != a2_2) = false := bne_eq_false_iff_eq.mpr c37
          clear c37
          by_cases c38 : a1_3 = a2_3
          · rw [if_pos c38] at H
            have c38b0 : (a1_3 == a2_3) = true := beq_iff_eq.mpr c38
            have c38b1 : (a1_3 != a2_3) = false := bne_eq_false_iff_eq.mpr c38
            clear c38
            replace H := Option.bind_eq_some_iff.mp H
            obtain ⟨⟨t177, t178, t179, t182⟩, A390, H⟩ := H
            replace H : (some (t177, t178, t179, t182)) = some (r1, r2, r3, r4) := H
            have A39 := Aside0.mk A390
            clear A390
            simp only [Option.some.injEq, Prod.mk.injEq] at H
            obtain ⟨rfl, rfl, rfl, rfl⟩ := H
            have hnb40 := NB169_168.out
            have hnc40 := NB168_169.out
            have hnb41 := NB169_170.out
            have hnc41 := NB170_169.out
            have hnb42 := NB169_171.out
            have hnc42 := NB171_169.out
            have hcz43_0 : wc.cell? ⟨gb169, 0, none⟩ = some (.int .i64 a1_0) := (blk_cell BK169.out 0).trans rfl
            have hcz43_1 : wc.cell? ⟨gb169, 1, none⟩ = some (.int .i64 a1_1) := (blk_cell BK169.out 1).trans rfl
            have hcz43_2 : wc.cell? ⟨gb169, 2, none⟩ = some (.int .i64 a1_2) := (blk_cell BK169.out 2).trans rfl
            have hcz43_3 : wc.cell? ⟨gb169, 3, none⟩ = some (.int .i64 a1_3) := (blk_cell BK169.out 3).trans rfl
            have hfz43_0 := blk_frozen BK169.out 0
            have hfz43_1 := blk_frozen BK169.out 1
            have hfz43_2 := blk_frozen BK169.out 2
            have hfz43_3 := blk_frozen BK169.out 3
            have hnb44 := NB170_168.out
            have hnc44 := NB168_170.out
            have hnb45 := NB170_171.out
            have hnc45 := NB171_170.out
            have hcz46_0 : wc.cell? ⟨gb170, 0, none⟩ = some (.int .i64 a2_0) := (blk_cell BK170.out 0).trans rfl
            have hcz46_1 : wc.cell? ⟨gb170, 1, none⟩ = some (.int .i64 a2_1) := (blk_cell BK170.out 1).trans rfl
            have hcz46_2 : wc.cell? ⟨gb170, 2, none⟩ = some (.int .i64 a2_2) := (blk_cell BK170.out 2).trans rfl
            have hcz46_3 : wc.cell? ⟨gb170, 3, none⟩ = some (.int .i64 a2_3) := (blk_cell BK170.out 3).trans rfl
            have hfz46_0 := blk_frozen BK170.out 0
            have hfz46_1 := blk_frozen BK170.out 1
            have hfz46_2 := blk_frozen BK170.out 2
            have hfz46_3 := blk_frozen BK170.out 3
            have hnb47 := NB168_171.out
            have hnc47 := NB171_168.out
            have hcz48_0 : wc.cell? ⟨gb168, 0, none⟩ = some (.int .i64 a0_0) := (blk_cell BK168.out 0).trans rfl
            have hcz48_1 : wc.cell? ⟨gb168, 1, none⟩ = some (.int .i64 a0_1) := (blk_cell BK168.out 1).trans rfl
            have hcz48_2 : wc.cell? ⟨gb168, 2, none⟩ = some (.slice Ao6 l0_2.length co6) := (blk_cell BK168.out 2).trans rfl
            have hfz48_0 := blk_frozen BK168.out 0
            have hfz48_1 := blk_frozen BK168.out 1
            have hfz48_2 := blk_frozen BK168.out 2
            obtain ⟨Ao49, co49, eo49⟩ := Kd.R_slice HO_8.out
            subst eo49
            go_wp2_with (first | ((with_reducible refine gate_callee (f := 24) rfl ?_); refine goesL_ (some 44) rfl rfl Try.func24 (by kernel_rfl) rfl #[.agg #[.int .i64 a0_0, .int .i64 a0_1, .slice Ao6 l0_2.length co6], .agg #[.int .i64 a2_0, .int .i64 a2_1, .int .i64 a2_2, .int .i64 a2_3], .slice Ao49 t172.length co49] rfl (by (try simp only [List.map_toArray, List.map_cons, List.map_nil]); first | done | rfl | (simp only [List.length_drop, List.length_take]; rfl)) ?_; (with_reducible refine (miradorref14_Blit.calls kj4 a0_0 a0_1 (fun k_ => some k_ = (.slice Ao6 l0_2.length co6 : Value).ownBlock) (.slice Ao6 l0_2.length co6) l0_2 a2_0 a2_1 a2_2 a2_3 _ _ t172 t177 t178 t179 t182 w0 _ ?side1 ?side2 ?side3 ?side4 A39.out).mono ?_); (case side1 => repeat (first | (with_reducible first | exact HB.out | apply below_alloc | apply pw_below_drewN | apply below_drew1 | refine below_set ?_ GE168.out | refine below_set ?_ GE169.out | refine below_set ?_ GE170.out | refine below_set ?_ GE171.out) | exact HB.out)); (case side2 => exact Kd.R_tight rfl HO_169002.out); (case side3 => exact Kd.C_kept_own (HO_8.out) (fun k_ hk_ hs_ => (hk_.2) hs_)); (case side4 => exact (Kd.R_reads' HO_8.out).2.1); rintro e w50 ⟨v180, rfl, ho0, hb, hkp⟩; refine ⟨_, rfl, ?_⟩; have n0_ := Aside0.mk (Kd.R_mono (ok' := fun k_ => (P0_2_ k_ ∨ w.heap.size ≤ k_) ∧ some k_ ≠ (v180 : Value).ownBlock) (Kd.R_keptB (HO_8.out) hkp (fun k_ hk_ hs_ => (hk_.2) hs_)) (fun k_ hk_ => ⟨hk_.1.1, fun e_ => Or.elim (ho0.1 k_ e_.symm) (fun hs_ => hk_.2.1 hs_) (fun hn_ => Nat.not_le.2 hk_.2.2 hn_)⟩)); have n1_ := Aside0.mk (blk_kept (by (with_reducible repeat (first | refine blk_drewN ?_ _ | refine blk_drew ?_ | refine blk_alloc ?_ _)); exact BK168.out) hkp (fun hs_ => (fun e_ => (Kd.R_ne HO_169002.out BK168.out (by decide)) e_) hs_)); have n2_ := Aside0.mk (blk_kept (by (with_reducible repeat (first | refine blk_drewN ?_ _ | refine blk_drew ?_ | refine blk_alloc ?_ _)); exact BK169.out) hkp (fun hs_ => (fun e_ => (Kd.R_ne HO_169002.out BK169.out (by decide)) e_) hs_)); have n3_ := Aside0.mk (blk_kept (by (with_reducible repeat (first | refine blk_drewN ?_ _ | refine blk_drew ?_ | refine blk_alloc ?_ _)); exact BK170.out) hkp (fun hs_ => (fun e_ => (Kd.R_ne HO_169002.out BK170.out (by decide)) e_) hs_)); have n4_ := Aside0.mk (blk_kept (by (with_reducible repeat (first | refine blk_drewN ?_ _ | refine blk_drew ?_ | refine blk_alloc ?_ _)); exact BK171.out) hkp (fun hs_ => (fun e_ => (Kd.R_ne HO_169002.out BK171.out (by decide)) e_) hs_)); have n5_ := Aside0.mk (Kd.R_mono (ok' := fun k_ => (P0_2_ k_ ∨ w.heap.size ≤ k_) ∧ some k_ ≠ (.slice Ao49 t172.length co49 : Value).ownBlock) ho0 (fun k_ hk_ => ⟨Or.elim hk_ (fun hs_ => (HO_169002.out.1 k_ (hs_).symm).1) (fun hn_ => (.inr (Nat.le_trans (by first | exact HK.out.1 | exact (show Kept w _ (fun k_ => P0_2_ k_) from by repeat (first | (with_reducible first | exact HK.out | apply Kept.alloc | apply Kept.drewN | apply Kept.drew | refine Kept.setCell ?_ (.inr GW168.out) _ | refine Kept.setCell ?_ (.inr GW169.out) _ | refine Kept.setCell ?_ (.inr GW170.out) _ | refine Kept.setCell ?_ (.inr GW171.out) _) | exact HK.out)).1) hn_))), Or.elim hk_ (fun hs_ => fun e_ => (((HO_8.out).1 k_ e_.symm).2) hs_) (fun hn_ => (Kd.fresh' (Kd.R_lt (by (with_reducible repeat (first | apply Kd.R_alloc | apply Kd.R_drewN | apply Kd.R_drew)); exact HO_8.out)) k_ hn_))⟩)); have n6_ := Aside0.mk (Kept.then_ (S := (fun k_ => P0_2_ k_)) (by repeat (first | (with_reducible first | exact HK.out | apply Kept.alloc | apply Kept.drewN | apply Kept.drew | refine Kept.setCell ?_ (.inr GW168.out) _ | refine Kept.setCell ?_ (.inr GW169.out) _ | refine Kept.setCell ?_ (.inr GW170.out) _ | refine Kept.setCell ?_ (.inr GW171.out) _) | exact HK.out)) hkp (fun k_ hs_ => (fun e_ => (HO_169002.out.1 k_ e_.symm).1) hs_)); have n7_ := Aside0.mk (hb); clear HO_8; clear BK168; clear BK169; clear BK170; clear BK171; clear HK; clear HB; clear HO_169002; have HO_8 := n0_; have BK168 := n1_; have BK169 := n2_; have BK170 := n3_; have BK171 := n4_; have HO181 := n5_; have HK := n6_; have HB := n7_; clear n0_ n1_ n2_ n3_ n4_ n5_ n6_ n7_; (try clear hb); (try clear hkp); (try clear ho0); have hcz51_0 : w50.cell? ⟨gb171, 0, none⟩ = some (.int .i64 0) := (blk_cell BK171.out 0).trans rfl; have hcz51_1 : w50.cell? ⟨gb171, 1, none⟩ = some (.int .i64 0) := (blk_cell BK171.out 1).trans rfl; have hcz51_2 : w50.cell? ⟨gb171, 2, none⟩ = some (.slice none 0 0) := (blk_cell BK171.out 2).trans rfl; have hfz51_0 := blk_frozen BK171.out 0; have hfz51_1 := blk_frozen BK171.out 1; have hfz51_2 := blk_frozen BK171.out 2; obtain ⟨Ao52, co52, eo52⟩ := Kd.R_slice HO181.out; subst eo52))
            refine bodyPost_ret (results_ct rfl _ _ gb171 33 #[.int .i64 t177, .int .i64 t178, .slice Ao52 t179.length co52] (0, 0) _ rfl (by (with_reducible repeat (first | refine blk_drewN ?_ _ | refine blk_drew ?_ | refine blk_alloc ?_ _)); refine blk_put (cs := #[.int .i64 t177, .int .i64 t178, .slice none 0 0]) ?_ 2 _ rfl; (with_reducible repeat (first | refine blk_drewN ?_ _ | refine blk_drew ?_ | refine blk_alloc ?_ _)); refine blk_put (cs := #[.int .i64 t177, .int .i64 0, .slice none 0 0]) ?_ 1 _ rfl; (with_reducible repeat (first | refine blk_drewN ?_ _ | refine blk_drew ?_ | refine blk_alloc ?_ _)); refine blk_put (cs := #[.int .i64 0, .int .i64 0, .slice none 0 0]) ?_ 0 _ rfl; (with_reducible repeat (first | refine blk_drewN ?_ _ | refine blk_drew ?_ | refine blk_alloc ?_ _)); exact BK171.out) Try.underlying33 rfl (by kernel_rfl)) rfl ?_
            exact ⟨_, by first | rfl | (simp [errW_none, errW_some] <;> rfl) | (simp [*, errW_none, errW_some] <;> rfl), by (with_reducible repeat (first | apply Kd.R_alloc | apply Kd.R_drewN | apply Kd.R_drew)); exact Kd.R_mono (Kd.R_far (p := ⟨gb171, 2, none⟩) (Kd.R_far (p := ⟨gb171, 1, none⟩) (Kd.R_far (p := ⟨gb171, 0, none⟩) (Kd.R_types HO181.out BK171.out (by decide)) (fun _ hk => hk.2) (.int .i64 t177)) (fun _ hk => hk.2) (.int .i64 t178)) (fun _ hk => hk.2) (.slice Ao52 t179.length co52)) (fun _ hk => hk.1.1), by repeat (first | (with_reducible first | exact HB.out | apply below_alloc | apply pw_below_drewN | apply below_drew1 | refine below_set ?_ GE168.out | refine below_set ?_ GE169.out | refine below_set ?_ GE170.out | refine below_set ?_ GE171.out) | exact HB.out), by repeat (first | (with_reducible first | exact HK.out | apply Kept.alloc | apply Kept.drewN | apply Kept.drew | refine Kept.setCell ?_ (.inr GW168.out) _ | refine Kept.setCell ?_ (.inr GW169.out) _ | refine Kept.setCell ?_ (.inr GW170.out) _ | refine Kept.setCell ?_ (.inr GW171.out) _) | exact HK.out)⟩
          · rw [if_neg c38] at H
            have c38b0 : (a1_3 == a2_3) = false := beq_eq_false_iff_ne.mpr c38
            have c38b1 : (a1_3 != a2_3) = true := bne_iff_ne.mpr c38
            simp only [Option.some.injEq, Prod.mk.injEq] at H
            obtain ⟨rfl, rfl, rfl, rfl⟩ := H
            have hnb53 := NB169_168.out
            have hnc53 := NB168_169.out
            have hnb54 := NB169_170.out
            have hnc54 := NB170_169.out
            have hnb55 := NB169_171.out
            have hnc55 := NB171_169.out
            have hcz56_0 : wc.cell? ⟨gb169, 0, none⟩ = some (.int .i64 a1_0) := (blk_cell BK169.out 0).trans rfl
            have hcz56_1 : wc.cell? ⟨gb169, 1, none⟩ = some (.int .i64 a1_1) := (blk_cell BK169.out 1).trans rfl
            have hcz56_2 : wc.cell? ⟨gb169, 2, none⟩ = some (.int .i64 a1_2) := (blk_cell BK169.out 2).trans rfl
            have hcz56_3 : wc.cell? ⟨gb169, 3, none⟩ = some (.int .i64 a1_3) := (blk_cell BK169.out 3).trans rfl
            have hfz56_0 := blk_frozen BK169.out 0
            have hfz56_1 := blk_frozen BK169.out 1
            have hfz56_2 := blk_frozen BK169.out 2
            have hfz56_3 := blk_frozen BK169.out 3
            have hnb57 := NB170_168.out
            have hnc57 := NB168_170.out
            have hnb58 := NB170_171.out
            have hnc58 := NB171_170.out
            have hcz59_0 : wc.cell? ⟨gb170, 0, none⟩ = some (.int .i64 a2_0) := (blk_cell BK170.out 0).trans rfl
            have hcz59_1 : wc.cell? ⟨gb170, 1, none⟩ = some (.int .i64 a2_1) := (blk_cell BK170.out 1).trans rfl
            have hcz59_2 : wc.cell? ⟨gb170, 2, none⟩ = some (.int .i64 a2_2) := (blk_cell BK170.out 2).trans rfl
            have hcz59_3 : wc.cell? ⟨gb170, 3, none⟩ = some (.int .i64 a2_3) := (blk_cell BK170.out 3).trans rfl
            have hfz59_0 := blk_frozen BK170.out 0
            have hfz59_1 := blk_frozen BK170.out 1
            have hfz59_2 := blk_frozen BK170.out 2
            have hfz59_3 := blk_frozen BK170.out 3
            have hnb60 := NB168_171.out
            have hnc60 := NB171_168.out
            have hcz61_0 : wc.cell? ⟨gb168, 0, none⟩ = some (.int .i64 a0_0) := (blk_cell BK168.out 0).trans rfl
            have hcz61_1 : wc.cell? ⟨gb168, 1, none⟩ = some (.int .i64 a0_1) := (blk_cell BK168.out 1).trans rfl
            have hcz61_2 : wc.cell? ⟨gb168, 2, none⟩ = some (.slice Ao6 l0_2.length co6) := (blk_cell BK168.out 2).trans rfl
            have hfz61_0 := blk_frozen BK168.out 0
            have hfz61_1 := blk_frozen BK168.out 1
            have hfz61_2 := blk_frozen BK168.out 2
            have hcz62_0 : wc.cell? ⟨gb171, 0, none⟩ = some (.int .i64 0) := (blk_cell BK171.out 0).trans rfl
            have hcz62_1 : wc.cell? ⟨gb171, 1, none⟩ = some (.int .i64 0) := (blk_cell BK171.out 1).trans rfl
            have hcz62_2 : wc.cell? ⟨gb171, 2, none⟩ = some (.slice none 0 0) := (blk_cell BK171.out 2).trans rfl
            have hfz62_0 := blk_frozen BK171.out 0
            have hfz62_1 := blk_frozen BK171.out 1
            have hfz62_2 := blk_frozen BK171.out 2
            go_wp2
            refine bodyPost_ret (results_ct rfl _ _ gb171 33 #[.int .i64 a0_0, .int .i64 a0_1, .slice Ao6 l0_2.length co6] (0, 0) _ rfl (by (with_reducible repeat (first | refine blk_drewN ?_ _ | refine blk_drew ?_ | refine blk_alloc ?_ _)); refine blk_put (cs := #[.int .i64 a0_0, .int .i64 a0_1, .slice none 0 0]) ?_ 2 _ rfl; (with_reducible repeat (first | refine blk_drewN ?_ _ | refine blk_drew ?_ | refine blk_alloc ?_ _)); refine blk_put (cs := #[.int .i64 a0_0, .int .i64 0, .slice none 0 0]) ?_ 1 _ rfl; (with_reducible repeat (first | refine blk_drewN ?_ _ | refine blk_drew ?_ | refine blk_alloc ?_ _)); refine blk_put (cs := #[.int .i64 0, .int .i64 0, .slice none 0 0]) ?_ 0 _ rfl; (with_reducible repeat (first | refine blk_drewN ?_ _ | refine blk_drew ?_ | refine blk_alloc ?_ _)); exact BK171.out) Try.underlying33 rfl (by kernel_rfl)) rfl ?_
            exact ⟨_, by first | rfl | (simp [errW_none, errW_some] <;> rfl) | (simp [*, errW_none, errW_some] <;> rfl), by (with_reducible repeat (first | apply Kd.R_alloc | apply Kd.R_drewN | apply Kd.R_drew)); exact Kd.R_mono (Kd.R_far (p := ⟨gb171, 2, none⟩) (Kd.R_far (p := ⟨gb171, 1, none⟩) (Kd.R_far (p := ⟨gb171, 0, none⟩) (Kd.R_types HO_169002.out BK171.out (by decide)) (fun _ hk => hk.2) (.int .i64 a0_0)) (fun _ hk => hk.2) (.int .i64 a0_1)) (fun _ hk => hk.2) (.slice Ao6 l0_2.length co6)) (fun _ hk => hk.1.1), by repeat (first | (with_reducible first | exact HB.out | apply below_alloc | apply pw_below_drewN | apply below_drew1 | refine below_set ?_ GE168.out | refine below_set ?_ GE169.out | refine below_set ?_ GE170.out | refine below_set ?_ GE171.out) | exact HB.out), by repeat (first | (with_reducible first | exact HK.out | apply Kept.alloc | apply Kept.drewN | apply Kept.drew | refine Kept.setCell ?_ (.inr GW168.out) _ | refine Kept.setCell ?_ (.inr GW169.out) _ | refine Kept.setCell ?_ (.inr GW170.out) _ | refine Kept.setCell ?_ (.inr GW171.out) _) | exact HK.out)⟩
        · rw [if_neg c37] at H
          have c37b0 : (a1_2 == a2_2) = false := beq_eq_false_iff_ne.mpr c37
          have c37b1 : (a1_2 != a2_2) = true := bne_iff_ne.mpr c37
          simp only [Option.some.injEq, Prod.mk.injEq] at H
          obtain ⟨rfl, rfl, rfl, rfl⟩ := H
          have hnb63 := NB169_168.out
          have hnc63 := NB168_169.out
          have hnb64 := NB169_170.out
          have hnc64 := NB170_169.out
          have hnb65 := NB169_171.out
          have hnc65 := NB171_169.out
          have hcz66_0 : wc.cell? ⟨gb169, 0, none⟩ = some (.int .i64 a1_0) := (blk_cell BK169.out 0).trans rfl
          have hcz66_1 : wc.cell? ⟨gb169, 1, none⟩ = some (.int .i64 a1_1) := (blk_cell BK169.out 1).trans rfl
          have hcz66_2 : wc.cell? ⟨gb169, 2, none⟩ = some (.int .i64 a1_2) := (blk_cell BK169.out 2).trans rfl
          have hcz66_3 : wc.cell? ⟨gb169, 3, none⟩ = some (.int .i64 a1_3) := (blk_cell BK169.out 3).trans rfl
          have hfz66_0 := blk_frozen BK169.out 0
          have hfz66_1 := blk_frozen BK169.out 1
          have hfz66_2 := blk_frozen BK169.out 2
          have hfz66_3 := blk_frozen BK169.out 3
          have hnb67 := NB170_168.out
          have hnc67 := NB168_170.out
          have hnb68 := NB170_171.out
          have hnc68 := NB171_170.out
          have hcz69_0 : wc.cell? ⟨gb170, 0, none⟩ = some (.int .i64 a2_0) := (blk_cell BK170.out 0).trans rfl
          have hcz69_1 : wc.cell? ⟨gb170, 1, none⟩ = some (.int .i64 a2_1) := (blk_cell BK170.out 1).trans rfl
          have hcz69_2 : wc.cell? ⟨gb170, 2, none⟩ = some (.int .i64 a2_2) := (blk_cell BK170.out 2).trans rfl
          have hcz69_3 : wc.cell? ⟨gb170, 3, none⟩ = some (.int .i64 a2_3) := (blk_cell BK170.out 3).trans rfl
          have hfz69_0 := blk_frozen BK170.out 0
          have hfz69_1 := blk_frozen BK170.out 1
          have hfz69_2 := blk_frozen BK170.out 2
          have hfz69_3 := blk_frozen BK170.out 3
          have hnb70 := NB168_171.out
          have hnc70 := NB171_168.out
          have hcz71_0 : wc.cell? ⟨gb168, 0, none⟩ = some (.int .i64 a0_0) := (blk_cell BK168.out 0).trans rfl
          have hcz71_1 : wc.cell? ⟨gb168, 1, none⟩ = some (.int .i64 a0_1) := (blk_cell BK168.out 1).trans rfl
          have hcz71_2 : wc.cell? ⟨gb168, 2, none⟩ = some (.slice Ao6 l0_2.length co6) := (blk_cell BK168.out 2).trans rfl
          have hfz71_0 := blk_frozen BK168.out 0
          have hfz71_1 := blk_frozen BK168.out 1
          have hfz71_2 := blk_frozen BK168.out 2
          have hcz72_0 : wc.cell? ⟨gb171, 0, none⟩ = some (.int .i64 0) := (blk_cell BK171.out 0).trans rfl
          have hcz72_1 : wc.cell? ⟨gb171, 1, none⟩ = some (.int .i64 0) := (blk_cell BK171.out 1).trans rfl
          have hcz72_2 : wc.cell? ⟨gb171, 2, none⟩ = some (.slice none 0 0) := (blk_cell BK171.out 2).trans rfl
          have hfz72_0 := blk_frozen BK171.out 0
          have hfz72_1 := blk_frozen BK171.out 1
          have hfz72_2 := blk_frozen BK171.out 2
          go_wp2
          refine bodyPost_ret (results_ct rfl _ _ gb171 33 #[.int .i64 a0_0, .int .i64 a0_1, .slice Ao6 l0_2.length co6] (0, 0) _ rfl (by (with_reducible repeat (first | refine blk_drewN ?_ _ | refine blk_drew ?_ | refine blk_alloc ?_ _)); refine blk_put (cs := #[.int .i64 a0_0, .int .i64 a0_1, .slice none 0 0]) ?_ 2 _ rfl; (with_reducible repeat (first | refine blk_drewN ?_ _ | refine blk_drew ?_ | refine blk_alloc ?_ _)); refine blk_put (cs := #[.int .i64 a0_0, .int .i64 0, .slice none 0 0]) ?_ 1 _ rfl; (with_reducible repeat (first | refine blk_drewN ?_ _ | refine blk_drew ?_ | refine blk_alloc ?_ _)); refine blk_put (cs := #[.int .i64 0, .int .i64 0, .slice none 0 0]) ?_ 0 _ rfl; (with_reducible repeat (first | refine blk_drewN ?_ _ | refine blk_drew ?_ | refine blk_alloc ?_ _)); exact BK171.out) Try.underlying33 rfl (by kernel_rfl)) rfl ?_
          exact ⟨_, by first | rfl | (simp [errW_none, errW_some] <;> rfl) | (simp [*, errW_none, errW_some] <;> rfl), by (with_reducible repeat (first | apply Kd.R_alloc | apply Kd.R_drewN | apply Kd.R_drew)); exact Kd.R_mono (Kd.R_far (p := ⟨gb171, 2, none⟩) (Kd.R_far (p := ⟨gb171, 1, none⟩) (Kd.R_far (p := ⟨gb171, 0, none⟩) (Kd.R_types HO_169002.out BK171.out (by decide)) (fun _ hk => hk.2) (.int .i64 a0_0)) (fun _ hk => hk.2) (.int .i64 a0_1)) (fun _ hk => hk.2) (.slice Ao6 l0_2.length co6)) (fun _ hk => hk.1.1), by repeat (first | (with_reducible first | exact HB.out | apply below_alloc | apply pw_below_drewN | apply below_drew1 | refine below_set ?_ GE168.out | refine below_set ?_ GE169.out | refine below_set ?_ GE170.out | refine below_set ?_ GE171.out) | exact HB.out), by repeat (first | (with_reducible first | exact HK.out | apply Kept.alloc | apply Kept.drewN | apply Kept.drew | refine Kept.setCell ?_ (.inr GW168.out) _ | refine Kept.setCell ?_ (.inr GW169.out) _ | refine Kept.setCell ?_ (.inr GW170.out) _ | refine Kept.setCell ?_ (.inr GW171.out) _) | exact HK.out)⟩

-- NOT PRINTED: function 26 (screen_Screen_Resize)

/-! ### miradorref14_At: function 30 -/
def miradorref14_At.f (a0_0 : Int) (a0_1 : Int) (l0_2 : List Int) (a1 : Int) (a2 : Int) : Option (Int) := if a1 < 0 then (some 0) else (if a2 < 0 then (some 0) else (if a1 ≥ a0_0 then (some 0) else (if a2 ≥ a0_1 then (some 0) else (if 0 ≤ (wrap64 ((wrap64 (a2 * a0_0)) + a1)) then (if (wrap64 ((wrap64 (a2 * a0_0)) + a1)) < (l0_2.length : Int) then (some (rd l0_2 (wrap64 ((wrap64 (a2 * a0_0)) + a1)))) else (none)) else (none)))))
set_option maxHeartbeats 8000000 in
set_option maxRecDepth 100000 in
theorem miradorref14_At.calls (a0_0 : Int) (a0_1 : Int) (A0_2 : Option Addr) (c0_2 : Nat) (l0_2 : List Int) (a1 : Int) (a2 : Int) (r : Int) (w : World) (hr0_2 : Kd.C (Kd.int .i64) w A0_2 l0_2.length l0_2) (hc0_2 : l0_2.length ≤ c0_2) (h : miradorref14_At.f a0_0 a0_1 l0_2 a1 a2 = some r) :
    Calls Try.prog 30 #[.agg #[.int .i64 a0_0, .int .i64 a0_1, .slice A0_2 l0_2.length c0_2], .int .i64 a1, .int .i64 a2] w fun e w' => e = .returned (.int .i64 r) ∧ Below w.heap.size w w' := by
  have hu33 := Try.underlying33
  have HR0_2 := Aside0.mk hr0_2
  have HC0_2 := Aside0.mk hc0_2
  clear hr0_2 hc0_2
  have HB := Aside0.mk (Below.refl w.heap.size w)
  have H : (if a1 < 0 then (some 0) else (if a2 < 0 then (some 0) else (if a1 ≥ a0_0 then (some 0) else (if a2 ≥ a0_1 then (some 0) else (if 0 ≤ (wrap64 ((wrap64 (a2 * a0_0)) + a1)) then (if (wrap64 ((wrap64 (a2 * a0_0)) + a1)) < (l0_2.length : Int) then (some (rd l0_2 (wrap64 ((wrap64 (a2 * a0_0)) + a1)))) else (none)) else (none)))))) = some r := h
  clear h
  by_cases c4 : a1 < 0
  · rw [if_pos c4] at H
    have c4b0 : decide (a1 < 0) = true := decide_eq_true c4
    clear c4
    obtain rfl := Option.some.inj H
    go_enter Try.func30, Try.ntmps30
    go_wp2_with (first | ((with_reducible refine gate_dst (N := 3) rfl ?_); refine box_event ?hg (N := 3) ?hd (cs := #[.int .i64 a0_0, .int .i64 a0_1, .slice A0_2 l0_2.length c0_2]) (t := 33) ?hr ?_; (case hd => rfl); (case hg => rfl); (case hr => first | (go_simp; done) | (go_simp; rfl)); intro gb183 hg w5 hbox hb; have n0_ := Aside0.mk (below_step (by repeat (first | (with_reducible first | exact HB.out | apply below_alloc | apply pw_below_drewN | apply below_drew1) | exact HB.out)) hb); have n1_ := Aside0.mk (hbox); have n2_ := Aside0.mk ((by rw [hg]; exact (below_size (by repeat (first | (with_reducible first | exact HB.out | apply below_alloc | apply pw_below_drewN | apply below_drew1) | exact HB.out))) : w.heap.size ≤ gb183)); have n3_ := Aside0.mk ((by rw [hg]; exact (below_size (by repeat (first | (with_reducible first | exact HB.out | apply below_alloc | apply pw_below_drewN | apply below_drew1) | exact HB.out))) : w.heap.size ≤ gb183)); clear HB; have HB := n0_; have BK183 := n1_; have GW183 := n2_; have GE183 := n3_; clear n0_ n1_ n2_ n3_; clear hb hbox hg))
    go_ret
    exact ⟨by first | rfl | (simp [errW_none, errW_some] <;> rfl) | (simp [*, errW_none, errW_some] <;> rfl), by repeat (first | (with_reducible first | exact HB.out | apply below_alloc | apply pw_below_drewN | apply below_drew1 | refine below_set ?_ GE183.out) | exact HB.out)⟩
  · rw [if_neg c4] at H
    have c4b0 : decide (a1 < 0) = false := decide_eq_false c4
    clear c4
    by_cases c6 : a2 < 0
    · rw [if_pos c6] at H
      have c6b0 : decide (a2 < 0) = true := decide_eq_true c6
      clear c6
      obtain rfl := Option.some.inj H
      go_enter Try.func30, Try.ntmps30
      go_wp2_with (first | ((with_reducible refine gate_dst (N := 3) rfl ?_); refine box_event ?hg (N := 3) ?hd (cs := #[.int .i64 a0_0, .int .i64 a0_1, .slice A0_2 l0_2.length c0_2]) (t := 33) ?hr ?_; (case hd => rfl); (case hg => rfl); (case hr => first | (go_simp; done) | (go_simp; rfl)); intro gb183 hg w7 hbox hb; have n0_ := Aside0.mk (below_step (by repeat (first | (with_reducible first | exact HB.out | apply below_alloc | apply pw_below_drewN | apply below_drew1) | exact HB.out)) hb); have n1_ := Aside0.mk (hbox); have n2_ := Aside0.mk ((by rw [hg]; exact (below_size (by repeat (first | (with_reducible first | exact HB.out | apply below_alloc | apply pw_below_drewN | apply below_drew1) | exact HB.out))) : w.heap.size ≤ gb183)); have n3_ := Aside0.mk ((by rw [hg]; exact (below_size (by repeat (first | (with_reducible first | exact HB.out | apply below_alloc | apply pw_below_drewN | apply below_drew1) | exact HB.out))) : w.heap.size ≤ gb183)); clear HB; have HB := n0_; have BK183 := n1_; have GW183 := n2_; have GE183 := n3_; clear n0_ n1_ n2_ n3_; clear hb hbox hg))
      go_ret
      exact ⟨by first | rfl | (simp [errW_none, errW_some] <;> rfl) | (simp [*, errW_none, errW_some] <;> rfl), by repeat (first | (with_reducible first | exact HB.out | apply below_alloc | apply pw_below_drewN | apply below_drew1 | refine below_set ?_ GE183.out) | exact HB.out)⟩
    · rw [if_neg c6] at H
      have c6b0 : decide (a2 < 0) = false := decide_eq_false c6
      clear c6
      by_cases c8 : a1 ≥ a0_0
      · rw [if_pos c8] at H
        have c8b0 : decide (a0_0 ≤ a1) = true := decide_eq_true c8
        clear c8
        obtain rfl := Option.some.inj H
        go_enter Try.func30, Try.ntmps30
        go_wp2_with (first | ((with_reducible refine gate_dst (N := 3) rfl ?_); refine box_event ?hg (N := 3) ?hd (cs := #[.int .i64 a0_0, .int .i64 a0_1, .slice A0_2 l0_2.length c0_2]) (t := 33) ?hr ?_; (case hd => rfl); (case hg => rfl); (case hr => first | (go_simp; done) | (go_simp; rfl)); intro gb183 hg w9 hbox hb; have n0_ := Aside0.mk (below_step (by repeat (first | (with_reducible first | exact HB.out | apply below_alloc | apply pw_below_drewN | apply below_drew1) | exact HB.out)) hb); have n1_ := Aside0.mk (hbox); have n2_ := Aside0.mk ((by rw [hg]; exact (below_size (by repeat (first | (with_reducible first | exact HB.out | apply below_alloc | apply pw_below_drewN | apply below_drew1) | exact HB.out))) : w.heap.size ≤ gb183)); have n3_ := Aside0.mk ((by rw [hg]; exact (below_size (by repeat (first | (with_reducible first | exact HB.out | apply below_alloc | apply pw_below_drewN | apply below_drew1) | exact HB.out))) : w.heap.size ≤ gb183)); clear HB; have HB := n0_; have BK183 := n1_; have GW183 := n2_; have GE183 := n3_; clear n0_ n1_ n2_ n3_; clear hb hbox hg; have hcz10_0 : w9.cell? ⟨gb183, 0, none⟩ = some (.int .i64 a0_0) := (blk_cell BK183.out 0).trans rfl; have hcz10_1 : w9.cell? ⟨gb183, 1, none⟩ = some (.int .i64 a0_1) := (blk_cell BK183.out 1).trans rfl; have hcz10_2 : w9.cell? ⟨gb183, 2, none⟩ = some (.slice A0_2 l0_2.length c0_2) := (blk_cell BK183.out 2).trans rfl; have hfz10_0 := blk_frozen BK183.out 0; have hfz10_1 := blk_frozen BK183.out 1; have hfz10_2 := blk_frozen BK183.out 2))
        go_ret
        exact ⟨by first | rfl | (simp [errW_none, errW_some] <;> rfl) | (simp [*, errW_none, errW_some] <;> rfl), by repeat (first | (with_reducible first | exact HB.out | apply below_alloc | apply pw_below_drewN | apply below_drew1 | refine below_set ?_ GE183.out) | exact HB.out)⟩
      · rw [if_neg c8] at H
        have c8b0 : decide (a0_0 ≤ a1) = false := decide_eq_false c8
        clear c8
        by_cases c11 : a2 ≥ a0_1
        · rw [if_pos c11] at H
          have c11b0 : decide (a0_1 ≤ a2) = true := decide_eq_true c11
          clear c11
          obtain rfl := Option.some.inj H
          go_enter Try.func30, Try.ntmps30
          go_wp2_with (first | ((with_reducible refine gate_dst (N := 3) rfl ?_); refine box_event ?hg (N := 3) ?hd (cs := #[.int .i64 a0_0, .int .i64 a0_1, .slice A0_2 l0_2.length c0_2]) (t := 33) ?hr ?_; (case hd => rfl); (case hg => rfl); (case hr => first | (go_simp; done) | (go_simp; rfl)); intro gb183 hg w12 hbox hb; have n0_ := Aside0.mk (below_step (by repeat (first | (with_reducible first | exact HB.out | apply below_alloc | apply pw_below_drewN | apply below_drew1) | exact HB.out)) hb); have n1_ := Aside0.mk (hbox); have n2_ := Aside0.mk ((by rw [hg]; exact (below_size (by repeat (first | (with_reducible first | exact HB.out | apply below_alloc | apply pw_below_drewN | apply below_drew1) | exact HB.out))) : w.heap.size ≤ gb183)); have n3_ := Aside0.mk ((by rw [hg]; exact (below_size (by repeat (first | (with_reducible first | exact HB.out | apply below_alloc | apply pw_below_drewN | apply below_drew1) | exact HB.out))) : w.heap.size ≤ gb183)); clear HB; have HB := n0_; have BK183 := n1_; have GW183 := n2_; have GE183 := n3_; clear n0_ n1_ n2_ n3_; clear hb hbox hg; have hcz13_0 : w12.cell? ⟨gb183, 0, none⟩ = some (.int .i64 a0_0) := (blk_cell BK183.out 0).trans rfl; have hcz13_1 : w12.cell? ⟨gb183, 1, none⟩ = some (.int .i64 a0_1) := (blk_cell BK183.out 1).trans rfl; have hcz13_2 : w12.cell? ⟨gb183, 2, none⟩ = some (.slice A0_2 l0_2.length c0_2) := (blk_cell BK183.out 2).trans rfl; have hfz13_0 := blk_frozen BK183.out 0; have hfz13_1 := blk_frozen BK183.out 1; have hfz13_2 := blk_frozen BK183.out 2))
          go_ret
          exact ⟨by first | rfl | (simp [errW_none, errW_some] <;> rfl) | (simp [*, errW_none, errW_some] <;> rfl), by repeat (first | (with_reducible first | exact HB.out | apply below_alloc | apply pw_below_drewN | apply below_drew1 | refine below_set ?_ GE183.out) | exact HB.out)⟩
        · rw [if_neg c11] at H
          have c11b0 : decide (a0_1 ≤ a2) = false := decide_eq_false c11
          clear c11
          obtain ⟨ji14, hji14⟩ : ∃ j_ : Int, (wrap64 ((wrap64 (a2 * a0_0)) + a1)) = j_ := ⟨_, rfl⟩
          replace H : (if 0 ≤ (ji14) then (if (ji14) < (l0_2.length : Int) then (some (rd l0_2 (ji14))) else (none)) else (none)) = some r := by first | (rw [hji14] at H; exact H) | (simp only [hji14] at H ⊢; exact H)
          have hji14w : (IntKind.i64.wrap ((wrap64 (a2 * a0_0)) + a1)) = ji14 := (i64_w _).trans hji14
          by_cases c15 : 0 ≤ (ji14)
          · rw [if_pos c15] at H
            have c15b0 : decide (0 ≤ (ji14)) = true := decide_eq_true c15
            clear c15
            by_cases c16 : (ji14) < (l0_2.length : Int)
            · rw [if_pos c16] at H
              have c16b0 : decide ((ji14) < (l0_2.length : Int)) = true := decide_eq_true c16
              clear c16
              obtain rfl := Option.some.inj H
              go_enter Try.func30, Try.ntmps30
              go_wp2_with (first | ((with_reducible refine gate_dst (N := 3) rfl ?_); refine box_event ?hg (N := 3) ?hd (cs := #[.int .i64 a0_0, .int .i64 a0_1, .slice A0_2 l0_2.length c0_2]) (t := 33) ?hr ?_; (case hd => rfl); (case hg => rfl); (case hr => first | (go_simp; done) | (go_simp; rfl)); intro gb183 hg w17 hbox hb; have n0_ := Aside0.mk (below_step (by repeat (first | (with_reducible first | exact HB.out | apply below_alloc | apply pw_below_drewN | apply below_drew1) | exact HB.out)) hb); have n1_ := Aside0.mk (hbox); have n2_ := Aside0.mk ((by rw [hg]; exact (below_size (by repeat (first | (with_reducible first | exact HB.out | apply below_alloc | apply pw_below_drewN | apply below_drew1) | exact HB.out))) : w.heap.size ≤ gb183)); have n3_ := Aside0.mk ((by rw [hg]; exact (below_size (by repeat (first | (with_reducible first | exact HB.out | apply below_alloc | apply pw_below_drewN | apply below_drew1) | exact HB.out))) : w.heap.size ≤ gb183)); clear HB; have HB := n0_; have BK183 := n1_; have GW183 := n2_; have GE183 := n3_; clear n0_ n1_ n2_ n3_; clear hb hbox hg; have hcz18_0 : w17.cell? ⟨gb183, 0, none⟩ = some (.int .i64 a0_0) := (blk_cell BK183.out 0).trans rfl; have hcz18_1 : w17.cell? ⟨gb183, 1, none⟩ = some (.int .i64 a0_1) := (blk_cell BK183.out 1).trans rfl; have hcz18_2 : w17.cell? ⟨gb183, 2, none⟩ = some (.slice A0_2 l0_2.length c0_2) := (blk_cell BK183.out 2).trans rfl; have hfz18_0 := blk_frozen BK183.out 0; have hfz18_1 := blk_frozen BK183.out 1; have hfz18_2 := blk_frozen BK183.out 2; have p184 : 0 ≤ ((ji14) : Int) := of_decide_eq_true (by first | (with_reducible assumption) | assumption); have q184 : (ji14) < (l0_2.length : Int) := of_decide_eq_true (by first | (with_reducible assumption) | assumption); obtain ⟨ad184, e184, hx184_0⟩ := Kd.at_int HR0_2.out (ji14) p184 q184; cases e184; replace hx184_0 := (HB.out.cell (World.block_lt_of_cell? w _ hx184_0)).trans hx184_0; replace p184 := eq_true p184; replace q184 := eq_true q184))
              go_ret
              exact ⟨by first | rfl | (simp [errW_none, errW_some] <;> rfl) | (simp only [← hji14]; first | rfl | (simp [errW_none, errW_some] <;> rfl)) | (simp [*, errW_none, errW_some] <;> rfl), by repeat (first | (with_reducible first | exact HB.out | apply below_alloc | apply pw_below_drewN | apply below_drew1 | refine below_set ?_ GE183.out) | exact HB.out)⟩
            · rw [if_neg c16] at H
              exact absurd H (by simp)
          · rw [if_neg c15] at H
            exact absurd H (by simp)

end Go.Proofs.Ytjcibgopebpkiaa.X
