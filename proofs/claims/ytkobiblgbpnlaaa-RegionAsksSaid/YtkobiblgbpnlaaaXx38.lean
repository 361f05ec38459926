/- What each Go function that these laws use answers: as a Lean function, with the proof that the machine's call comes to it. Written by a program of this session (xprint.py). -/
import Derived.Test.YtkobiblgbpnlaaaXx0
import Derived.Test.YtkobiblgbpnlaaaXx4
import Derived.Test.YtkobiblgbpnlaaaXx37
namespace Go.Proofs.Ytkobiblgbpnlaaa.X
open Go.RowKit Go.Proofs.YtkobiblgbpnlaaaW.PrintWords Go.Proofs.YtkobiblgbpnlaaaW.PrintLast Go.Proofs.YtkobiblgbpnlaaaW.PrintMore
attribute [local go_sem] max2_int min2_int max_two min_two max_three min_three max_four min_four   -- for this text's walks alone
set_option linter.unusedVariables false
set_option linter.unusedSimpArgs false

/-! ### region_Bounds: function 20 -/
def region_Bounds.l0 : Nat → List Int → List Int → List (S26) → Int → Int → Option (Int × Int × Int × Int)
 | 0, _, _, _, _, _ => none
 | k + 1, x3, x4, x10, x11, x12 => if x12 < x11 then (if 0 ≤ x12 then (if x12 < (x10.length : Int) then ((some (([(rd_T26 x10 x12).f0, wrap64 (((rd_T26 x10 x12).f0) + ((rd_T26 x10 x12).f2))] : List Int) : List Int)).bind fun y543 => (if x3.length + y543.length < 17592186044416 then ((some (([(rd_T26 x10 x12).f1, wrap64 (((rd_T26 x10 x12).f1) + ((rd_T26 x10 x12).f3))] : List Int) : List Int)).bind fun y549 => (if x4.length + y549.length < 17592186044416 then (region_Bounds.l0 k (x3 ++ y543) (x4 ++ y549) x10 x11 (wrap64 (x12 + 1))) else (none))) else (none))) else (none)) else (none)) else (if (x3.length : Int) = 0 then (some (0, 0, 0, 0)) else ((slices_Min_int_int.f x3).bind fun t555 => ((slices_Min_int_int.f x4).bind fun t556 => ((slices_Max_int_int.f x3).bind fun t557 => ((slices_Max_int_int.f x4).bind fun t558 => (some (t555, t556, wrap64 (t557 - t555), wrap64 (t558 - t556))))))))
def region_Bounds.f (k : Nat) (l0 : List (S26)) : Option (Int × Int × Int × Int) := (region_counting.f k l0).bind fun t538 => (region_Bounds.l0 k ([] : List Int) ([] : List Int) t538 (t538.length : Int) 0)
theorem region_Bounds.mono_l : ∀ k, (∀ y0 y1 y2 y3 y4, LeO (region_Bounds.l0 k y0 y1 y2 y3 y4) (region_Bounds.l0 (k + 1) y0 y1 y2 y3 y4))
 | 0 => fun _ _ _ _ _ r h => by simp [region_Bounds.l0] at h
 | k + 1 => by
  have ih0 := region_Bounds.mono_l k
  ·intro y0 y1 y2 y3 y4
   unfold region_Bounds.l0
   repeat' first
   | (with_reducible exact ih0 _ _ _ _ _)
   | (with_reducible exact region_counting.mono _ _)
   | (with_reducible exact LeO.refl _)
   | (with_reducible exact LeO.none _)
   | (with_reducible refine LeO.ite ?_ ?_)
   | (with_reducible refine LeO.bind ?_ (fun _ => ?_))
   | exact ih0 _ _ _ _ _
   | exact region_counting.mono _ _
   | exact LeO.none _
   | refine LeO.ite ?_ ?_
   | refine LeO.bind ?_ (fun _ => ?_)
theorem region_Bounds.mono : ∀ a0 k, LeO (region_Bounds.f k a0) (region_Bounds.f (k + 1) a0) := by
 intro a0 k
 have ih0 := region_Bounds.mono_l k
 unfold region_Bounds.f
 repeat' first
   | (with_reducible exact ih0 _ _ _ _ _)
   | (with_reducible exact region_counting.mono _ _)
   | (with_reducible exact LeO.refl _)
   | (with_reducible exact LeO.none _)
   | (with_reducible refine LeO.ite ?_ ?_)
   | (with_reducible refine LeO.bind ?_ (fun _ => ?_))
   | exact ih0 _ _ _ _ _
   | exact region_counting.mono _ _
   | exact LeO.none _
   | refine LeO.ite ?_ ?_
   | refine LeO.bind ?_ (fun _ => ?_)
def region_Bounds.T5 : Bool × List (List Nat × List Nat) := (true, [([], []), ([], []), ([1], [1]), ([], []), ([3], [3]), ([], []), ([5], [5]), ([4, 6], [4, 6]), ([2, 7], [2, 7]), ([0, 8], [0, 8]), ([], []), ([], []), ([11], [11]), ([], []), ([13], [13]), ([], []), ([15], [15]), ([14, 16], [14, 16]), ([12, 17], [12, 17]), ([10, 18, 9], [10, 18]), ([9, 19, 0, 1, 2, 3, 4, 5, 6, 7, 8, 9], [0, 9]), ([19, 20, 0, 1, 2, 3, 4, 5, 6, 7, 8, 9, 10, 11, 12, 13, 14, 15, 16, 17, 18, 19, 20], [10, 19])])
def region_Bounds.B5 : List Nat := [0, 0, 2, 0, 8, 0, 32, 120, 254, 511, 0, 0, 2048, 0, 8192, 0, 32768, 122880, 260096, 524287, 1048575, 2097151]
theorem region_Bounds.tab5 : rtab .any (opsOf Try.f20 5) = region_Bounds.T5 := by kernel_rfl
theorem region_Bounds.bits5 : waitsOk region_Bounds.T5.2 region_Bounds.B5 = true := by kernel_rfl
set_option maxHeartbeats 8000000 in
set_option maxRecDepth 100000 in
theorem region_Bounds.calls (k : Nat) (A0 : Option Addr) (c0 : Nat) (l0 : List (S26)) (r1 : Int) (r2 : Int) (r3 : Int) (r4 : Int) (w : World) (hr0 : Kd.C k26 w A0 l0.length l0) (hc0 : l0.length ≤ c0) (h : region_Bounds.f k l0 = some (r1, r2, r3, r4)) :
  Calls Try.prog 20 #[.slice A0 l0.length c0] w fun e w' => e = .returned (.agg #[.int .i64 r1, .int .i64 r2, .int .i64 r3, .int .i64 r4]) ∧ Below w.heap.size w w' := by
 have hu26 := Try.underlying26
 have HR0 := Aside0.mk hr0
 have HC0 := Aside0.mk hc0
 clear hr0 hc0
 have HB := Aside0.mk (Below.refl w.heap.size w)
 have H : ((region_counting.f k l0).bind fun t538 => (region_Bounds.l0 k ([] : List Int) ([] : List Int) t538 (t538.length : Int) 0)) = some (r1, r2, r3, r4) := h
 clear h
 replace H := Option.bind_eq_some_iff.mp H
 obtain ⟨t538, A20, H⟩ := H
 replace H : (region_Bounds.l0 k ([] : List Int) ([] : List Int) t538 (t538.length : Int) 0) = some (r1, r2, r3, r4) := H
 have A2 := Aside0.mk A20
 clear A20
 have H' := Aside0.mk H
 clear H
 go_enter Try.func20, Try.ntmps20
 go_wp2_with (first | ((with_reducible refine gate_dst (N := 2) rfl ?_); refine box_event ?hg (N := 2) ?hd (cs := #[.int .i64 0, .int .i64 0, .int .i64 0, .int .i64 0]) (t := 26) ?hr ?_; (case hd => rfl); (case hg => rfl); (case hr => first | (go_simp; done) | (go_simp; rfl)); intro gb537 hg w3 hbox hb; have n0_ := Aside0.mk (below_step (by repeat (first | (with_reducible first | exact HB.out | apply below_alloc | apply pw_below_drewN | apply below_drew1) | exact HB.out)) hb); have n1_ := Aside0.mk (hbox); have n2_ := Aside0.mk ((by rw [hg]; exact (below_size (by repeat (first | (with_reducible first | exact HB.out | apply below_alloc | apply pw_below_drewN | apply below_drew1) | exact HB.out))) : w.heap.size ≤ gb537)); have n3_ := Aside0.mk ((by rw [hg]; exact (below_size (by repeat (first | (with_reducible first | exact HB.out | apply below_alloc | apply pw_below_drewN | apply below_drew1) | exact HB.out))) : w.heap.size ≤ gb537)); clear HB; have HB := n0_; have BK537 := n1_; have GW537 := n2_; have GE537 := n3_; clear n0_ n1_ n2_ n3_; clear hb hbox hg) | ((with_reducible refine gate_callee (f := 35) rfl ?_); refine goesL_ (some 10) rfl rfl Try.func35 (by kernel_rfl) rfl #[.slice A0 l0.length c0] rfl (by (try simp only [List.map_toArray, List.map_cons, List.map_nil]); first | done | rfl | (simp only [List.length_drop, List.length_take]; rfl)) ?_; (with_reducible refine (region_counting.calls k _ _ l0 t538 _ ?side1 ?side2 A2.out).mono ?_); (case side1 => repeat (first | exact (Kd.C_below HR0.out HB.out) | (with_reducible refine Kd.C_alloc ?_ _) | (with_reducible refine Kd.C_drewN ?_ _) | (with_reducible refine Kd.C_drew ?_))); (case side2 => exact HC0.out); rintro e w4 ⟨v539, rfl, ho0, hb⟩; refine ⟨_, rfl, ?_⟩; have n0_ := Aside0.mk (Kd.R_lower (Kd.R_newB ho0 (g := gb537) (o := .cells #[.int .i64 0, .int .i64 0, .int .i64 0, .int .i64 0] 26 (0, 0)) (by (with_reducible repeat (first | refine blk_drewN ?_ _ | refine blk_drew ?_ | refine blk_alloc ?_ _)); exact BK537.out)) (below_size (by repeat (first | (with_reducible first | exact HB.out | apply below_alloc | apply pw_below_drewN | apply below_drew1 | refine below_set ?_ GE537.out) | exact HB.out)))); have n1_ := Aside0.mk (blk_below (g := gb537) (o := .cells #[.int .i64 0, .int .i64 0, .int .i64 0, .int .i64 0] 26 (0, 0)) (by (with_reducible repeat (first | refine blk_drewN ?_ _ | refine blk_drew ?_ | refine blk_alloc ?_ _)); exact BK537.out) hb); have n2_ := Aside0.mk (below_step (by repeat (first | (with_reducible first | exact HB.out | apply below_alloc | apply pw_below_drewN | apply below_drew1 | refine below_set ?_ GE537.out) | exact HB.out)) hb); clear BK537; clear HB; have HO540 := n0_; have BK537 := n1_; have HB := n2_; clear n0_ n1_ n2_; (try clear hb); (try clear hb2); (try clear hk); (try clear hi); (try clear ho0); obtain ⟨Ao5, co5, eo5⟩ := Kd.R_slice HO540.out; subst eo5))
 go_loopg [3, 4, 12] k (fun kq v3 v4 v12 w' => ∃ (x3_1 : List Int) (x4_1 : List Int) (x12_1 : Int), v12 = .int .i64 x12_1 ∧ Aside0 (region_Bounds.l0 kq x3_1 x4_1 t538 (t538.length : Int) x12_1 = some (r1, r2, r3, r4)) ∧ Aside0 (kq ≤ k) ∧ Aside0 (Kd.R (Kd.int .i64) 3 w' w.heap.size (fun k_ => some k_ ≠ (v4 : Value).ownBlock) v3 x3_1) ∧ Aside0 (Kd.R (Kd.int .i64) 3 w' w.heap.size (fun k_ => some k_ ≠ (v3 : Value).ownBlock) v4 x4_1) ∧ Aside0 (Kd.R k26 26 w' w.heap.size (fun k_ => k_ ≠ gb537) (.slice Ao5 t538.length co5) t538) ∧ Aside0 (w'.heap[gb537]? = some (.cells #[.int .i64 0, .int .i64 0, .int .i64 0, .int .i64 0] 26 (0, 0))) ∧ Aside0 (Below w.heap.size w w'))
 case atStart => exact ⟨(([] : List Int)), (([] : List Int)), (0), (by first | rfl | (simp; done) | (simp [*]; done)), H', ⟨Nat.le_refl _⟩, ⟨by first | exact Kd.R_nil _ _ _ _ _ | exact Kd.N_nil _ _ _ _ _ | exact Kd.V_nil _ _ _ _ _ | exact Kd.Q_nil _ _ _ _ _ | exact Kd.S_nil _ _ _ _ _⟩, ⟨by first | exact Kd.R_nil _ _ _ _ _ | exact Kd.N_nil _ _ _ _ _ | exact Kd.V_nil _ _ _ _ _ | exact Kd.Q_nil _ _ _ _ _ | exact Kd.S_nil _ _ _ _ _⟩, ⟨by (with_reducible repeat (first | apply Kd.R_alloc | apply Kd.R_drewN | apply Kd.R_drew)); exact Kd.R_mono HO540.out (fun _ hk => hk.2)⟩, ⟨by (with_reducible repeat (first | refine blk_drewN ?_ _ | refine blk_drew ?_ | refine blk_alloc ?_ _)); exact BK537.out⟩, ⟨by repeat (first | (with_reducible first | exact HB.out | apply below_alloc | apply pw_below_drewN | apply below_drew1 | refine below_set ?_ GE537.out) | exact HB.out)⟩⟩
 case round =>
  clear H'
  try clear c2
  try clear p2
  try clear c3
  obtain ⟨x3_1, x4_1, x12_1, rfl, HA, HK1, HO_3, HO_4, HO_10, BK537, HB⟩ := hrel
  cases gk with
  | zero => exact absurd HA.out (by simp [region_Bounds.l0])
  | succ k1 =>
   have H := HA.out
   clear HA
   simp only [region_Bounds.l0] at H
   by_cases c6 : x12_1 < (t538.length : Int)
   ·rw [if_pos c6] at H
    have c6b0 : decide (x12_1 < (t538.length : Int)) = true := decide_eq_true c6
    clear c6
    by_cases c7 : 0 ≤ x12_1
    ·rw [if_pos c7] at H
     have c7b0 : decide (0 ≤ x12_1) = true := decide_eq_true c7
     clear c7
     by_cases c8 : x12_1 < (t538.length : Int)
     ·rw [if_pos c8] at H
      have c8b0 : decide (x12_1 < (t538.length : Int)) = true := decide_eq_true c8
      clear c8
      obtain ⟨y543, hy543⟩ : ∃ y_ : List Int, y_ = (([(rd_T26 t538 x12_1).f0, wrap64 (((rd_T26 t538 x12_1).f0) + ((rd_T26 t538 x12_1).f2))] : List Int)) := ⟨_, rfl⟩
      replace H : (if x3_1.length + y543.length < 17592186044416 then ((some (([(rd_T26 t538 x12_1).f1, wrap64 (((rd_T26 t538 x12_1).f1) + ((rd_T26 t538 x12_1).f3))] : List Int) : List Int)).bind fun y549 => (if x4_1.length + y549.length < 17592186044416 then (region_Bounds.l0 k1 (x3_1 ++ y543) (x4_1 ++ y549) t538 (t538.length : Int) (wrap64 (x12_1 + 1))) else (none))) else (none)) = some (r1, r2, r3, r4) := by first | (rw [hy543]; with_reducible exact H) | (have H2_ := (Option.bind_some _ _).symm.trans H; rw [hy543]; with_reducible exact H2_) | (have H2_ := (Option.bind_some _ _).symm.trans H; with_reducible exact H2_) | with_reducible exact H | (rw [hy543]; exact H) | exact H
      have Ny543 := Aside0.mk hy543
      clear hy543
      by_cases c9 : x3_1.length + y543.length < 17592186044416
      ·rw [if_pos c9] at H
       have LMc9 := Aside0.mk c9
       clear c9
       obtain ⟨y546, hy546⟩ : ∃ y_ : List Int, y_ = (x3_1 ++ y543) := ⟨_, rfl⟩
       replace H : ((some (([(rd_T26 t538 x12_1).f1, wrap64 (((rd_T26 t538 x12_1).f1) + ((rd_T26 t538 x12_1).f3))] : List Int) : List Int)).bind fun y549 => (if x4_1.length + y549.length < 17592186044416 then (region_Bounds.l0 k1 y546 (x4_1 ++ y549) t538 (t538.length : Int) (wrap64 (x12_1 + 1))) else (none))) = some (r1, r2, r3, r4) := by first | (rw [hy546]; with_reducible exact H) | (have H2_ := (Option.bind_some _ _).symm.trans H; rw [hy546]; with_reducible exact H2_) | (have H2_ := (Option.bind_some _ _).symm.trans H; with_reducible exact H2_) | with_reducible exact H | (rw [hy546]; exact H) | exact H
       have Ny546 := Aside0.mk hy546
       clear hy546
       obtain ⟨y549, hy549⟩ : ∃ y_ : List Int, y_ = (([(rd_T26 t538 x12_1).f1, wrap64 (((rd_T26 t538 x12_1).f1) + ((rd_T26 t538 x12_1).f3))] : List Int)) := ⟨_, rfl⟩
       replace H : (if x4_1.length + y549.length < 17592186044416 then (region_Bounds.l0 k1 y546 (x4_1 ++ y549) t538 (t538.length : Int) (wrap64 (x12_1 + 1))) else (none)) = some (r1, r2, r3, r4) := by first | (rw [hy549]; with_reducible exact H) | (have H2_ := (Option.bind_some _ _).symm.trans H; rw [hy549]; with_reducible exact H2_) | (have H2_ := (Option.bind_some _ _).symm.trans H; with_reducible exact H2_) | with_reducible exact H | (rw [hy549]; exact H) | exact H
       have Ny549 := Aside0.mk hy549
       clear hy549
       by_cases c10 : x4_1.length + y549.length < 17592186044416
       ·rw [if_pos c10] at H
        have LMc10 := Aside0.mk c10
        clear c10
        obtain ⟨y552, hy552⟩ : ∃ y_ : List Int, y_ = (x4_1 ++ y549) := ⟨_, rfl⟩
        replace H : (region_Bounds.l0 k1 y546 y552 t538 (t538.length : Int) (wrap64 (x12_1 + 1))) = some (r1, r2, r3, r4) := by first | (rw [hy552]; with_reducible exact H) | (have H2_ := (Option.bind_some _ _).symm.trans H; rw [hy552]; with_reducible exact H2_) | (have H2_ := (Option.bind_some _ _).symm.trans H; with_reducible exact H2_) | with_reducible exact H | (rw [hy552]; exact H) | exact H
        have Ny552 := Aside0.mk hy552
        clear hy552
        have H' := Aside0.mk H
        clear H
        have p541 : 0 ≤ (x12_1 : Int) := of_decide_eq_true (by first | (with_reducible assumption) | assumption)
        have q541 : x12_1 < (t538.length : Int) := of_decide_eq_true (by first | (with_reducible assumption) | assumption)
        obtain ⟨ad541, e541, hx541_0, hx541_1, hx541_2, hx541_3⟩ := at_T26 (Kd.R_reads' HO_10.out).2.2 x12_1 p541 q541
        cases e541
        replace p541 := eq_true p541
        replace q541 := eq_true q541
        try go_wp2_with (first | ((with_reducible refine gate_dst (N := 6) rfl ?_); refine box_event ?hg (N := 6) ?hd (cs := #[.int .i64 0, .int .i64 0, .int .i64 0, .int .i64 0]) (t := 26) ?hr ?_; (case hd => rfl); (case hg => rfl); (case hr => first | (go_simp; done) | (go_simp; rfl)); intro gb542 hg w11 hbox hb; have n0_ := Aside0.mk (Kd.R_below (by (with_reducible repeat (first | apply Kd.R_alloc | apply Kd.R_drewN | apply Kd.R_drew)); exact HO_3.out) hb); have n1_ := Aside0.mk (Kd.R_below (by (with_reducible repeat (first | apply Kd.R_alloc | apply Kd.R_drewN | apply Kd.R_drew)); exact HO_4.out) hb); have n2_ := Aside0.mk (Kd.R_below (Kd.R_elderB (by (with_reducible repeat (first | apply Kd.R_alloc | apply Kd.R_drewN | apply Kd.R_drew)); exact HO_10.out) gb542 (Nat.le_of_eq hg.symm)) hb); have n3_ := Aside0.mk (blk_below (g := gb537) (o := .cells #[.int .i64 0, .int .i64 0, .int .i64 0, .int .i64 0] 26 (0, 0)) (by (with_reducible repeat (first | refine blk_drewN ?_ _ | refine blk_drew ?_ | refine blk_alloc ?_ _)); exact BK537.out) hb); have n4_ := Aside0.mk (below_step (by repeat (first | (with_reducible first | exact HB.out | apply below_alloc | apply pw_below_drewN | apply below_drew1 | refine below_set ?_ GE537.out) | exact HB.out)) hb); have n5_ := Aside0.mk (hbox); have n6_ := Aside0.mk ((by rw [hg]; exact (below_size (by repeat (first | (with_reducible first | exact HB.out | apply below_alloc | apply pw_below_drewN | apply below_drew1 | refine below_set ?_ GE537.out) | exact HB.out))) : w.heap.size ≤ gb542)); have n7_ := Aside0.mk ((by rw [hg]; exact (below_size (by repeat (first | (with_reducible first | exact HB.out | apply below_alloc | apply pw_below_drewN | apply below_drew1 | refine below_set ?_ GE537.out) | exact HB.out))) : w.heap.size ≤ gb542)); have n8_ := Aside0.mk ((by rw [hg]; exact Nat.ne_of_lt (blk_lt (g := gb537) (o := .cells #[.int .i64 0, .int .i64 0, .int .i64 0, .int .i64 0] 26 (0, 0)) (by (with_reducible repeat (first | refine blk_drewN ?_ _ | refine blk_drew ?_ | refine blk_alloc ?_ _)); exact BK537.out)) : gb537 ≠ gb542)); have n9_ := Aside0.mk ((by rw [hg]; exact Nat.ne_of_gt (blk_lt (g := gb537) (o := .cells #[.int .i64 0, .int .i64 0, .int .i64 0, .int .i64 0] 26 (0, 0)) (by (with_reducible repeat (first | refine blk_drewN ?_ _ | refine blk_drew ?_ | refine blk_alloc ?_ _)); exact BK537.out)) : gb542 ≠ gb537)); clear HO_3; clear HO_4; clear HO_10; clear BK537; clear HB; have HO_3 := n0_; have HO_4 := n1_; have HO_10 := n2_; have BK537 := n3_; have HB := n4_; have BK542 := n5_; have GW542 := n6_; have GE542 := n7_; have NB537_542 := n8_; have NB542_537 := n9_; clear n0_ n1_ n2_ n3_ n4_ n5_ n6_ n7_ n8_ n9_; clear hb hbox hg; have hnb12 := NB542_537.out; have hnc12 := NB537_542.out; have hcz13_0 : w11.cell? ⟨gb542, 0, none⟩ = some (.int .i64 0) := (blk_cell BK542.out 0).trans rfl; have hcz13_1 : w11.cell? ⟨gb542, 1, none⟩ = some (.int .i64 0) := (blk_cell BK542.out 1).trans rfl; have hcz13_2 : w11.cell? ⟨gb542, 2, none⟩ = some (.int .i64 0) := (blk_cell BK542.out 2).trans rfl; have hcz13_3 : w11.cell? ⟨gb542, 3, none⟩ = some (.int .i64 0) := (blk_cell BK542.out 3).trans rfl; have hfz13_0 := blk_frozen BK542.out 0; have hfz13_1 := blk_frozen BK542.out 1; have hfz13_2 := blk_frozen BK542.out 2; have hfz13_3 := blk_frozen BK542.out 3; obtain ⟨Ao14, co14, eo14⟩ := Kd.R_slice HO_3.out; subst eo14; obtain ⟨Ao15, co15, eo15⟩ := Kd.R_slice HO_4.out; subst eo15))
        have n0_ : Aside0 (Kd.R (Kd.int .i64) 3 ((((w11.setCell ⟨gb542, 0, none⟩ (.int .i64 ((rd_T26 t538 x12_1).f0))).setCell ⟨gb542, 1, none⟩ (.int .i64 ((rd_T26 t538 x12_1).f1))).setCell ⟨gb542, 2, none⟩ (.int .i64 ((rd_T26 t538 x12_1).f2))).setCell ⟨gb542, 3, none⟩ (.int .i64 ((rd_T26 t538 x12_1).f3))) w.heap.size (fun k_ => some k_ ≠ (.slice Ao15 x4_1.length co15 : Value).ownBlock) (.slice Ao14 x3_1.length co14) x3_1) := ⟨by (with_reducible repeat (first | apply Kd.R_alloc | apply Kd.R_drewN | apply Kd.R_drew)); exact Kd.R_mono (Kd.R_far (p := ⟨gb542, 3, none⟩) (Kd.R_far (p := ⟨gb542, 2, none⟩) (Kd.R_far (p := ⟨gb542, 1, none⟩) (Kd.R_far (p := ⟨gb542, 0, none⟩) (Kd.R_types HO_3.out BK542.out (by decide)) (fun _ hk => hk.2) (.int .i64 ((rd_T26 t538 x12_1).f0))) (fun _ hk => hk.2) (.int .i64 ((rd_T26 t538 x12_1).f1))) (fun _ hk => hk.2) (.int .i64 ((rd_T26 t538 x12_1).f2))) (fun _ hk => hk.2) (.int .i64 ((rd_T26 t538 x12_1).f3))) (fun _ hk => hk.1)⟩
        have n1_ : Aside0 (Kd.R (Kd.int .i64) 3 ((((w11.setCell ⟨gb542, 0, none⟩ (.int .i64 ((rd_T26 t538 x12_1).f0))).setCell ⟨gb542, 1, none⟩ (.int .i64 ((rd_T26 t538 x12_1).f1))).setCell ⟨gb542, 2, none⟩ (.int .i64 ((rd_T26 t538 x12_1).f2))).setCell ⟨gb542, 3, none⟩ (.int .i64 ((rd_T26 t538 x12_1).f3))) w.heap.size (fun k_ => some k_ ≠ (.slice Ao14 x3_1.length co14 : Value).ownBlock) (.slice Ao15 x4_1.length co15) x4_1) := ⟨by (with_reducible repeat (first | apply Kd.R_alloc | apply Kd.R_drewN | apply Kd.R_drew)); exact Kd.R_mono (Kd.R_far (p := ⟨gb542, 3, none⟩) (Kd.R_far (p := ⟨gb542, 2, none⟩) (Kd.R_far (p := ⟨gb542, 1, none⟩) (Kd.R_far (p := ⟨gb542, 0, none⟩) (Kd.R_types HO_4.out BK542.out (by decide)) (fun _ hk => hk.2) (.int .i64 ((rd_T26 t538 x12_1).f0))) (fun _ hk => hk.2) (.int .i64 ((rd_T26 t538 x12_1).f1))) (fun _ hk => hk.2) (.int .i64 ((rd_T26 t538 x12_1).f2))) (fun _ hk => hk.2) (.int .i64 ((rd_T26 t538 x12_1).f3))) (fun _ hk => hk.1)⟩
        have n2_ : Aside0 (Kd.R k26 26 ((((w11.setCell ⟨gb542, 0, none⟩ (.int .i64 ((rd_T26 t538 x12_1).f0))).setCell ⟨gb542, 1, none⟩ (.int .i64 ((rd_T26 t538 x12_1).f1))).setCell ⟨gb542, 2, none⟩ (.int .i64 ((rd_T26 t538 x12_1).f2))).setCell ⟨gb542, 3, none⟩ (.int .i64 ((rd_T26 t538 x12_1).f3))) w.heap.size (fun k_ => k_ ≠ gb537 ∧ k_ ≠ gb542) (.slice (some ad541) t538.length co5) t538) := ⟨by (with_reducible repeat (first | apply Kd.R_alloc | apply Kd.R_drewN | apply Kd.R_drew)); exact Kd.R_mono (Kd.R_far (p := ⟨gb542, 3, none⟩) (Kd.R_far (p := ⟨gb542, 2, none⟩) (Kd.R_far (p := ⟨gb542, 1, none⟩) (Kd.R_far (p := ⟨gb542, 0, none⟩) (Kd.R_mono HO_10.out (fun k_ hk => (⟨hk, hk.2⟩ : _ ∧ k_ ≠ gb542))) (fun _ hk => hk.2) (.int .i64 ((rd_T26 t538 x12_1).f0))) (fun _ hk => hk.2) (.int .i64 ((rd_T26 t538 x12_1).f1))) (fun _ hk => hk.2) (.int .i64 ((rd_T26 t538 x12_1).f2))) (fun _ hk => hk.2) (.int .i64 ((rd_T26 t538 x12_1).f3))) (fun _ hk => ⟨hk.1.1, hk.1.2⟩)⟩
        have n3_ : Aside0 (((((w11.setCell ⟨gb542, 0, none⟩ (.int .i64 ((rd_T26 t538 x12_1).f0))).setCell ⟨gb542, 1, none⟩ (.int .i64 ((rd_T26 t538 x12_1).f1))).setCell ⟨gb542, 2, none⟩ (.int .i64 ((rd_T26 t538 x12_1).f2))).setCell ⟨gb542, 3, none⟩ (.int .i64 ((rd_T26 t538 x12_1).f3))).heap[gb537]? = some (.cells #[.int .i64 0, .int .i64 0, .int .i64 0, .int .i64 0] 26 (0, 0))) := ⟨by (with_reducible repeat (first | refine blk_drewN ?_ _ | refine blk_drew ?_ | refine blk_alloc ?_ _)); refine blk_far ?_ NB537_542.out _; (with_reducible repeat (first | refine blk_drewN ?_ _ | refine blk_drew ?_ | refine blk_alloc ?_ _)); refine blk_far ?_ NB537_542.out _; (with_reducible repeat (first | refine blk_drewN ?_ _ | refine blk_drew ?_ | refine blk_alloc ?_ _)); refine blk_far ?_ NB537_542.out _; (with_reducible repeat (first | refine blk_drewN ?_ _ | refine blk_drew ?_ | refine blk_alloc ?_ _)); refine blk_far ?_ NB537_542.out _; (with_reducible repeat (first | refine blk_drewN ?_ _ | refine blk_drew ?_ | refine blk_alloc ?_ _)); exact BK537.out⟩
        have n4_ : Aside0 (((((w11.setCell ⟨gb542, 0, none⟩ (.int .i64 ((rd_T26 t538 x12_1).f0))).setCell ⟨gb542, 1, none⟩ (.int .i64 ((rd_T26 t538 x12_1).f1))).setCell ⟨gb542, 2, none⟩ (.int .i64 ((rd_T26 t538 x12_1).f2))).setCell ⟨gb542, 3, none⟩ (.int .i64 ((rd_T26 t538 x12_1).f3))).heap[gb542]? = some (.cells #[.int .i64 ((rd_T26 t538 x12_1).f0), .int .i64 ((rd_T26 t538 x12_1).f1), .int .i64 ((rd_T26 t538 x12_1).f2), .int .i64 ((rd_T26 t538 x12_1).f3)] 26 (0, 0))) := ⟨by (with_reducible repeat (first | refine blk_drewN ?_ _ | refine blk_drew ?_ | refine blk_alloc ?_ _)); refine blk_put (cs := #[.int .i64 ((rd_T26 t538 x12_1).f0), .int .i64 ((rd_T26 t538 x12_1).f1), .int .i64 ((rd_T26 t538 x12_1).f2), .int .i64 0]) ?_ 3 _ rfl; (with_reducible repeat (first | refine blk_drewN ?_ _ | refine blk_drew ?_ | refine blk_alloc ?_ _)); refine blk_put (cs := #[.int .i64 ((rd_T26 t538 x12_1).f0), .int .i64 ((rd_T26 t538 x12_1).f1), .int .i64 0, .int .i64 0]) ?_ 2 _ rfl; (with_reducible repeat (first | refine blk_drewN ?_ _ | refine blk_drew ?_ | refine blk_alloc ?_ _)); refine blk_put (cs := #[.int .i64 ((rd_T26 t538 x12_1).f0), .int .i64 0, .int .i64 0, .int .i64 0]) ?_ 1 _ rfl; (with_reducible repeat (first | refine blk_drewN ?_ _ | refine blk_drew ?_ | refine blk_alloc ?_ _)); refine blk_put (cs := #[.int .i64 0, .int .i64 0, .int .i64 0, .int .i64 0]) ?_ 0 _ rfl; (with_reducible repeat (first | refine blk_drewN ?_ _ | refine blk_drew ?_ | refine blk_alloc ?_ _)); exact BK542.out⟩
        have n5_ : Aside0 (Below w.heap.size w ((((w11.setCell ⟨gb542, 0, none⟩ (.int .i64 ((rd_T26 t538 x12_1).f0))).setCell ⟨gb542, 1, none⟩ (.int .i64 ((rd_T26 t538 x12_1).f1))).setCell ⟨gb542, 2, none⟩ (.int .i64 ((rd_T26 t538 x12_1).f2))).setCell ⟨gb542, 3, none⟩ (.int .i64 ((rd_T26 t538 x12_1).f3)))) := ⟨by repeat (first | (with_reducible first | exact HB.out | apply below_alloc | apply pw_below_drewN | apply below_drew1 | refine below_set ?_ GE537.out | refine below_set ?_ GE542.out) | exact HB.out)⟩
        (try clear HO_3)
        (try clear HO_4)
        (try clear HO_10)
        (try clear BK537)
        (try clear BK542)
        (try clear HB)
        generalize ((((w11.setCell ⟨gb542, 0, none⟩ (.int .i64 ((rd_T26 t538 x12_1).f0))).setCell ⟨gb542, 1, none⟩ (.int .i64 ((rd_T26 t538 x12_1).f1))).setCell ⟨gb542, 2, none⟩ (.int .i64 ((rd_T26 t538 x12_1).f2))).setCell ⟨gb542, 3, none⟩ (.int .i64 ((rd_T26 t538 x12_1).f3))) = w16 at n0_ n1_ n2_ n3_ n4_ n5_ ⊢
        have HO_3 := n0_
        have HO_4 := n1_
        have HO_10 := n2_
        have BK537 := n3_
        have BK542 := n4_
        have HB := n5_
        clear n0_ n1_ n2_ n3_ n4_ n5_
        have n0_ := Aside0.mk (Kd.R_drew HO_3.out)
        have n1_ := Aside0.mk (Kd.R_drew HO_4.out)
        have n2_ := Aside0.mk (Kd.R_drew HO_10.out)
        have n3_ := Aside0.mk (blk_drew BK537.out)
        have n4_ := Aside0.mk (blk_drew BK542.out)
        have n5_ := Aside0.mk (below_drew1 HB.out)
        clear HO_3
        clear HO_4
        clear HO_10
        clear BK537
        clear BK542
        clear HB
        have HO_3 := n0_
        have HO_4 := n1_
        have HO_10 := n2_
        have BK537 := n3_
        have BK542 := n4_
        have HB := n5_
        clear n0_ n1_ n2_ n3_ n4_ n5_
        refine start_ (n := 22) (S := fun w' => w'.cell? ⟨gb542, 0, none⟩ = some (.int .i64 ((rd_T26 t538 x12_1).f0)) ∧ w'.cell? ⟨gb542, 1, none⟩ = some (.int .i64 ((rd_T26 t538 x12_1).f1)) ∧ w'.cell? ⟨gb542, 2, none⟩ = some (.int .i64 ((rd_T26 t538 x12_1).f2)) ∧ w'.cell? ⟨gb542, 3, none⟩ = some (.int .i64 ((rd_T26 t538 x12_1).f3))) (ds := []) #[false, false, false, false, false, false, false, false, false, false, false, false, false, false, false, false, false, false, false, false, false, false] (by kernel_rfl) rfl rfl ⟨(blk_cell BK542.out 0).trans rfl, (blk_cell BK542.out 1).trans rfl, (blk_cell BK542.out 2).trans rfl, (blk_cell BK542.out 3).trans rfl⟩ (fun hHeld => ?_); refine with_tabW region_Bounds.tab5 region_Bounds.bits5 (fun HT_ HW_ => ?_)
        generalize w16.drew = w17 at HO_3 HO_4 HO_10 BK537 BK542 HB hHeld ⊢
        refine pure_ (i := 0) (N := some 16) (v := ?_) (a' := ?_) #[true, false, false, false, false, false, false, false, false, false, false, false, false, false, false, false, false, false, false, false, false, false] rfl rfl (any_of HT_.out (by kernel_rfl)) (fun _ _ _ h => h) (Or.inl ⟨by rfl, ?_⟩) ?_ ?_
        rotate_left
        ·intro w'
         go_simp
         with_reducible rfl
        rotate_left
        ·simp only [Act.put, List.setIfInBounds_toArray, List.set_cons_zero, List.set_cons_succ, i64_w, i32_w]
         rfl
        refine pure_ (i := 1) (N := some 17) (v := ?_) (a' := ?_) #[true, true, false, false, false, false, false, false, false, false, false, false, false, false, false, false, false, false, false, false, false, false] rfl rfl (any_of HT_.out (by kernel_rfl)) (fun _ _ _ h => h) (Or.inl ⟨by rfl, ?_⟩) ?_ ?_
        rotate_left
        ·intro w'
         go_simp
         with_reducible rfl
        rotate_left
        ·simp only [Act.put, List.setIfInBounds_toArray, List.set_cons_zero, List.set_cons_succ, i64_w, i32_w]
         rfl
        refine pure_ (i := 3) (N := some 19) (v := ?_) (a' := ?_) #[true, true, false, true, false, false, false, false, false, false, false, false, false, false, false, false, false, false, false, false, false, false] rfl rfl (any_of HT_.out (by kernel_rfl)) (fun _ _ _ h => h) (Or.inl ⟨by rfl, ?_⟩) ?_ ?_
        rotate_left
        ·intro w'
         go_simp
         with_reducible rfl
        rotate_left
        ·simp only [Act.put, List.setIfInBounds_toArray, List.set_cons_zero, List.set_cons_succ, i64_w, i32_w]
         rfl
        refine pure_ (i := 5) (N := some 21) (v := ?_) (a' := ?_) #[true, true, false, true, false, true, false, false, false, false, false, false, false, false, false, false, false, false, false, false, false, false] rfl rfl (any_of HT_.out (by kernel_rfl)) (fun _ _ _ h => h) (Or.inl ⟨by rfl, ?_⟩) ?_ ?_
        rotate_left
        ·intro w'
         go_simp
         with_reducible rfl
        rotate_left
        ·simp only [Act.put, List.setIfInBounds_toArray, List.set_cons_zero, List.set_cons_succ, i64_w, i32_w]
         rfl
        refine pure_ (i := 10) (N := some 26) (v := ?_) (a' := ?_) #[true, true, false, true, false, true, false, false, false, false, true, false, false, false, false, false, false, false, false, false, false, false] rfl rfl (any_of HT_.out (by kernel_rfl)) (fun _ _ _ h => h) (Or.inl ⟨by rfl, ?_⟩) ?_ ?_
        rotate_left
        ·intro w'
         go_simp
         with_reducible rfl
        rotate_left
        ·simp only [Act.put, List.setIfInBounds_toArray, List.set_cons_zero, List.set_cons_succ, i64_w, i32_w]
         rfl
        refine pure_ (i := 11) (N := some 27) (v := ?_) (a' := ?_) #[true, true, false, true, false, true, false, false, false, false, true, true, false, false, false, false, false, false, false, false, false, false] rfl rfl (any_of HT_.out (by kernel_rfl)) (fun _ _ _ h => h) (Or.inl ⟨by rfl, ?_⟩) ?_ ?_
        rotate_left
        ·intro w'
         go_simp
         with_reducible rfl
        rotate_left
        ·simp only [Act.put, List.setIfInBounds_toArray, List.set_cons_zero, List.set_cons_succ, i64_w, i32_w]
         rfl
        refine pure_ (i := 13) (N := some 29) (v := ?_) (a' := ?_) #[true, true, false, true, false, true, false, false, false, false, true, true, false, true, false, false, false, false, false, false, false, false] rfl rfl (any_of HT_.out (by kernel_rfl)) (fun _ _ _ h => h) (Or.inl ⟨by rfl, ?_⟩) ?_ ?_
        rotate_left
        ·intro w'
         go_simp
         with_reducible rfl
        rotate_left
        ·simp only [Act.put, List.setIfInBounds_toArray, List.set_cons_zero, List.set_cons_succ, i64_w, i32_w]
         rfl
        refine pure_ (i := 15) (N := some 31) (v := ?_) (a' := ?_) #[true, true, false, true, false, true, false, false, false, false, true, true, false, true, false, true, false, false, false, false, false, false] rfl rfl (any_of HT_.out (by kernel_rfl)) (fun _ _ _ h => h) (Or.inl ⟨by rfl, ?_⟩) ?_ ?_
        rotate_left
        ·intro w'
         go_simp
         with_reducible rfl
        rotate_left
        ·simp only [Act.put, List.setIfInBounds_toArray, List.set_cons_zero, List.set_cons_succ, i64_w, i32_w]
         rfl
        refine take_ (i := 2) (N := some 18) (v := ?_) (a' := ?_) #[true, true, true, true, false, true, false, false, false, false, true, true, false, true, false, true, false, false, false, false, false, false] rfl rfl (take_ofW HT_.out HW_.out (by kernel_rfl)) (fun _ _ _ h => h) (Or.inl ⟨by rfl, ?_⟩) hHeld ?_ ?_
        rotate_left
        ·rintro w' ⟨s0, s1, s2, s3⟩
         go_simp
         with_reducible rfl
        rotate_left
        ·simp only [Act.put, List.setIfInBounds_toArray, List.set_cons_zero, List.set_cons_succ, i64_w, i32_w]
         rfl
        refine take_ (i := 4) (N := some 20) (v := ?_) (a' := ?_) #[true, true, true, true, true, true, false, false, false, false, true, true, false, true, false, true, false, false, false, false, false, false] rfl rfl (take_ofW HT_.out HW_.out (by kernel_rfl)) (fun _ _ _ h => h) (Or.inl ⟨by rfl, ?_⟩) hHeld ?_ ?_
        rotate_left
        ·rintro w' ⟨s0, s1, s2, s3⟩
         go_simp
         with_reducible rfl
        rotate_left
        ·simp only [Act.put, List.setIfInBounds_toArray, List.set_cons_zero, List.set_cons_succ, i64_w, i32_w]
         rfl
        refine take_ (i := 6) (N := some 22) (v := ?_) (a' := ?_) #[true, true, true, true, true, true, true, false, false, false, true, true, false, true, false, true, false, false, false, false, false, false] rfl rfl (take_ofW HT_.out HW_.out (by kernel_rfl)) (fun _ _ _ h => h) (Or.inl ⟨by rfl, ?_⟩) hHeld ?_ ?_
        rotate_left
        ·rintro w' ⟨s0, s1, s2, s3⟩
         go_simp
         with_reducible rfl
        rotate_left
        ·simp only [Act.put, List.setIfInBounds_toArray, List.set_cons_zero, List.set_cons_succ, i64_w, i32_w]
         rfl
        refine pure_ (i := 7) (N := some 23) (v := ?_) (a' := ?_) #[true, true, true, true, true, true, true, true, false, false, true, true, false, true, false, true, false, false, false, false, false, false] rfl rfl (any_of HT_.out (by kernel_rfl)) (fun _ _ _ h => h) (Or.inl ⟨by rfl, ?_⟩) ?_ ?_
        rotate_left
        ·intro w'
         go_simp
         with_reducible rfl
        rotate_left
        ·simp only [Act.put, List.setIfInBounds_toArray, List.set_cons_zero, List.set_cons_succ, i64_w, i32_w]
         rfl
        refine take_ (i := 12) (N := some 28) (v := ?_) (a' := ?_) #[true, true, true, true, true, true, true, true, false, false, true, true, true, true, false, true, false, false, false, false, false, false] rfl rfl (take_ofW HT_.out HW_.out (by kernel_rfl)) (fun _ _ _ h => h) (Or.inl ⟨by rfl, ?_⟩) hHeld ?_ ?_
        rotate_left
        ·rintro w' ⟨s0, s1, s2, s3⟩
         go_simp
         with_reducible rfl
        rotate_left
        ·simp only [Act.put, List.setIfInBounds_toArray, List.set_cons_zero, List.set_cons_succ, i64_w, i32_w]
         rfl
        refine take_ (i := 14) (N := some 30) (v := ?_) (a' := ?_) #[true, true, true, true, true, true, true, true, false, false, true, true, true, true, true, true, false, false, false, false, false, false] rfl rfl (take_ofW HT_.out HW_.out (by kernel_rfl)) (fun _ _ _ h => h) (Or.inl ⟨by rfl, ?_⟩) hHeld ?_ ?_
        rotate_left
        ·rintro w' ⟨s0, s1, s2, s3⟩
         go_simp
         with_reducible rfl
        rotate_left
        ·simp only [Act.put, List.setIfInBounds_toArray, List.set_cons_zero, List.set_cons_succ, i64_w, i32_w]
         rfl
        refine take_ (i := 16) (N := some 32) (v := ?_) (a' := ?_) #[true, true, true, true, true, true, true, true, false, false, true, true, true, true, true, true, true, false, false, false, false, false] rfl rfl (take_ofW HT_.out HW_.out (by kernel_rfl)) (fun _ _ _ h => h) (Or.inl ⟨by rfl, ?_⟩) hHeld ?_ ?_
        rotate_left
        ·rintro w' ⟨s0, s1, s2, s3⟩
         go_simp
         with_reducible rfl
        rotate_left
        ·simp only [Act.put, List.setIfInBounds_toArray, List.set_cons_zero, List.set_cons_succ, i64_w, i32_w]
         rfl
        refine pure_ (i := 17) (N := some 33) (v := ?_) (a' := ?_) #[true, true, true, true, true, true, true, true, false, false, true, true, true, true, true, true, true, true, false, false, false, false] rfl rfl (any_of HT_.out (by kernel_rfl)) (fun _ _ _ h => h) (Or.inl ⟨by rfl, ?_⟩) ?_ ?_
        rotate_left
        ·intro w'
         go_simp
         with_reducible rfl
        rotate_left
        ·simp only [Act.put, List.setIfInBounds_toArray, List.set_cons_zero, List.set_cons_succ, i64_w, i32_w]
         rfl
        refine join_ (σ := Value × Value × Value) 3 #[true, true, true, true, true, true, true, true, true, true, true, true, true, true, true, true, true, true, true, false, false, false] (fun s_ => [(24, s_.1), (25, s_.2.1), (34, s_.2.2)]) (fun s_ w' => (w'.cell? ⟨gb542, 0, none⟩ = some (.int .i64 ((rd_T26 t538 x12_1).f0)) ∧ w'.cell? ⟨gb542, 1, none⟩ = some (.int .i64 ((rd_T26 t538 x12_1).f1)) ∧ w'.cell? ⟨gb542, 2, none⟩ = some (.int .i64 ((rd_T26 t538 x12_1).f2)) ∧ w'.cell? ⟨gb542, 3, none⟩ = some (.int .i64 ((rd_T26 t538 x12_1).f3))) ∧ (Kd.R (Kd.int .i64) 3 w' w.heap.size (fun k_ => some k_ ≠ (s_.2.1 : Value).ownBlock ∧ some k_ ≠ (s_.2.2 : Value).ownBlock ∧ some k_ ≠ (.slice Ao15 x4_1.length co15 : Value).ownBlock) s_.1 y543) ∧ (Kd.R (Kd.int .i64) 3 w' w.heap.size (fun k_ => some k_ ≠ (s_.1 : Value).ownBlock ∧ some k_ ≠ (s_.2.2 : Value).ownBlock ∧ some k_ ≠ (.slice Ao15 x4_1.length co15 : Value).ownBlock) s_.2.1 y546) ∧ (Kd.R (Kd.int .i64) 3 w' w.heap.size (fun k_ => some k_ ≠ (s_.1 : Value).ownBlock ∧ some k_ ≠ (s_.2.1 : Value).ownBlock ∧ some k_ ≠ (.slice Ao15 x4_1.length co15 : Value).ownBlock) s_.2.2 y549) ∧ (Kd.R k26 26 w' w.heap.size (fun k_ => k_ ≠ gb537 ∧ k_ ≠ gb542) (.slice (some ad541) t538.length co5) t538) ∧ (Kd.R (Kd.int .i64) 3 w' w.heap.size (fun k_ => some k_ ≠ (s_.1 : Value).ownBlock ∧ some k_ ≠ (s_.2.1 : Value).ownBlock ∧ some k_ ≠ (s_.2.2 : Value).ownBlock) (.slice Ao15 x4_1.length co15) x4_1) ∧ (w'.heap[gb537]? = some (.cells #[.int .i64 0, .int .i64 0, .int .i64 0, .int .i64 0] 26 (0, 0))) ∧ (w'.heap[gb542]? = some (.cells #[.int .i64 ((rd_T26 t538 x12_1).f0), .int .i64 ((rd_T26 t538 x12_1).f1), .int .i64 ((rd_T26 t538 x12_1).f2), .int .i64 ((rd_T26 t538 x12_1).f3)] 26 (0, 0))) ∧ (Below w.heap.size w w')) ?_ ?_
        rotate_left
        ·intro hCont
         refine two_ (i := 8) (j := 18) (Ni := some 24) (Nj := some 34) #[true, true, true, true, true, true, true, true, true, false, true, true, true, true, true, true, true, true, false, false, false, false] #[true, true, true, true, true, true, true, true, false, false, true, true, true, true, true, true, true, true, true, false, false, false] rfl rfl rfl rfl (two_of HT_.out (by kernel_rfl)) (by decide) (by decide) (fun K hK => ?_) (fun K hK => ?_)
         ·skip
          refine Kd.R_lit_step (Kd.int .i64) _ 3 ?hg (N := 24) ?hd (xs := ([(rd_T26 t538 x12_1).f0, wrap64 (((rd_T26 t538 x12_1).f0) + ((rd_T26 t538 x12_1).f2))] : List Int)) (inner := [.int .i64 ((rd_T26 t538 x12_1).f0), .int .i64 (wrap64 (((rd_T26 t538 x12_1).f0) + ((rd_T26 t538 x12_1).f2)))]) (ok := fun _ => True) (okp := fun _ => True) ?hr ?hp (fun _ hk => hk) trivial (Below.refl _ _) (Nat.le_refl _) (by simp) ?_; (case hd => rfl); (case hg => rfl); (case hr => first | (go_simp; done) | (go_simp; rfl)); (case hp => exact (Reps.one (show Kd.M (Kd.int .i64) _ _ _ ((rd_T26 t538 x12_1).f0) [.int .i64 ((rd_T26 t538 x12_1).f0)] from rfl) (Reps.one (show Kd.M (Kd.int .i64) _ _ _ (wrap64 (((rd_T26 t538 x12_1).f0) + ((rd_T26 t538 x12_1).f2))) [.int .i64 (wrap64 (((rd_T26 t538 x12_1).f0) + ((rd_T26 t538 x12_1).f2)))] from rfl) (Reps.none _ _))))
          intro v544 w18 ho19 hb hg_ hnew_
          clear hg_ hnew_
          (first | rw [← Ny543.out] at ho19 | (simp only [Int.reduceToNat] at ho19; rw [← Ny543.out] at ho19))
          have n0_ := Aside0.mk (Kd.R_elder' (by (with_reducible repeat (first | apply Kd.R_alloc | apply Kd.R_drewN | apply Kd.R_drew)); exact HO_3.out) (Kd.R_base ho19) hb)
          have n1_ := Aside0.mk (Kd.R_elder' (by (with_reducible repeat (first | apply Kd.R_alloc | apply Kd.R_drewN | apply Kd.R_drew)); exact HO_4.out) (Kd.R_base ho19) hb)
          have n2_ := Aside0.mk (Kd.R_below (by (with_reducible repeat (first | apply Kd.R_alloc | apply Kd.R_drewN | apply Kd.R_drew)); exact HO_10.out) hb)
          have n3_ := Aside0.mk (Kd.R_lower (Kd.R_new' (Kd.R_new' ho19 (Kd.R_lt (by (with_reducible repeat (first | apply Kd.R_alloc | apply Kd.R_drewN | apply Kd.R_drew)); exact HO_3.out))) (Kd.R_lt (by (with_reducible repeat (first | apply Kd.R_alloc | apply Kd.R_drewN | apply Kd.R_drew)); exact HO_4.out))) (below_size (by repeat (first | (with_reducible first | exact HB.out | apply below_alloc | apply pw_below_drewN | apply below_drew1 | refine below_set ?_ GE537.out | refine below_set ?_ GE542.out) | exact HB.out))))
          have n4_ := Aside0.mk (blk_below (g := gb537) (o := .cells #[.int .i64 0, .int .i64 0, .int .i64 0, .int .i64 0] 26 (0, 0)) (by (with_reducible repeat (first | refine blk_drewN ?_ _ | refine blk_drew ?_ | refine blk_alloc ?_ _)); exact BK537.out) hb)
          have n5_ := Aside0.mk (blk_below (g := gb542) (o := .cells #[.int .i64 ((rd_T26 t538 x12_1).f0), .int .i64 ((rd_T26 t538 x12_1).f1), .int .i64 ((rd_T26 t538 x12_1).f2), .int .i64 ((rd_T26 t538 x12_1).f3)] 26 (0, 0)) (by (with_reducible repeat (first | refine blk_drewN ?_ _ | refine blk_drew ?_ | refine blk_alloc ?_ _)); exact BK542.out) hb)
          have n6_ := Aside0.mk (below_step (by repeat (first | (with_reducible first | exact HB.out | apply below_alloc | apply pw_below_drewN | apply below_drew1 | refine below_set ?_ GE537.out | refine below_set ?_ GE542.out) | exact HB.out)) hb)
          clear HO_3
          clear HO_4
          clear HO_10
          clear BK537
          clear BK542
          clear HB
          have HO_3 := n0_
          have HO_4 := n1_
          have HO_10 := n2_
          have HO545 := n3_
          have BK537 := n4_
          have BK542 := n5_
          have HB := n6_
          clear n0_ n1_ n2_ n3_ n4_ n5_ n6_
          clear hb ho19
          obtain ⟨Ao21, co21, eo21⟩ := Kd.R_slice HO545.out
          (first | subst eo21 | (injection eo21 with f1_ f2_ f3_; have f4_ := f1_.symm; have f5_ := f3_.symm; clear f1_ f2_ f3_; subst f4_; subst f5_))
          refine hK.out _ _ ⟨(blk_cell BK542.out 0).trans rfl, (blk_cell BK542.out 1).trans rfl, (blk_cell BK542.out 2).trans rfl, (blk_cell BK542.out 3).trans rfl⟩ (fun hHeld => ?_)
          clear hK K
          refine norm_ (a' := ?_) ?_ ?_
          rotate_left
          ·show Act.put _ (some 24) _ = _
           simp only [Act.put, List.setIfInBounds_toArray, List.set_cons_zero, List.set_cons_succ, i64_w, i32_w]
           rfl
          refine two_ (i := 9) (j := 18) (Ni := some 25) (Nj := some 34) #[true, true, true, true, true, true, true, true, true, true, true, true, true, true, true, true, true, true, false, false, false, false] #[true, true, true, true, true, true, true, true, true, false, true, true, true, true, true, true, true, true, true, false, false, false] rfl rfl rfl rfl (two_of HT_.out (by kernel_rfl)) (by decide) (by decide) (fun K hK => ?_) (fun K hK => ?_)
          ·skip
           refine Kd.R_append_rows_step (Kd.int .i64) (w0 := w) w.heap.size (by rfl) (.tmp 16) (.tmp 24) 40 3 (.int .i64 0) 8 rfl Try.underlying40 info3 rfl (by decide) (by omega) (.slice Ao14 x3_1.length co14) x3_1 y543 _ _ _ (fun k_ => some k_ ≠ (.slice Ao15 x4_1.length co15 : Value).ownBlock ∧ some k_ ≠ (.slice Ao21 y543.length co21 : Value).ownBlock) (fun _ => False) rfl rfl ?aO ?aR (fun _ _ h => h) (fun _ h => h.elim) ?aF ?aB ?aS ?aL ?_
           (case aR => repeat (first | exact (Kd.R_reads' HO545.out).2.2 | (with_reducible refine Kd.C_alloc ?_ _) | (with_reducible refine Kd.C_drewN ?_ _) | (with_reducible refine Kd.C_drew ?_)))
           (case aB => exact (by repeat (first | (with_reducible first | exact HB.out | apply below_alloc | apply pw_below_drewN | apply below_drew1 | refine below_set ?_ GE537.out | refine below_set ?_ GE542.out) | exact HB.out)))
           (case aF => exact (fun k_ hk => ⟨Kd.fresh' (Kd.R_lt (by (with_reducible repeat (first | apply Kd.R_alloc | apply Kd.R_drewN | apply Kd.R_drew)); exact HO_4.out)) k_ hk, Kd.fresh' (Kd.R_lt (by (with_reducible repeat (first | apply Kd.R_alloc | apply Kd.R_drewN | apply Kd.R_drew)); exact HO545.out)) k_ hk⟩))
           (case aO => exact (by (with_reducible repeat (first | apply Kd.R_alloc | apply Kd.R_drewN | apply Kd.R_drew)); exact HO_3.out))
           (case aS => exact (below_size (by repeat (first | (with_reducible first | exact HB.out | apply below_alloc | apply pw_below_drewN | apply below_drew1 | refine below_set ?_ GE537.out | refine below_set ?_ GE542.out) | exact HB.out))))
           (case aL => have := LMc9.out; omega)
           intro v547 w20 ho hb hg hat
           rw [← Ny546.out] at ho
           have n0_ := Aside0.mk (Kd.R_after (ok := (fun k_ => some k_ ≠ (.slice Ao21 y543.length co21 : Value).ownBlock)) (by (with_reducible repeat (first | apply Kd.R_alloc | apply Kd.R_drewN | apply Kd.R_drew)); exact Kd.R_mono HO_4.out (fun _ hk => ⟨hk.2, hk.1⟩)) hg hat)
           have n1_ := Aside0.mk (Kd.R_over' (by (with_reducible repeat (first | apply Kd.R_alloc | apply Kd.R_drewN | apply Kd.R_drew)); exact HO_10.out) (Kd.R_typed (by (with_reducible repeat (first | apply Kd.R_alloc | apply Kd.R_drewN | apply Kd.R_drew)); exact HO_3.out)) (by decide) hg)
           have n2_ := Aside0.mk (blk_grown (g := gb537) (o := .cells #[.int .i64 0, .int .i64 0, .int .i64 0, .int .i64 0] 26 (0, 0)) (by (with_reducible repeat (first | refine blk_drewN ?_ _ | refine blk_drew ?_ | refine blk_alloc ?_ _)); exact BK537.out) hg (Kd.R_ne HO_3.out BK537.out (by decide)))
           have n3_ := Aside0.mk (blk_grown (g := gb542) (o := .cells #[.int .i64 ((rd_T26 t538 x12_1).f0), .int .i64 ((rd_T26 t538 x12_1).f1), .int .i64 ((rd_T26 t538 x12_1).f2), .int .i64 ((rd_T26 t538 x12_1).f3)] 26 (0, 0)) (by (with_reducible repeat (first | refine blk_drewN ?_ _ | refine blk_drew ?_ | refine blk_alloc ?_ _)); exact BK542.out) hg (Kd.R_ne HO_3.out BK542.out (by decide)))
           have n4_ := Aside0.mk (Kd.R_after (ok := (fun k_ => some k_ ≠ (.slice Ao15 x4_1.length co15 : Value).ownBlock)) (by (with_reducible repeat (first | apply Kd.R_alloc | apply Kd.R_drewN | apply Kd.R_drew)); exact Kd.R_mono HO545.out (fun _ hk => ⟨hk.2, hk.1.2⟩)) hg hat)
           have n5_ := Aside0.mk (hb)
           have n6_ := Aside0.mk (ho)
           clear HO_4
           clear HO_10
           clear BK537
           clear BK542
           clear HO545
           clear HB
           clear HO_3
           have HO_4 := n0_
           have HO_10 := n1_
           have BK537 := n2_
           have BK542 := n3_
           have HO545 := n4_
           have HB := n5_
           have HO548 := n6_
           clear n0_ n1_ n2_ n3_ n4_ n5_ n6_
           clear ho hb hg hat
           refine hK.out _ _ ⟨(blk_cell BK542.out 0).trans rfl, (blk_cell BK542.out 1).trans rfl, (blk_cell BK542.out 2).trans rfl, (blk_cell BK542.out 3).trans rfl⟩ (fun hHeld => ?_)
           clear hK K
           refine norm_ (a' := ?_) ?_ ?_
           rotate_left
           ·show Act.put _ (some 25) _ = _
            simp only [Act.put, List.setIfInBounds_toArray, List.set_cons_zero, List.set_cons_succ, i64_w, i32_w]
            rfl
           refine one_ (i := 18) (N := some 34) #[true, true, true, true, true, true, true, true, true, true, true, true, true, true, true, true, true, true, true, false, false, false] rfl rfl (one_of HT_.out (by kernel_rfl)) (by decide) (fun K hK => ?_)
           refine Kd.R_lit_step (Kd.int .i64) _ 3 ?hg (N := 34) ?hd (xs := ([(rd_T26 t538 x12_1).f1, wrap64 (((rd_T26 t538 x12_1).f1) + ((rd_T26 t538 x12_1).f3))] : List Int)) (inner := [.int .i64 ((rd_T26 t538 x12_1).f1), .int .i64 (wrap64 (((rd_T26 t538 x12_1).f1) + ((rd_T26 t538 x12_1).f3)))]) (ok := fun _ => True) (okp := fun _ => True) ?hr ?hp (fun _ hk => hk) trivial (Below.refl _ _) (Nat.le_refl _) (by simp) ?_; (case hd => rfl); (case hg => rfl); (case hr => first | (go_simp; done) | (go_simp; rfl)); (case hp => exact (Reps.one (show Kd.M (Kd.int .i64) _ _ _ ((rd_T26 t538 x12_1).f1) [.int .i64 ((rd_T26 t538 x12_1).f1)] from rfl) (Reps.one (show Kd.M (Kd.int .i64) _ _ _ (wrap64 (((rd_T26 t538 x12_1).f1) + ((rd_T26 t538 x12_1).f3))) [.int .i64 (wrap64 (((rd_T26 t538 x12_1).f1) + ((rd_T26 t538 x12_1).f3)))] from rfl) (Reps.none _ _))))
           intro v550 w22 ho23 hb hg_ hnew_
           clear hg_ hnew_
           (first | rw [← Ny549.out] at ho23 | (simp only [Int.reduceToNat] at ho23; rw [← Ny549.out] at ho23))
           have n0_ := Aside0.mk (Kd.R_elder' (by (with_reducible repeat (first | apply Kd.R_alloc | apply Kd.R_drewN | apply Kd.R_drew)); exact HO_4.out) (Kd.R_base ho23) hb)
           have n1_ := Aside0.mk (Kd.R_below (by (with_reducible repeat (first | apply Kd.R_alloc | apply Kd.R_drewN | apply Kd.R_drew)); exact HO_10.out) hb)
           have n2_ := Aside0.mk (Kd.R_elder' (by (with_reducible repeat (first | apply Kd.R_alloc | apply Kd.R_drewN | apply Kd.R_drew)); exact HO545.out) (Kd.R_base ho23) hb)
           have n3_ := Aside0.mk (Kd.R_elder' (by (with_reducible repeat (first | apply Kd.R_alloc | apply Kd.R_drewN | apply Kd.R_drew)); exact HO548.out) (Kd.R_base ho23) hb)
           have n4_ := Aside0.mk (Kd.R_lower (Kd.R_new' (Kd.R_new' (Kd.R_new' ho23 (Kd.R_lt (by (with_reducible repeat (first | apply Kd.R_alloc | apply Kd.R_drewN | apply Kd.R_drew)); exact HO_4.out))) (Kd.R_lt (by (with_reducible repeat (first | apply Kd.R_alloc | apply Kd.R_drewN | apply Kd.R_drew)); exact HO545.out))) (Kd.R_lt (by (with_reducible repeat (first | apply Kd.R_alloc | apply Kd.R_drewN | apply Kd.R_drew)); exact HO548.out))) (below_size (by repeat (first | (with_reducible first | exact HB.out | apply below_alloc | apply pw_below_drewN | apply below_drew1 | refine below_set ?_ GE537.out | refine below_set ?_ GE542.out) | exact HB.out))))
           have n5_ := Aside0.mk (blk_below (g := gb537) (o := .cells #[.int .i64 0, .int .i64 0, .int .i64 0, .int .i64 0] 26 (0, 0)) (by (with_reducible repeat (first | refine blk_drewN ?_ _ | refine blk_drew ?_ | refine blk_alloc ?_ _)); exact BK537.out) hb)
           have n6_ := Aside0.mk (blk_below (g := gb542) (o := .cells #[.int .i64 ((rd_T26 t538 x12_1).f0), .int .i64 ((rd_T26 t538 x12_1).f1), .int .i64 ((rd_T26 t538 x12_1).f2), .int .i64 ((rd_T26 t538 x12_1).f3)] 26 (0, 0)) (by (with_reducible repeat (first | refine blk_drewN ?_ _ | refine blk_drew ?_ | refine blk_alloc ?_ _)); exact BK542.out) hb)
           have n7_ := Aside0.mk (below_step (by repeat (first | (with_reducible first | exact HB.out | apply below_alloc | apply pw_below_drewN | apply below_drew1 | refine below_set ?_ GE537.out | refine below_set ?_ GE542.out) | exact HB.out)) hb)
           clear HO_4
           clear HO_10
           clear HO545
           clear HO548
           clear BK537
           clear BK542
           clear HB
           have HO_4 := n0_
           have HO_10 := n1_
           have HO545 := n2_
           have HO548 := n3_
           have HO551 := n4_
           have BK537 := n5_
           have BK542 := n6_
           have HB := n7_
           clear n0_ n1_ n2_ n3_ n4_ n5_ n6_ n7_
           clear hb ho23
           refine hK.out _ _ ⟨(blk_cell BK542.out 0).trans rfl, (blk_cell BK542.out 1).trans rfl, (blk_cell BK542.out 2).trans rfl, (blk_cell BK542.out 3).trans rfl⟩ (fun hHeld => ?_)
           clear hK K
           refine norm_ (a' := ?_) ?_ ?_
           rotate_left
           ·show Act.put _ (some 34) _ = _
            simp only [Act.put, List.setIfInBounds_toArray, List.set_cons_zero, List.set_cons_succ, i64_w, i32_w]
            rfl
           exact norm_ (by simp only [putAll, Act.put, List.setIfInBounds_toArray, List.set_cons_zero, List.set_cons_succ]) (hCont (.slice Ao21 y543.length co21, v547, v550) _ ⟨hHeld, (by (with_reducible repeat (first | apply Kd.R_alloc | apply Kd.R_drewN | apply Kd.R_drew)); exact Kd.R_mono HO545.out (fun _ hk => ⟨hk.1.2, ⟨hk.2, hk.1.1⟩⟩)), (by (with_reducible repeat (first | apply Kd.R_alloc | apply Kd.R_drewN | apply Kd.R_drew)); exact Kd.R_mono HO548.out (fun _ hk => ⟨hk.1.2, ⟨hk.2, hk.1.1⟩⟩)), (by (with_reducible repeat (first | apply Kd.R_alloc | apply Kd.R_drewN | apply Kd.R_drew)); exact Kd.R_mono HO551.out (fun _ hk => ⟨hk.1.2, ⟨hk.2, hk.1.1.2⟩⟩)), (by (with_reducible repeat (first | apply Kd.R_alloc | apply Kd.R_drewN | apply Kd.R_drew)); exact HO_10.out), (by (with_reducible repeat (first | apply Kd.R_alloc | apply Kd.R_drewN | apply Kd.R_drew)); exact Kd.R_mono HO_4.out (fun _ hk => ⟨hk.1.1, ⟨hk.1.2, hk.2⟩⟩)), (by (with_reducible repeat (first | refine blk_drewN ?_ _ | refine blk_drew ?_ | refine blk_alloc ?_ _)); exact BK537.out), (by (with_reducible repeat (first | refine blk_drewN ?_ _ | refine blk_drew ?_ | refine blk_alloc ?_ _)); exact BK542.out), (by repeat (first | (with_reducible first | exact HB.out | apply below_alloc | apply pw_below_drewN | apply below_drew1 | refine below_set ?_ GE537.out | refine below_set ?_ GE542.out) | exact HB.out))⟩)
          ·skip
           refine Kd.R_lit_step (Kd.int .i64) _ 3 ?hg (N := 34) ?hd (xs := ([(rd_T26 t538 x12_1).f1, wrap64 (((rd_T26 t538 x12_1).f1) + ((rd_T26 t538 x12_1).f3))] : List Int)) (inner := [.int .i64 ((rd_T26 t538 x12_1).f1), .int .i64 (wrap64 (((rd_T26 t538 x12_1).f1) + ((rd_T26 t538 x12_1).f3)))]) (ok := fun _ => True) (okp := fun _ => True) ?hr ?hp (fun _ hk => hk) trivial (Below.refl _ _) (Nat.le_refl _) (by simp) ?_; (case hd => rfl); (case hg => rfl); (case hr => first | (go_simp; done) | (go_simp; rfl)); (case hp => exact (Reps.one (show Kd.M (Kd.int .i64) _ _ _ ((rd_T26 t538 x12_1).f1) [.int .i64 ((rd_T26 t538 x12_1).f1)] from rfl) (Reps.one (show Kd.M (Kd.int .i64) _ _ _ (wrap64 (((rd_T26 t538 x12_1).f1) + ((rd_T26 t538 x12_1).f3))) [.int .i64 (wrap64 (((rd_T26 t538 x12_1).f1) + ((rd_T26 t538 x12_1).f3)))] from rfl) (Reps.none _ _))))
           intro v550 w20 ho21 hb hg_ hnew_
           clear hg_ hnew_
           (first | rw [← Ny549.out] at ho21 | (simp only [Int.reduceToNat] at ho21; rw [← Ny549.out] at ho21))
           have n0_ := Aside0.mk (Kd.R_elder' (by (with_reducible repeat (first | apply Kd.R_alloc | apply Kd.R_drewN | apply Kd.R_drew)); exact HO_3.out) (Kd.R_base ho21) hb)
           have n1_ := Aside0.mk (Kd.R_elder' (by (with_reducible repeat (first | apply Kd.R_alloc | apply Kd.R_drewN | apply Kd.R_drew)); exact HO_4.out) (Kd.R_base ho21) hb)
           have n2_ := Aside0.mk (Kd.R_below (by (with_reducible repeat (first | apply Kd.R_alloc | apply Kd.R_drewN | apply Kd.R_drew)); exact HO_10.out) hb)
           have n3_ := Aside0.mk (Kd.R_elder' (by (with_reducible repeat (first | apply Kd.R_alloc | apply Kd.R_drewN | apply Kd.R_drew)); exact HO545.out) (Kd.R_base ho21) hb)
           have n4_ := Aside0.mk (Kd.R_lower (Kd.R_new' (Kd.R_new' (Kd.R_new' ho21 (Kd.R_lt (by (with_reducible repeat (first | apply Kd.R_alloc | apply Kd.R_drewN | apply Kd.R_drew)); exact HO_3.out))) (Kd.R_lt (by (with_reducible repeat (first | apply Kd.R_alloc | apply Kd.R_drewN | apply Kd.R_drew)); exact HO_4.out))) (Kd.R_lt (by (with_reducible repeat (first | apply Kd.R_alloc | apply Kd.R_drewN | apply Kd.R_drew)); exact HO545.out))) (below_size (by repeat (first | (with_reducible first | exact HB.out | apply below_alloc | apply pw_below_drewN | apply below_drew1 | refine below_set ?_ GE537.out | refine below_set ?_ GE542.out) | exact HB.out))))
           have n5_ := Aside0.mk (blk_below (g := gb537) (o := .cells #[.int .i64 0, .int .i64 0, .int .i64 0, .int .i64 0] 26 (0, 0)) (by (with_reducible repeat (first | refine blk_drewN ?_ _ | refine blk_drew ?_ | refine blk_alloc ?_ _)); exact BK537.out) hb)
           have n6_ := Aside0.mk (blk_below (g := gb542) (o := .cells #[.int .i64 ((rd_T26 t538 x12_1).f0), .int .i64 ((rd_T26 t538 x12_1).f1), .int .i64 ((rd_T26 t538 x12_1).f2), .int .i64 ((rd_T26 t538 x12_1).f3)] 26 (0, 0)) (by (with_reducible repeat (first | refine blk_drewN ?_ _ | refine blk_drew ?_ | refine blk_alloc ?_ _)); exact BK542.out) hb)
           have n7_ := Aside0.mk (below_step (by repeat (first | (with_reducible first | exact HB.out | apply below_alloc | apply pw_below_drewN | apply below_drew1 | refine below_set ?_ GE537.out | refine below_set ?_ GE542.out) | exact HB.out)) hb)
           clear HO_3
           clear HO_4
           clear HO_10
           clear HO545
           clear BK537
           clear BK542
           clear HB
           have HO_3 := n0_
           have HO_4 := n1_
           have HO_10 := n2_
           have HO545 := n3_
           have HO551 := n4_
           have BK537 := n5_
           have BK542 := n6_
           have HB := n7_
           clear n0_ n1_ n2_ n3_ n4_ n5_ n6_ n7_
           clear hb ho21
           obtain ⟨Ao23, co23, eo23⟩ := Kd.R_slice HO545.out
           (first | subst eo23 | (injection eo23 with f1_ f2_ f3_; have f4_ := f1_.symm; have f5_ := f3_.symm; clear f1_ f2_ f3_; subst f4_; subst f5_))
           refine hK.out _ _ ⟨(blk_cell BK542.out 0).trans rfl, (blk_cell BK542.out 1).trans rfl, (blk_cell BK542.out 2).trans rfl, (blk_cell BK542.out 3).trans rfl⟩ (fun hHeld => ?_)
           clear hK K
           refine norm_ (a' := ?_) ?_ ?_
           rotate_left
           ·show Act.put _ (some 34) _ = _
            simp only [Act.put, List.setIfInBounds_toArray, List.set_cons_zero, List.set_cons_succ, i64_w, i32_w]
            rfl
           refine one_ (i := 9) (N := some 25) #[true, true, true, true, true, true, true, true, true, true, true, true, true, true, true, true, true, true, true, false, false, false] rfl rfl (one_of HT_.out (by kernel_rfl)) (by decide) (fun K hK => ?_)
           refine Kd.R_append_rows_step (Kd.int .i64) (w0 := w) w.heap.size (by rfl) (.tmp 16) (.tmp 24) 40 3 (.int .i64 0) 8 rfl Try.underlying40 info3 rfl (by decide) (by omega) (.slice Ao14 x3_1.length co14) x3_1 y543 _ _ _ (fun k_ => some k_ ≠ (.slice Ao15 x4_1.length co15 : Value).ownBlock ∧ some k_ ≠ (.slice Ao23 y543.length co23 : Value).ownBlock ∧ some k_ ≠ (v550 : Value).ownBlock) (fun _ => False) rfl rfl ?aO ?aR (fun _ _ h => h) (fun _ h => h.elim) ?aF ?aB ?aS ?aL ?_
           (case aR => repeat (first | exact (Kd.R_reads' HO545.out).2.2 | (with_reducible refine Kd.C_alloc ?_ _) | (with_reducible refine Kd.C_drewN ?_ _) | (with_reducible refine Kd.C_drew ?_)))
           (case aB => exact (by repeat (first | (with_reducible first | exact HB.out | apply below_alloc | apply pw_below_drewN | apply below_drew1 | refine below_set ?_ GE537.out | refine below_set ?_ GE542.out) | exact HB.out)))
           (case aF => exact (fun k_ hk => ⟨Kd.fresh' (Kd.R_lt (by (with_reducible repeat (first | apply Kd.R_alloc | apply Kd.R_drewN | apply Kd.R_drew)); exact HO_4.out)) k_ hk, Kd.fresh' (Kd.R_lt (by (with_reducible repeat (first | apply Kd.R_alloc | apply Kd.R_drewN | apply Kd.R_drew)); exact HO545.out)) k_ hk, Kd.fresh' (Kd.R_lt (by (with_reducible repeat (first | apply Kd.R_alloc | apply Kd.R_drewN | apply Kd.R_drew)); exact HO551.out)) k_ hk⟩))
           (case aO => exact (by (with_reducible repeat (first | apply Kd.R_alloc | apply Kd.R_drewN | apply Kd.R_drew)); exact Kd.R_mono HO_3.out (fun _ hk => ⟨hk.1.1, ⟨hk.1.2, hk.2⟩⟩)))
           (case aS => exact (below_size (by repeat (first | (with_reducible first | exact HB.out | apply below_alloc | apply pw_below_drewN | apply below_drew1 | refine below_set ?_ GE537.out | refine below_set ?_ GE542.out) | exact HB.out))))
           (case aL => have := LMc9.out; omega)
           intro v547 w22 ho hb hg hat
           rw [← Ny546.out] at ho
           have n0_ := Aside0.mk (Kd.R_after (ok := (fun k_ => some k_ ≠ (.slice Ao23 y543.length co23 : Value).ownBlock ∧ some k_ ≠ (v550 : Value).ownBlock)) (by (with_reducible repeat (first | apply Kd.R_alloc | apply Kd.R_drewN | apply Kd.R_drew)); exact Kd.R_mono HO_4.out (fun _ hk => ⟨⟨hk.1.2, hk.2⟩, hk.1.1⟩)) hg hat)
           have n1_ := Aside0.mk (Kd.R_over' (by (with_reducible repeat (first | apply Kd.R_alloc | apply Kd.R_drewN | apply Kd.R_drew)); exact HO_10.out) (Kd.R_typed (by (with_reducible repeat (first | apply Kd.R_alloc | apply Kd.R_drewN | apply Kd.R_drew)); exact HO_3.out)) (by decide) hg)
           have n2_ := Aside0.mk (blk_grown (g := gb537) (o := .cells #[.int .i64 0, .int .i64 0, .int .i64 0, .int .i64 0] 26 (0, 0)) (by (with_reducible repeat (first | refine blk_drewN ?_ _ | refine blk_drew ?_ | refine blk_alloc ?_ _)); exact BK537.out) hg (Kd.R_ne HO_3.out BK537.out (by decide)))
           have n3_ := Aside0.mk (blk_grown (g := gb542) (o := .cells #[.int .i64 ((rd_T26 t538 x12_1).f0), .int .i64 ((rd_T26 t538 x12_1).f1), .int .i64 ((rd_T26 t538 x12_1).f2), .int .i64 ((rd_T26 t538 x12_1).f3)] 26 (0, 0)) (by (with_reducible repeat (first | refine blk_drewN ?_ _ | refine blk_drew ?_ | refine blk_alloc ?_ _)); exact BK542.out) hg (Kd.R_ne HO_3.out BK542.out (by decide)))
           have n4_ := Aside0.mk (Kd.R_after (ok := (fun k_ => some k_ ≠ (.slice Ao15 x4_1.length co15 : Value).ownBlock ∧ some k_ ≠ (v550 : Value).ownBlock)) (by (with_reducible repeat (first | apply Kd.R_alloc | apply Kd.R_drewN | apply Kd.R_drew)); exact Kd.R_mono HO545.out (fun _ hk => ⟨⟨hk.1.2, hk.2⟩, hk.1.1.2⟩)) hg hat)
           have n5_ := Aside0.mk (Kd.R_after (ok := (fun k_ => some k_ ≠ (.slice Ao15 x4_1.length co15 : Value).ownBlock ∧ some k_ ≠ (.slice Ao23 y543.length co23 : Value).ownBlock)) (by (with_reducible repeat (first | apply Kd.R_alloc | apply Kd.R_drewN | apply Kd.R_drew)); exact Kd.R_mono HO551.out (fun _ hk => ⟨⟨hk.1.2, hk.2⟩, hk.1.1.2⟩)) hg hat)
           have n6_ := Aside0.mk (hb)
           have n7_ := Aside0.mk (ho)
           clear HO_4
           clear HO_10
           clear BK537
           clear BK542
           clear HO545
           clear HO551
           clear HB
           clear HO_3
           have HO_4 := n0_
           have HO_10 := n1_
           have BK537 := n2_
           have BK542 := n3_
           have HO545 := n4_
           have HO551 := n5_
           have HB := n6_
           have HO548 := n7_
           clear n0_ n1_ n2_ n3_ n4_ n5_ n6_ n7_
           clear ho hb hg hat
           refine hK.out _ _ ⟨(blk_cell BK542.out 0).trans rfl, (blk_cell BK542.out 1).trans rfl, (blk_cell BK542.out 2).trans rfl, (blk_cell BK542.out 3).trans rfl⟩ (fun hHeld => ?_)
           clear hK K
           refine norm_ (a' := ?_) ?_ ?_
           rotate_left
           ·show Act.put _ (some 25) _ = _
            simp only [Act.put, List.setIfInBounds_toArray, List.set_cons_zero, List.set_cons_succ, i64_w, i32_w]
            rfl
           exact norm_ (by simp only [putAll, Act.put, List.setIfInBounds_toArray, List.set_cons_zero, List.set_cons_succ]) (hCont (.slice Ao23 y543.length co23, v547, v550) _ ⟨hHeld, (by (with_reducible repeat (first | apply Kd.R_alloc | apply Kd.R_drewN | apply Kd.R_drew)); exact Kd.R_mono HO545.out (fun _ hk => ⟨hk.2, ⟨hk.1.2, hk.1.1⟩⟩)), (by (with_reducible repeat (first | apply Kd.R_alloc | apply Kd.R_drewN | apply Kd.R_drew)); exact Kd.R_mono HO548.out (fun _ hk => ⟨hk.2.1, ⟨hk.2.2, hk.1⟩⟩)), (by (with_reducible repeat (first | apply Kd.R_alloc | apply Kd.R_drewN | apply Kd.R_drew)); exact Kd.R_mono HO551.out (fun _ hk => ⟨hk.1.2, ⟨hk.2, hk.1.1⟩⟩)), (by (with_reducible repeat (first | apply Kd.R_alloc | apply Kd.R_drewN | apply Kd.R_drew)); exact HO_10.out), (by (with_reducible repeat (first | apply Kd.R_alloc | apply Kd.R_drewN | apply Kd.R_drew)); exact Kd.R_mono HO_4.out (fun _ hk => ⟨hk.1.1, ⟨hk.2, hk.1.2⟩⟩)), (by (with_reducible repeat (first | refine blk_drewN ?_ _ | refine blk_drew ?_ | refine blk_alloc ?_ _)); exact BK537.out), (by (with_reducible repeat (first | refine blk_drewN ?_ _ | refine blk_drew ?_ | refine blk_alloc ?_ _)); exact BK542.out), (by repeat (first | (with_reducible first | exact HB.out | apply below_alloc | apply pw_below_drewN | apply below_drew1 | refine below_set ?_ GE537.out | refine below_set ?_ GE542.out) | exact HB.out))⟩)
         ·skip
          refine Kd.R_lit_step (Kd.int .i64) _ 3 ?hg (N := 34) ?hd (xs := ([(rd_T26 t538 x12_1).f1, wrap64 (((rd_T26 t538 x12_1).f1) + ((rd_T26 t538 x12_1).f3))] : List Int)) (inner := [.int .i64 ((rd_T26 t538 x12_1).f1), .int .i64 (wrap64 (((rd_T26 t538 x12_1).f1) + ((rd_T26 t538 x12_1).f3)))]) (ok := fun _ => True) (okp := fun _ => True) ?hr ?hp (fun _ hk => hk) trivial (Below.refl _ _) (Nat.le_refl _) (by simp) ?_; (case hd => rfl); (case hg => rfl); (case hr => first | (go_simp; done) | (go_simp; rfl)); (case hp => exact (Reps.one (show Kd.M (Kd.int .i64) _ _ _ ((rd_T26 t538 x12_1).f1) [.int .i64 ((rd_T26 t538 x12_1).f1)] from rfl) (Reps.one (show Kd.M (Kd.int .i64) _ _ _ (wrap64 (((rd_T26 t538 x12_1).f1) + ((rd_T26 t538 x12_1).f3))) [.int .i64 (wrap64 (((rd_T26 t538 x12_1).f1) + ((rd_T26 t538 x12_1).f3)))] from rfl) (Reps.none _ _))))
          intro v550 w18 ho19 hb hg_ hnew_
          clear hg_ hnew_
          (first | rw [← Ny549.out] at ho19 | (simp only [Int.reduceToNat] at ho19; rw [← Ny549.out] at ho19))
          have n0_ := Aside0.mk (Kd.R_elder' (by (with_reducible repeat (first | apply Kd.R_alloc | apply Kd.R_drewN | apply Kd.R_drew)); exact HO_3.out) (Kd.R_base ho19) hb)
          have n1_ := Aside0.mk (Kd.R_elder' (by (with_reducible repeat (first | apply Kd.R_alloc | apply Kd.R_drewN | apply Kd.R_drew)); exact HO_4.out) (Kd.R_base ho19) hb)
          have n2_ := Aside0.mk (Kd.R_below (by (with_reducible repeat (first | apply Kd.R_alloc | apply Kd.R_drewN | apply Kd.R_drew)); exact HO_10.out) hb)
          have n3_ := Aside0.mk (Kd.R_lower (Kd.R_new' (Kd.R_new' ho19 (Kd.R_lt (by (with_reducible repeat (first | apply Kd.R_alloc | apply Kd.R_drewN | apply Kd.R_drew)); exact HO_3.out))) (Kd.R_lt (by (with_reducible repeat (first | apply Kd.R_alloc | apply Kd.R_drewN | apply Kd.R_drew)); exact HO_4.out))) (below_size (by repeat (first | (with_reducible first | exact HB.out | apply below_alloc | apply pw_below_drewN | apply below_drew1 | refine below_set ?_ GE537.out | refine below_set ?_ GE542.out) | exact HB.out))))
          have n4_ := Aside0.mk (blk_below (g := gb537) (o := .cells #[.int .i64 0, .int .i64 0, .int .i64 0, .int .i64 0] 26 (0, 0)) (by (with_reducible repeat (first | refine blk_drewN ?_ _ | refine blk_drew ?_ | refine blk_alloc ?_ _)); exact BK537.out) hb)
          have n5_ := Aside0.mk (blk_below (g := gb542) (o := .cells #[.int .i64 ((rd_T26 t538 x12_1).f0), .int .i64 ((rd_T26 t538 x12_1).f1), .int .i64 ((rd_T26 t538 x12_1).f2), .int .i64 ((rd_T26 t538 x12_1).f3)] 26 (0, 0)) (by (with_reducible repeat (first | refine blk_drewN ?_ _ | refine blk_drew ?_ | refine blk_alloc ?_ _)); exact BK542.out) hb)
          have n6_ := Aside0.mk (below_step (by repeat (first | (with_reducible first | exact HB.out | apply below_alloc | apply pw_below_drewN | apply below_drew1 | refine below_set ?_ GE537.out | refine below_set ?_ GE542.out) | exact HB.out)) hb)
          clear HO_3
          clear HO_4
          clear HO_10
          clear BK537
          clear BK542
          clear HB
          have HO_3 := n0_
          have HO_4 := n1_
          have HO_10 := n2_
          have HO551 := n3_
          have BK537 := n4_
          have BK542 := n5_
          have HB := n6_
          clear n0_ n1_ n2_ n3_ n4_ n5_ n6_
          clear hb ho19
          refine hK.out _ _ ⟨(blk_cell BK542.out 0).trans rfl, (blk_cell BK542.out 1).trans rfl, (blk_cell BK542.out 2).trans rfl, (blk_cell BK542.out 3).trans rfl⟩ (fun hHeld => ?_)
          clear hK K
          refine norm_ (a' := ?_) ?_ ?_
          rotate_left
          ·show Act.put _ (some 34) _ = _
           simp only [Act.put, List.setIfInBounds_toArray, List.set_cons_zero, List.set_cons_succ, i64_w, i32_w]
           rfl
          refine one_ (i := 8) (N := some 24) #[true, true, true, true, true, true, true, true, true, false, true, true, true, true, true, true, true, true, true, false, false, false] rfl rfl (one_of HT_.out (by kernel_rfl)) (by decide) (fun K hK => ?_)
          refine Kd.R_lit_step (Kd.int .i64) _ 3 ?hg (N := 24) ?hd (xs := ([(rd_T26 t538 x12_1).f0, wrap64 (((rd_T26 t538 x12_1).f0) + ((rd_T26 t538 x12_1).f2))] : List Int)) (inner := [.int .i64 ((rd_T26 t538 x12_1).f0), .int .i64 (wrap64 (((rd_T26 t538 x12_1).f0) + ((rd_T26 t538 x12_1).f2)))]) (ok := fun _ => True) (okp := fun _ => True) ?hr ?hp (fun _ hk => hk) trivial (Below.refl _ _) (Nat.le_refl _) (by simp) ?_; (case hd => rfl); (case hg => rfl); (case hr => first | (go_simp; done) | (go_simp; rfl)); (case hp => exact (Reps.one (show Kd.M (Kd.int .i64) _ _ _ ((rd_T26 t538 x12_1).f0) [.int .i64 ((rd_T26 t538 x12_1).f0)] from rfl) (Reps.one (show Kd.M (Kd.int .i64) _ _ _ (wrap64 (((rd_T26 t538 x12_1).f0) + ((rd_T26 t538 x12_1).f2))) [.int .i64 (wrap64 (((rd_T26 t538 x12_1).f0) + ((rd_T26 t538 x12_1).f2)))] from rfl) (Reps.none _ _))))
          intro v544 w20 ho21 hb hg_ hnew_
          clear hg_ hnew_
          (first | rw [← Ny543.out] at ho21 | (simp only [Int.reduceToNat] at ho21; rw [← Ny543.out] at ho21))
          have n0_ := Aside0.mk (Kd.R_elder' (by (with_reducible repeat (first | apply Kd.R_alloc | apply Kd.R_drewN | apply Kd.R_drew)); exact HO_3.out) (Kd.R_base ho21) hb)
          have n1_ := Aside0.mk (Kd.R_elder' (by (with_reducible repeat (first | apply Kd.R_alloc | apply Kd.R_drewN | apply Kd.R_drew)); exact HO_4.out) (Kd.R_base ho21) hb)
          have n2_ := Aside0.mk (Kd.R_below (by (with_reducible repeat (first | apply Kd.R_alloc | apply Kd.R_drewN | apply Kd.R_drew)); exact HO_10.out) hb)
          have n3_ := Aside0.mk (Kd.R_elder' (by (with_reducible repeat (first | apply Kd.R_alloc | apply Kd.R_drewN | apply Kd.R_drew)); exact HO551.out) (Kd.R_base ho21) hb)
          have n4_ := Aside0.mk (Kd.R_lower (Kd.R_new' (Kd.R_new' (Kd.R_new' ho21 (Kd.R_lt (by (with_reducible repeat (first | apply Kd.R_alloc | apply Kd.R_drewN | apply Kd.R_drew)); exact HO_3.out))) (Kd.R_lt (by (with_reducible repeat (first | apply Kd.R_alloc | apply Kd.R_drewN | apply Kd.R_drew)); exact HO_4.out))) (Kd.R_lt (by (with_reducible repeat (first | apply Kd.R_alloc | apply Kd.R_drewN | apply Kd.R_drew)); exact HO551.out))) (below_size (by repeat (first | (with_reducible first | exact HB.out | apply below_alloc | apply pw_below_drewN | apply below_drew1 | refine below_set ?_ GE537.out | refine below_set ?_ GE542.out) | exact HB.out))))
          have n5_ := Aside0.mk (blk_below (g := gb537) (o := .cells #[.int .i64 0, .int .i64 0, .int .i64 0, .int .i64 0] 26 (0, 0)) (by (with_reducible repeat (first | refine blk_drewN ?_ _ | refine blk_drew ?_ | refine blk_alloc ?_ _)); exact BK537.out) hb)
          have n6_ := Aside0.mk (blk_below (g := gb542) (o := .cells #[.int .i64 ((rd_T26 t538 x12_1).f0), .int .i64 ((rd_T26 t538 x12_1).f1), .int .i64 ((rd_T26 t538 x12_1).f2), .int .i64 ((rd_T26 t538 x12_1).f3)] 26 (0, 0)) (by (with_reducible repeat (first | refine blk_drewN ?_ _ | refine blk_drew ?_ | refine blk_alloc ?_ _)); exact BK542.out) hb)
          have n7_ := Aside0.mk (below_step (by repeat (first | (with_reducible first | exact HB.out | apply below_alloc | apply pw_below_drewN | apply below_drew1 | refine below_set ?_ GE537.out | refine below_set ?_ GE542.out) | exact HB.out)) hb)
          clear HO_3
          clear HO_4
          clear HO_10
          clear HO551
          clear BK537
          clear BK542
          clear HB
          have HO_3 := n0_
          have HO_4 := n1_
          have HO_10 := n2_
          have HO551 := n3_
          have HO545 := n4_
          have BK537 := n5_
          have BK542 := n6_
          have HB := n7_
          clear n0_ n1_ n2_ n3_ n4_ n5_ n6_ n7_
          clear hb ho21
          obtain ⟨Ao23, co23, eo23⟩ := Kd.R_slice HO545.out
          (first | subst eo23 | (injection eo23 with f1_ f2_ f3_; have f4_ := f1_.symm; have f5_ := f3_.symm; clear f1_ f2_ f3_; subst f4_; subst f5_))
          refine hK.out _ _ ⟨(blk_cell BK542.out 0).trans rfl, (blk_cell BK542.out 1).trans rfl, (blk_cell BK542.out 2).trans rfl, (blk_cell BK542.out 3).trans rfl⟩ (fun hHeld => ?_)
          clear hK K
          refine norm_ (a' := ?_) ?_ ?_
          rotate_left
          ·show Act.put _ (some 24) _ = _
           simp only [Act.put, List.setIfInBounds_toArray, List.set_cons_zero, List.set_cons_succ, i64_w, i32_w]
           rfl
          refine one_ (i := 9) (N := some 25) #[true, true, true, true, true, true, true, true, true, true, true, true, true, true, true, true, true, true, true, false, false, false] rfl rfl (one_of HT_.out (by kernel_rfl)) (by decide) (fun K hK => ?_)
          refine Kd.R_append_rows_step (Kd.int .i64) (w0 := w) w.heap.size (by rfl) (.tmp 16) (.tmp 24) 40 3 (.int .i64 0) 8 rfl Try.underlying40 info3 rfl (by decide) (by omega) (.slice Ao14 x3_1.length co14) x3_1 y543 _ _ _ (fun k_ => some k_ ≠ (.slice Ao15 x4_1.length co15 : Value).ownBlock ∧ some k_ ≠ (v550 : Value).ownBlock ∧ some k_ ≠ (.slice Ao23 y543.length co23 : Value).ownBlock) (fun _ => False) rfl rfl ?aO ?aR (fun _ _ h => h) (fun _ h => h.elim) ?aF ?aB ?aS ?aL ?_
          (case aR => repeat (first | exact (Kd.R_reads' HO545.out).2.2 | (with_reducible refine Kd.C_alloc ?_ _) | (with_reducible refine Kd.C_drewN ?_ _) | (with_reducible refine Kd.C_drew ?_)))
          (case aB => exact (by repeat (first | (with_reducible first | exact HB.out | apply below_alloc | apply pw_below_drewN | apply below_drew1 | refine below_set ?_ GE537.out | refine below_set ?_ GE542.out) | exact HB.out)))
          (case aF => exact (fun k_ hk => ⟨Kd.fresh' (Kd.R_lt (by (with_reducible repeat (first | apply Kd.R_alloc | apply Kd.R_drewN | apply Kd.R_drew)); exact HO_4.out)) k_ hk, Kd.fresh' (Kd.R_lt (by (with_reducible repeat (first | apply Kd.R_alloc | apply Kd.R_drewN | apply Kd.R_drew)); exact HO551.out)) k_ hk, Kd.fresh' (Kd.R_lt (by (with_reducible repeat (first | apply Kd.R_alloc | apply Kd.R_drewN | apply Kd.R_drew)); exact HO545.out)) k_ hk⟩))
          (case aO => exact (by (with_reducible repeat (first | apply Kd.R_alloc | apply Kd.R_drewN | apply Kd.R_drew)); exact Kd.R_mono HO_3.out (fun _ hk => ⟨hk.1.1, ⟨hk.1.2, hk.2⟩⟩)))
          (case aS => exact (below_size (by repeat (first | (with_reducible first | exact HB.out | apply below_alloc | apply pw_below_drewN | apply below_drew1 | refine below_set ?_ GE537.out | refine below_set ?_ GE542.out) | exact HB.out))))
          (case aL => have := LMc9.out; omega)
          intro v547 w22 ho hb hg hat
          rw [← Ny546.out] at ho
          have n0_ := Aside0.mk (Kd.R_after (ok := (fun k_ => some k_ ≠ (v550 : Value).ownBlock ∧ some k_ ≠ (.slice Ao23 y543.length co23 : Value).ownBlock)) (by (with_reducible repeat (first | apply Kd.R_alloc | apply Kd.R_drewN | apply Kd.R_drew)); exact Kd.R_mono HO_4.out (fun _ hk => ⟨⟨hk.1.2, hk.2⟩, hk.1.1⟩)) hg hat)
          have n1_ := Aside0.mk (Kd.R_over' (by (with_reducible repeat (first | apply Kd.R_alloc | apply Kd.R_drewN | apply Kd.R_drew)); exact HO_10.out) (Kd.R_typed (by (with_reducible repeat (first | apply Kd.R_alloc | apply Kd.R_drewN | apply Kd.R_drew)); exact HO_3.out)) (by decide) hg)
          have n2_ := Aside0.mk (blk_grown (g := gb537) (o := .cells #[.int .i64 0, .int .i64 0, .int .i64 0, .int .i64 0] 26 (0, 0)) (by (with_reducible repeat (first | refine blk_drewN ?_ _ | refine blk_drew ?_ | refine blk_alloc ?_ _)); exact BK537.out) hg (Kd.R_ne HO_3.out BK537.out (by decide)))
          have n3_ := Aside0.mk (blk_grown (g := gb542) (o := .cells #[.int .i64 ((rd_T26 t538 x12_1).f0), .int .i64 ((rd_T26 t538 x12_1).f1), .int .i64 ((rd_T26 t538 x12_1).f2), .int .i64 ((rd_T26 t538 x12_1).f3)] 26 (0, 0)) (by (with_reducible repeat (first | refine blk_drewN ?_ _ | refine blk_drew ?_ | refine blk_alloc ?_ _)); exact BK542.out) hg (Kd.R_ne HO_3.out BK542.out (by decide)))
          have n4_ := Aside0.mk (Kd.R_after (ok := (fun k_ => some k_ ≠ (.slice Ao15 x4_1.length co15 : Value).ownBlock ∧ some k_ ≠ (.slice Ao23 y543.length co23 : Value).ownBlock)) (by (with_reducible repeat (first | apply Kd.R_alloc | apply Kd.R_drewN | apply Kd.R_drew)); exact Kd.R_mono HO551.out (fun _ hk => ⟨⟨hk.1.2, hk.2⟩, hk.1.1.2⟩)) hg hat)
          have n5_ := Aside0.mk (Kd.R_after (ok := (fun k_ => some k_ ≠ (.slice Ao15 x4_1.length co15 : Value).ownBlock ∧ some k_ ≠ (v550 : Value).ownBlock)) (by (with_reducible repeat (first | apply Kd.R_alloc | apply Kd.R_drewN | apply Kd.R_drew)); exact Kd.R_mono HO545.out (fun _ hk => ⟨⟨hk.1.2, hk.2⟩, hk.1.1.2⟩)) hg hat)
          have n6_ := Aside0.mk (hb)
          have n7_ := Aside0.mk (ho)
          clear HO_4
          clear HO_10
          clear BK537
          clear BK542
          clear HO551
          clear HO545
          clear HB
          clear HO_3
          have HO_4 := n0_
          have HO_10 := n1_
          have BK537 := n2_
          have BK542 := n3_
          have HO551 := n4_
          have HO545 := n5_
          have HB := n6_
          have HO548 := n7_
          clear n0_ n1_ n2_ n3_ n4_ n5_ n6_ n7_
          clear ho hb hg hat
          refine hK.out _ _ ⟨(blk_cell BK542.out 0).trans rfl, (blk_cell BK542.out 1).trans rfl, (blk_cell BK542.out 2).trans rfl, (blk_cell BK542.out 3).trans rfl⟩ (fun hHeld => ?_)
          clear hK K
          refine norm_ (a' := ?_) ?_ ?_
          rotate_left
          ·show Act.put _ (some 25) _ = _
           simp only [Act.put, List.setIfInBounds_toArray, List.set_cons_zero, List.set_cons_succ, i64_w, i32_w]
           rfl
          exact norm_ (by simp only [putAll, Act.put, List.setIfInBounds_toArray, List.set_cons_zero, List.set_cons_succ]) (hCont (.slice Ao23 y543.length co23, v547, v550) _ ⟨hHeld, (by (with_reducible repeat (first | apply Kd.R_alloc | apply Kd.R_drewN | apply Kd.R_drew)); exact Kd.R_mono HO545.out (fun _ hk => ⟨hk.2, ⟨hk.1.2, hk.1.1⟩⟩)), (by (with_reducible repeat (first | apply Kd.R_alloc | apply Kd.R_drewN | apply Kd.R_drew)); exact Kd.R_mono HO548.out (fun _ hk => ⟨hk.2.2, ⟨hk.2.1, hk.1⟩⟩)), (by (with_reducible repeat (first | apply Kd.R_alloc | apply Kd.R_drewN | apply Kd.R_drew)); exact Kd.R_mono HO551.out (fun _ hk => ⟨hk.1.2, ⟨hk.2, hk.1.1⟩⟩)), (by (with_reducible repeat (first | apply Kd.R_alloc | apply Kd.R_drewN | apply Kd.R_drew)); exact HO_10.out), (by (with_reducible repeat (first | apply Kd.R_alloc | apply Kd.R_drewN | apply Kd.R_drew)); exact Kd.R_mono HO_4.out (fun _ hk => ⟨hk.1.2, ⟨hk.2, hk.1.1⟩⟩)), (by (with_reducible repeat (first | refine blk_drewN ?_ _ | refine blk_drew ?_ | refine blk_alloc ?_ _)); exact BK537.out), (by (with_reducible repeat (first | refine blk_drewN ?_ _ | refine blk_drew ?_ | refine blk_alloc ?_ _)); exact BK542.out), (by repeat (first | (with_reducible first | exact HB.out | apply below_alloc | apply pw_below_drewN | apply below_drew1 | refine below_set ?_ GE537.out | refine below_set ?_ GE542.out) | exact HB.out))⟩)
        rintro ⟨v544, v547, v550⟩ w24 ⟨hS_, h0_, h1_, h2_, h3_, h4_, h5_, h6_, h7_⟩
        have n0_ : Aside0 (Kd.R (Kd.int .i64) 3 w24 w.heap.size (fun k_ => some k_ ≠ (v547 : Value).ownBlock ∧ some k_ ≠ (v550 : Value).ownBlock ∧ some k_ ≠ (.slice Ao15 x4_1.length co15 : Value).ownBlock) v544 y543) := ⟨h0_⟩
        have n1_ : Aside0 (Kd.R (Kd.int .i64) 3 w24 w.heap.size (fun k_ => some k_ ≠ (v544 : Value).ownBlock ∧ some k_ ≠ (v550 : Value).ownBlock ∧ some k_ ≠ (.slice Ao15 x4_1.length co15 : Value).ownBlock) v547 y546) := ⟨h1_⟩
        have n2_ : Aside0 (Kd.R (Kd.int .i64) 3 w24 w.heap.size (fun k_ => some k_ ≠ (v544 : Value).ownBlock ∧ some k_ ≠ (v547 : Value).ownBlock ∧ some k_ ≠ (.slice Ao15 x4_1.length co15 : Value).ownBlock) v550 y549) := ⟨h2_⟩
        have n3_ : Aside0 (Kd.R k26 26 w24 w.heap.size (fun k_ => k_ ≠ gb537 ∧ k_ ≠ gb542) (.slice (some ad541) t538.length co5) t538) := ⟨h3_⟩
        have n4_ : Aside0 (Kd.R (Kd.int .i64) 3 w24 w.heap.size (fun k_ => some k_ ≠ (v544 : Value).ownBlock ∧ some k_ ≠ (v547 : Value).ownBlock ∧ some k_ ≠ (v550 : Value).ownBlock) (.slice Ao15 x4_1.length co15) x4_1) := ⟨h4_⟩
        have n5_ : Aside0 (w24.heap[gb537]? = some (.cells #[.int .i64 0, .int .i64 0, .int .i64 0, .int .i64 0] 26 (0, 0))) := ⟨h5_⟩
        have n6_ : Aside0 (w24.heap[gb542]? = some (.cells #[.int .i64 ((rd_T26 t538 x12_1).f0), .int .i64 ((rd_T26 t538 x12_1).f1), .int .i64 ((rd_T26 t538 x12_1).f2), .int .i64 ((rd_T26 t538 x12_1).f3)] 26 (0, 0))) := ⟨h6_⟩
        have n7_ : Aside0 (Below w.heap.size w w24) := ⟨h7_⟩
        clear HO_3
        clear HO_4
        clear HO_10
        clear BK537
        clear BK542
        clear HB
        clear h0_ h1_ h2_ h3_ h4_ h5_ h6_ h7_
        have HO545 := n0_
        have HO548 := n1_
        have HO551 := n2_
        have HO_10 := n3_
        have HO_4 := n4_
        have BK537 := n5_
        have BK542 := n6_
        have HB := n7_
        clear n0_ n1_ n2_ n3_ n4_ n5_ n6_ n7_
        have hHeld : w24.cell? ⟨gb542, 0, none⟩ = some (.int .i64 ((rd_T26 t538 x12_1).f0)) ∧ w24.cell? ⟨gb542, 1, none⟩ = some (.int .i64 ((rd_T26 t538 x12_1).f1)) ∧ w24.cell? ⟨gb542, 2, none⟩ = some (.int .i64 ((rd_T26 t538 x12_1).f2)) ∧ w24.cell? ⟨gb542, 3, none⟩ = some (.int .i64 ((rd_T26 t538 x12_1).f3)) := hS_
        obtain ⟨Ao26, co26, eo26⟩ := Kd.R_slice HO551.out
        (first | subst eo26 | (injection eo26 with f1_ f2_ f3_; have f4_ := f1_.symm; have f5_ := f3_.symm; clear f1_ f2_ f3_; subst f4_; subst f5_))
        refine norm_ (a' := ?_) ?_ ?_
        rotate_left
        ·simp only [putAll, Act.put, List.setIfInBounds_toArray, List.set_cons_zero, List.set_cons_succ]
         rfl
        refine one_ (i := 19) (N := some 35) #[true, true, true, true, true, true, true, true, true, true, true, true, true, true, true, true, true, true, true, true, false, false] rfl rfl (one_of HT_.out (by kernel_rfl)) (by decide) (fun K hK => ?_)
        refine Kd.R_append_rows_step (Kd.int .i64) (w0 := w) w.heap.size (by rfl) (.tmp 26) (.tmp 34) 40 3 (.int .i64 0) 8 rfl Try.underlying40 info3 rfl (by decide) (by omega) (.slice Ao15 x4_1.length co15) x4_1 y549 _ _ _ (fun k_ => some k_ ≠ (v544 : Value).ownBlock ∧ some k_ ≠ (v547 : Value).ownBlock ∧ some k_ ≠ (.slice Ao26 y549.length co26 : Value).ownBlock) (fun _ => False) rfl rfl ?aO ?aR (fun _ _ h => h) (fun _ h => h.elim) ?aF ?aB ?aS ?aL ?_
        (case aR => repeat (first | exact (Kd.R_reads' HO551.out).2.2 | (with_reducible refine Kd.C_alloc ?_ _) | (with_reducible refine Kd.C_drewN ?_ _) | (with_reducible refine Kd.C_drew ?_)))
        (case aB => exact (by repeat (first | (with_reducible first | exact HB.out | apply below_alloc | apply pw_below_drewN | apply below_drew1 | refine below_set ?_ GE537.out | refine below_set ?_ GE542.out) | exact HB.out)))
        (case aF => exact (fun k_ hk => ⟨Kd.fresh' (Kd.R_lt (by (with_reducible repeat (first | apply Kd.R_alloc | apply Kd.R_drewN | apply Kd.R_drew)); exact HO545.out)) k_ hk, Kd.fresh' (Kd.R_lt (by (with_reducible repeat (first | apply Kd.R_alloc | apply Kd.R_drewN | apply Kd.R_drew)); exact HO548.out)) k_ hk, Kd.fresh' (Kd.R_lt (by (with_reducible repeat (first | apply Kd.R_alloc | apply Kd.R_drewN | apply Kd.R_drew)); exact HO551.out)) k_ hk⟩))
        (case aO => exact (by (with_reducible repeat (first | apply Kd.R_alloc | apply Kd.R_drewN | apply Kd.R_drew)); exact HO_4.out))
        (case aS => exact (below_size (by repeat (first | (with_reducible first | exact HB.out | apply below_alloc | apply pw_below_drewN | apply below_drew1 | refine below_set ?_ GE537.out | refine below_set ?_ GE542.out) | exact HB.out))))
        (case aL => have := LMc10.out; omega)
        intro v553 w25 ho hb hg hat
        rw [← Ny552.out] at ho
        have n0_ := Aside0.mk (Kd.R_over' (by (with_reducible repeat (first | apply Kd.R_alloc | apply Kd.R_drewN | apply Kd.R_drew)); exact HO_10.out) (Kd.R_typed (by (with_reducible repeat (first | apply Kd.R_alloc | apply Kd.R_drewN | apply Kd.R_drew)); exact HO_4.out)) (by decide) hg)
        have n1_ := Aside0.mk (blk_grown (g := gb537) (o := .cells #[.int .i64 0, .int .i64 0, .int .i64 0, .int .i64 0] 26 (0, 0)) (by (with_reducible repeat (first | refine blk_drewN ?_ _ | refine blk_drew ?_ | refine blk_alloc ?_ _)); exact BK537.out) hg (Kd.R_ne HO_4.out BK537.out (by decide)))
        have n2_ := Aside0.mk (blk_grown (g := gb542) (o := .cells #[.int .i64 ((rd_T26 t538 x12_1).f0), .int .i64 ((rd_T26 t538 x12_1).f1), .int .i64 ((rd_T26 t538 x12_1).f2), .int .i64 ((rd_T26 t538 x12_1).f3)] 26 (0, 0)) (by (with_reducible repeat (first | refine blk_drewN ?_ _ | refine blk_drew ?_ | refine blk_alloc ?_ _)); exact BK542.out) hg (Kd.R_ne HO_4.out BK542.out (by decide)))
        have n3_ := Aside0.mk (Kd.R_after (ok := (fun k_ => some k_ ≠ (v547 : Value).ownBlock ∧ some k_ ≠ (.slice Ao26 y549.length co26 : Value).ownBlock)) (by (with_reducible repeat (first | apply Kd.R_alloc | apply Kd.R_drewN | apply Kd.R_drew)); exact Kd.R_mono HO545.out (fun _ hk => ⟨⟨hk.1, hk.2.1⟩, hk.2.2⟩)) hg hat)
        have n4_ := Aside0.mk (Kd.R_after (ok := (fun k_ => some k_ ≠ (v544 : Value).ownBlock ∧ some k_ ≠ (.slice Ao26 y549.length co26 : Value).ownBlock)) (by (with_reducible repeat (first | apply Kd.R_alloc | apply Kd.R_drewN | apply Kd.R_drew)); exact Kd.R_mono HO548.out (fun _ hk => ⟨⟨hk.1, hk.2.1⟩, hk.2.2⟩)) hg hat)
        have n5_ := Aside0.mk (Kd.R_after (ok := (fun k_ => some k_ ≠ (v544 : Value).ownBlock ∧ some k_ ≠ (v547 : Value).ownBlock)) (by (with_reducible repeat (first | apply Kd.R_alloc | apply Kd.R_drewN | apply Kd.R_drew)); exact Kd.R_mono HO551.out (fun _ hk => ⟨⟨hk.1, hk.2.1⟩, hk.2.2⟩)) hg hat)
        have n6_ := Aside0.mk (hb)
        have n7_ := Aside0.mk (ho)
        clear HO_10
        clear BK537
        clear BK542
        clear HO545
        clear HO548
        clear HO551
        clear HB
        clear HO_4
        have HO_10 := n0_
        have BK537 := n1_
        have BK542 := n2_
        have HO545 := n3_
        have HO548 := n4_
        have HO551 := n5_
        have HB := n6_
        have HO554 := n7_
        clear n0_ n1_ n2_ n3_ n4_ n5_ n6_ n7_
        clear ho hb hg hat
        refine hK.out _ _ ⟨(blk_cell BK542.out 0).trans rfl, (blk_cell BK542.out 1).trans rfl, (blk_cell BK542.out 2).trans rfl, (blk_cell BK542.out 3).trans rfl⟩ (fun hHeld => ?_)
        clear hK K
        refine norm_ (a' := ?_) ?_ ?_
        rotate_left
        ·show Act.put _ (some 35) _ = _
         simp only [Act.put, List.setIfInBounds_toArray, List.set_cons_zero, List.set_cons_succ, i64_w, i32_w]
         rfl
        refine pure_ (i := 20) (N := some 3) (v := ?_) (a' := ?_) #[true, true, true, true, true, true, true, true, true, true, true, true, true, true, true, true, true, true, true, true, true, false] rfl rfl (any_of HT_.out (by kernel_rfl)) (fun _ _ _ h => h) (Or.inl ⟨by rfl, ?_⟩) ?_ ?_
        rotate_left
        ·intro w'
         go_simp
         with_reducible rfl
        rotate_left
        ·simp only [Act.put, List.setIfInBounds_toArray, List.set_cons_zero, List.set_cons_succ, i64_w, i32_w]
         rfl
        refine pure_ (i := 21) (N := some 4) (v := ?_) (a' := ?_) #[true, true, true, true, true, true, true, true, true, true, true, true, true, true, true, true, true, true, true, true, true, true] rfl rfl (any_of HT_.out (by kernel_rfl)) (fun _ _ _ h => h) (Or.inl ⟨by rfl, ?_⟩) ?_ ?_
        rotate_left
        ·intro w'
         go_simp
         with_reducible rfl
        rotate_left
        ·simp only [Act.put, List.setIfInBounds_toArray, List.set_cons_zero, List.set_cons_succ, i64_w, i32_w]
         rfl
        refine done_ (done_of HT_.out (by kernel_rfl)) ?_
        try go_wp2
        go_roundg k1
        case measure => have := HK1.out; omega
        case rel => exact ⟨(y546), (y552), (wrap64 (x12_1 + 1)), (by first | rfl | (simp; done) | (simp [*]; done)), H', ⟨by have := HK1.out; omega⟩, ⟨by (with_reducible repeat (first | apply Kd.R_alloc | apply Kd.R_drewN | apply Kd.R_drew)); exact Kd.R_mono HO548.out (fun _ hk => hk.2)⟩, ⟨by (with_reducible repeat (first | apply Kd.R_alloc | apply Kd.R_drewN | apply Kd.R_drew)); exact Kd.R_mono HO554.out (fun _ hk => hk.2.1)⟩, ⟨by (with_reducible repeat (first | apply Kd.R_alloc | apply Kd.R_drewN | apply Kd.R_drew)); exact Kd.R_mono HO_10.out (fun _ hk => hk.1)⟩, ⟨by (with_reducible repeat (first | refine blk_drewN ?_ _ | refine blk_drew ?_ | refine blk_alloc ?_ _)); exact BK537.out⟩, ⟨by repeat (first | (with_reducible first | exact HB.out | apply below_alloc | apply pw_below_drewN | apply below_drew1 | refine below_set ?_ GE537.out | refine below_set ?_ GE542.out) | exact HB.out)⟩⟩
       ·rw [if_neg c10] at H
        exact absurd H (by simp)
      ·rw [if_neg c9] at H
       exact absurd H (by simp)
     ·rw [if_neg c8] at H
      exact absurd H (by simp)
    ·rw [if_neg c7] at H
     exact absurd H (by simp)
   ·rw [if_neg c6] at H
    have c6b0 : decide (x12_1 < (t538.length : Int)) = false := decide_eq_false c6
    clear c6
    by_cases c27 : (x3_1.length : Int) = 0
    ·rw [if_pos c27] at H
     have c27b0 : ((x3_1.length : Int) == 0) = true := beq_iff_eq.mpr c27
     have c27b1 : ((x3_1.length : Int) != 0) = false := bne_eq_false_iff_eq.mpr c27
     clear c27
     simp only [Option.some.injEq, Prod.mk.injEq] at H
     obtain ⟨rfl, rfl, rfl, rfl⟩ := H
     obtain ⟨Ao28, co28, eo28⟩ := Kd.R_slice HO_3.out
     subst eo28
     have hcz29_0 : wr.cell? ⟨gb537, 0, none⟩ = some (.int .i64 0) := (blk_cell BK537.out 0).trans rfl
     have hcz29_1 : wr.cell? ⟨gb537, 1, none⟩ = some (.int .i64 0) := (blk_cell BK537.out 1).trans rfl
     have hcz29_2 : wr.cell? ⟨gb537, 2, none⟩ = some (.int .i64 0) := (blk_cell BK537.out 2).trans rfl
     have hcz29_3 : wr.cell? ⟨gb537, 3, none⟩ = some (.int .i64 0) := (blk_cell BK537.out 3).trans rfl
     have hfz29_0 := blk_frozen BK537.out 0
     have hfz29_1 := blk_frozen BK537.out 1
     have hfz29_2 := blk_frozen BK537.out 2
     have hfz29_3 := blk_frozen BK537.out 3
     go_wp2
     refine bodyPost_ret (results_cell_row rfl _ _ gb537 26 #[.int .i64 0, .int .i64 0, .int .i64 0, .int .i64 0] (0, 0) _ rfl (by (with_reducible repeat (first | refine blk_drewN ?_ _ | refine blk_drew ?_ | refine blk_alloc ?_ _)); refine blk_put (cs := #[.int .i64 0, .int .i64 0, .int .i64 0, .int .i64 0]) ?_ 3 _ rfl; (with_reducible repeat (first | refine blk_drewN ?_ _ | refine blk_drew ?_ | refine blk_alloc ?_ _)); refine blk_put (cs := #[.int .i64 0, .int .i64 0, .int .i64 0, .int .i64 0]) ?_ 2 _ rfl; (with_reducible repeat (first | refine blk_drewN ?_ _ | refine blk_drew ?_ | refine blk_alloc ?_ _)); refine blk_put (cs := #[.int .i64 0, .int .i64 0, .int .i64 0, .int .i64 0]) ?_ 1 _ rfl; (with_reducible repeat (first | refine blk_drewN ?_ _ | refine blk_drew ?_ | refine blk_alloc ?_ _)); refine blk_put (cs := #[.int .i64 0, .int .i64 0, .int .i64 0, .int .i64 0]) ?_ 0 _ rfl; (with_reducible repeat (first | refine blk_drewN ?_ _ | refine blk_drew ?_ | refine blk_alloc ?_ _)); exact BK537.out) Try.underlying26 rfl (by kernel_rfl)) rfl ?_
     exact ⟨by first | rfl | (simp [errW_none, errW_some] <;> rfl) | (simp [*, errW_none, errW_some] <;> rfl), by repeat (first | (with_reducible first | exact HB.out | apply below_alloc | apply pw_below_drewN | apply below_drew1 | refine below_set ?_ GE537.out) | exact HB.out)⟩
    ·rw [if_neg c27] at H
     have c27b0 : ((x3_1.length : Int) == 0) = false := beq_eq_false_iff_ne.mpr c27
     have c27b1 : ((x3_1.length : Int) != 0) = true := bne_iff_ne.mpr c27
     have c27b2 : ¬ (x3_1 = []) := fun h_ => c27 (by rw [h_]; rfl)
     replace H := Option.bind_eq_some_iff.mp H
     obtain ⟨t555, A300, H⟩ := H
     replace H : ((slices_Min_int_int.f x4_1).bind fun t556 => ((slices_Max_int_int.f x3_1).bind fun t557 => ((slices_Max_int_int.f x4_1).bind fun t558 => (some (t555, t556, wrap64 (t557 - t555), wrap64 (t558 - t556)))))) = some (r1, r2, r3, r4) := H
     have A30 := Aside0.mk A300
     clear A300
     replace H := Option.bind_eq_some_iff.mp H
     obtain ⟨t556, A310, H⟩ := H
     replace H : ((slices_Max_int_int.f x3_1).bind fun t557 => ((slices_Max_int_int.f x4_1).bind fun t558 => (some (t555, t556, wrap64 (t557 - t555), wrap64 (t558 - t556))))) = some (r1, r2, r3, r4) := H
     have A31 := Aside0.mk A310
     clear A310
     replace H := Option.bind_eq_some_iff.mp H
     obtain ⟨t557, A320, H⟩ := H
     replace H : ((slices_Max_int_int.f x4_1).bind fun t558 => (some (t555, t556, wrap64 (t557 - t555), wrap64 (t558 - t556)))) = some (r1, r2, r3, r4) := H
     have A32 := Aside0.mk A320
     clear A320
     replace H := Option.bind_eq_some_iff.mp H
     obtain ⟨t558, A330, H⟩ := H
     replace H : (some (t555, t556, wrap64 (t557 - t555), wrap64 (t558 - t556))) = some (r1, r2, r3, r4) := H
     have A33 := Aside0.mk A330
     clear A330
     simp only [Option.some.injEq, Prod.mk.injEq] at H
     obtain ⟨rfl, rfl, rfl, rfl⟩ := H
     obtain ⟨Ao34, co34, eo34⟩ := Kd.R_slice HO_3.out
     subst eo34
     go_wp2_with (first | ((with_reducible refine gate_callee (f := 37) rfl ?_); refine goesL_ (some 42) rfl rfl Try.func37 (by kernel_rfl) rfl #[.slice Ao34 x3_1.length co34] rfl (by (try simp only [List.map_toArray, List.map_cons, List.map_nil]); first | done | rfl | (simp only [List.length_drop, List.length_take]; rfl)) ?_; (with_reducible refine (slices_Min_int_int.calls _ _ x3_1 t555 _ ?side1 ?side2 A30.out).mono ?_); (case side1 => repeat (first | exact (Kd.R_reads' HO_3.out).2.2 | (with_reducible refine Kd.C_alloc ?_ _) | (with_reducible refine Kd.C_drewN ?_ _) | (with_reducible refine Kd.C_drew ?_))); (case side2 => exact (Kd.R_reads' HO_3.out).2.1); rintro e w35 ⟨rfl, hb⟩; refine ⟨_, rfl, ?_⟩; have n0_ := Aside0.mk (Kd.R_below (by (with_reducible repeat (first | apply Kd.R_alloc | apply Kd.R_drewN | apply Kd.R_drew)); exact HO_3.out) hb); have n1_ := Aside0.mk (Kd.R_below (by (with_reducible repeat (first | apply Kd.R_alloc | apply Kd.R_drewN | apply Kd.R_drew)); exact HO_4.out) hb); have n2_ := Aside0.mk (Kd.R_below (by (with_reducible repeat (first | apply Kd.R_alloc | apply Kd.R_drewN | apply Kd.R_drew)); exact HO_10.out) hb); have n3_ := Aside0.mk (blk_below (g := gb537) (o := .cells #[.int .i64 0, .int .i64 0, .int .i64 0, .int .i64 0] 26 (0, 0)) (by (with_reducible repeat (first | refine blk_drewN ?_ _ | refine blk_drew ?_ | refine blk_alloc ?_ _)); exact BK537.out) hb); have n4_ := Aside0.mk (below_step (by repeat (first | (with_reducible first | exact HB.out | apply below_alloc | apply pw_below_drewN | apply below_drew1 | refine below_set ?_ GE537.out) | exact HB.out)) hb); clear HO_3; clear HO_4; clear HO_10; clear BK537; clear HB; have HO_3 := n0_; have HO_4 := n1_; have HO_10 := n2_; have BK537 := n3_; have HB := n4_; clear n0_ n1_ n2_ n3_ n4_; (try clear hb); (try clear hb2); (try clear hk); (try clear hi); obtain ⟨Ao36, co36, eo36⟩ := Kd.R_slice HO_4.out; subst eo36) | ((with_reducible refine gate_callee (f := 37) rfl ?_); refine goesL_ (some 44) rfl rfl Try.func37 (by kernel_rfl) rfl #[.slice Ao36 x4_1.length co36] rfl (by (try simp only [List.map_toArray, List.map_cons, List.map_nil]); first | done | rfl | (simp only [List.length_drop, List.length_take]; rfl)) ?_; (with_reducible refine (slices_Min_int_int.calls _ _ x4_1 t556 _ ?side1 ?side2 A31.out).mono ?_); (case side1 => repeat (first | exact (Kd.R_reads' HO_4.out).2.2 | (with_reducible refine Kd.C_alloc ?_ _) | (with_reducible refine Kd.C_drewN ?_ _) | (with_reducible refine Kd.C_drew ?_))); (case side2 => exact (Kd.R_reads' HO_4.out).2.1); rintro e w37 ⟨rfl, hb⟩; refine ⟨_, rfl, ?_⟩; have n0_ := Aside0.mk (Kd.R_below (by (with_reducible repeat (first | apply Kd.R_alloc | apply Kd.R_drewN | apply Kd.R_drew)); exact HO_3.out) hb); have n1_ := Aside0.mk (Kd.R_below (by (with_reducible repeat (first | apply Kd.R_alloc | apply Kd.R_drewN | apply Kd.R_drew)); exact HO_4.out) hb); have n2_ := Aside0.mk (Kd.R_below (by (with_reducible repeat (first | apply Kd.R_alloc | apply Kd.R_drewN | apply Kd.R_drew)); exact HO_10.out) hb); have n3_ := Aside0.mk (blk_below (g := gb537) (o := .cells #[.int .i64 0, .int .i64 0, .int .i64 0, .int .i64 0] 26 (0, 0)) (by (with_reducible repeat (first | refine blk_drewN ?_ _ | refine blk_drew ?_ | refine blk_alloc ?_ _)); exact BK537.out) hb); have n4_ := Aside0.mk (below_step (by repeat (first | (with_reducible first | exact HB.out | apply below_alloc | apply pw_below_drewN | apply below_drew1 | refine below_set ?_ GE537.out) | exact HB.out)) hb); clear HO_3; clear HO_4; clear HO_10; clear BK537; clear HB; have HO_3 := n0_; have HO_4 := n1_; have HO_10 := n2_; have BK537 := n3_; have HB := n4_; clear n0_ n1_ n2_ n3_ n4_; (try clear hb); (try clear hb2); (try clear hk); (try clear hi)) | ((with_reducible refine gate_callee (f := 38) rfl ?_); refine goesL_ (some 48) rfl rfl Try.func38 (by kernel_rfl) rfl #[.slice Ao34 x3_1.length co34] rfl (by (try simp only [List.map_toArray, List.map_cons, List.map_nil]); first | done | rfl | (simp only [List.length_drop, List.length_take]; rfl)) ?_; (with_reducible refine (slices_Max_int_int.calls _ _ x3_1 t557 _ ?side1 ?side2 A32.out).mono ?_); (case side1 => repeat (first | exact (Kd.R_reads' HO_3.out).2.2 | (with_reducible refine Kd.C_alloc ?_ _) | (with_reducible refine Kd.C_drewN ?_ _) | (with_reducible refine Kd.C_drew ?_))); (case side2 => exact (Kd.R_reads' HO_3.out).2.1); rintro e w38 ⟨rfl, hb⟩; refine ⟨_, rfl, ?_⟩; have n0_ := Aside0.mk (Kd.R_below (by (with_reducible repeat (first | apply Kd.R_alloc | apply Kd.R_drewN | apply Kd.R_drew)); exact HO_3.out) hb); have n1_ := Aside0.mk (Kd.R_below (by (with_reducible repeat (first | apply Kd.R_alloc | apply Kd.R_drewN | apply Kd.R_drew)); exact HO_4.out) hb); have n2_ := Aside0.mk (Kd.R_below (by (with_reducible repeat (first | apply Kd.R_alloc | apply Kd.R_drewN | apply Kd.R_drew)); exact HO_10.out) hb); have n3_ := Aside0.mk (blk_below (g := gb537) (o := .cells #[.int .i64 0, .int .i64 0, .int .i64 0, .int .i64 0] 26 (0, 0)) (by (with_reducible repeat (first | refine blk_drewN ?_ _ | refine blk_drew ?_ | refine blk_alloc ?_ _)); exact BK537.out) hb); have n4_ := Aside0.mk (below_step (by repeat (first | (with_reducible first | exact HB.out | apply below_alloc | apply pw_below_drewN | apply below_drew1 | refine below_set ?_ GE537.out) | exact HB.out)) hb); clear HO_3; clear HO_4; clear HO_10; clear BK537; clear HB; have HO_3 := n0_; have HO_4 := n1_; have HO_10 := n2_; have BK537 := n3_; have HB := n4_; clear n0_ n1_ n2_ n3_ n4_; (try clear hb); (try clear hb2); (try clear hk); (try clear hi)) | ((with_reducible refine gate_callee (f := 38) rfl ?_); refine goesL_ (some 52) rfl rfl Try.func38 (by kernel_rfl) rfl #[.slice Ao36 x4_1.length co36] rfl (by (try simp only [List.map_toArray, List.map_cons, List.map_nil]); first | done | rfl | (simp only [List.length_drop, List.length_take]; rfl)) ?_; (with_reducible refine (slices_Max_int_int.calls _ _ x4_1 t558 _ ?side1 ?side2 A33.out).mono ?_); (case side1 => repeat (first | exact (Kd.R_reads' HO_4.out).2.2 | (with_reducible refine Kd.C_alloc ?_ _) | (with_reducible refine Kd.C_drewN ?_ _) | (with_reducible refine Kd.C_drew ?_))); (case side2 => exact (Kd.R_reads' HO_4.out).2.1); rintro e w39 ⟨rfl, hb⟩; refine ⟨_, rfl, ?_⟩; have n0_ := Aside0.mk (Kd.R_below (by (with_reducible repeat (first | apply Kd.R_alloc | apply Kd.R_drewN | apply Kd.R_drew)); exact HO_3.out) hb); have n1_ := Aside0.mk (Kd.R_below (by (with_reducible repeat (first | apply Kd.R_alloc | apply Kd.R_drewN | apply Kd.R_drew)); exact HO_4.out) hb); have n2_ := Aside0.mk (Kd.R_below (by (with_reducible repeat (first | apply Kd.R_alloc | apply Kd.R_drewN | apply Kd.R_drew)); exact HO_10.out) hb); have n3_ := Aside0.mk (blk_below (g := gb537) (o := .cells #[.int .i64 0, .int .i64 0, .int .i64 0, .int .i64 0] 26 (0, 0)) (by (with_reducible repeat (first | refine blk_drewN ?_ _ | refine blk_drew ?_ | refine blk_alloc ?_ _)); exact BK537.out) hb); have n4_ := Aside0.mk (below_step (by repeat (first | (with_reducible first | exact HB.out | apply below_alloc | apply pw_below_drewN | apply below_drew1 | refine below_set ?_ GE537.out) | exact HB.out)) hb); clear HO_3; clear HO_4; clear HO_10; clear BK537; clear HB; have HO_3 := n0_; have HO_4 := n1_; have HO_10 := n2_; have BK537 := n3_; have HB := n4_; clear n0_ n1_ n2_ n3_ n4_; (try clear hb); (try clear hb2); (try clear hk); (try clear hi); have hcz40_0 : w39.cell? ⟨gb537, 0, none⟩ = some (.int .i64 0) := (blk_cell BK537.out 0).trans rfl; have hcz40_1 : w39.cell? ⟨gb537, 1, none⟩ = some (.int .i64 0) := (blk_cell BK537.out 1).trans rfl; have hcz40_2 : w39.cell? ⟨gb537, 2, none⟩ = some (.int .i64 0) := (blk_cell BK537.out 2).trans rfl; have hcz40_3 : w39.cell? ⟨gb537, 3, none⟩ = some (.int .i64 0) := (blk_cell BK537.out 3).trans rfl; have hfz40_0 := blk_frozen BK537.out 0; have hfz40_1 := blk_frozen BK537.out 1; have hfz40_2 := blk_frozen BK537.out 2; have hfz40_3 := blk_frozen BK537.out 3))
     refine bodyPost_ret (results_cell_row rfl _ _ gb537 26 #[.int .i64 t555, .int .i64 t556, .int .i64 (wrap64 (t557 - t555)), .int .i64 (wrap64 (t558 - t556))] (0, 0) _ rfl (by (with_reducible repeat (first | refine blk_drewN ?_ _ | refine blk_drew ?_ | refine blk_alloc ?_ _)); refine blk_put (cs := #[.int .i64 t555, .int .i64 t556, .int .i64 (wrap64 (t557 - t555)), .int .i64 0]) ?_ 3 _ rfl; (with_reducible repeat (first | refine blk_drewN ?_ _ | refine blk_drew ?_ | refine blk_alloc ?_ _)); refine blk_put (cs := #[.int .i64 t555, .int .i64 t556, .int .i64 0, .int .i64 0]) ?_ 2 _ rfl; (with_reducible repeat (first | refine blk_drewN ?_ _ | refine blk_drew ?_ | refine blk_alloc ?_ _)); refine blk_put (cs := #[.int .i64 t555, .int .i64 0, .int .i64 0, .int .i64 0]) ?_ 1 _ rfl; (with_reducible repeat (first | refine blk_drewN ?_ _ | refine blk_drew ?_ | refine blk_alloc ?_ _)); refine blk_put (cs := #[.int .i64 0, .int .i64 0, .int .i64 0, .int .i64 0]) ?_ 0 _ rfl; (with_reducible repeat (first | refine blk_drewN ?_ _ | refine blk_drew ?_ | refine blk_alloc ?_ _)); exact BK537.out) Try.underlying26 rfl (by kernel_rfl)) rfl ?_
     exact ⟨by first | rfl | (simp [errW_none, errW_some] <;> rfl) | (simp [*, errW_none, errW_some] <;> rfl), by repeat (first | (with_reducible first | exact HB.out | apply below_alloc | apply pw_below_drewN | apply below_drew1 | refine below_set ?_ GE537.out) | exact HB.out)⟩

end Go.Proofs.Ytkobiblgbpnlaaa.X
